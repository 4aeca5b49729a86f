import Derived.Test.YtepgponpnijonaaPrint18
import Derived.Test.YtepgponpnijonaaAidH
namespace Go.Proofs.Ytepgponpnijonaa.Print
open Go.RowKit Go.Proofs.YtepgponpnijonaaW.PrintWords Go.Proofs.YtepgponpnijonaaW.PrintLast Go.Proofs.YtepgponpnijonaaW.PrintMore
set_option linter.unusedVariables false
set_option linter.unusedSimpArgs false

theorem rGet_l0 (b : List Nat) (n : Nat) (hb : ∀ x ∈ b, x < 256) (hn : n ≤ 255) (hl : b.length = 15 + 9 * n) (seq ev : Int) (m : Nat) (hm : 100 ≤ m) : ∀ (d i : Nat) (acc : List S53), i + d = n → acc.length = i →
    lombardref18_Get.l0 (m + d + 1) (ints b) (n : Int) (i : Int) seq ev (acc.map c48) = some (convG (if bchk seq ev (acc ++ parseN d ((b.drop (11 + 9 * i)).take (9 * d))) = 0 then (seq, ev, acc ++ parseN d ((b.drop (11 + 9 * i)).take (9 * d)), 0) else (0, 0, [], 6))) := by
  intro d
  induction d with
  | zero =>
    intro i acc hi ha
    rw [lombardref18_Get.l0, if_neg (by omega), parseN, List.append_nil, r18Check_at _ _ _ _ (by omega), Option.bind_some, back45]
    by_cases c : bchk seq ev acc = 0
    · rw [if_pos c, if_pos c]; rfl
    · rw [if_neg c, if_neg c]; rfl
  | succ d ih =>
    intro i acc hi ha
    have w1 : wrap64 (11 + wrap64 (9 * (i : Int))) = ((11 + 9 * i : Nat) : Int) := by rw [w64 (x := 9 * (i : Int)) (by omega) (by omega), w64 (by omega) (by omega)]; omega
    have w2 : wrap64 (20 + wrap64 (9 * (i : Int))) = ((20 + 9 * i : Nat) : Int) := by rw [w64 (x := 9 * (i : Int)) (by omega) (by omega), w64 (by omega) (by omega)]; omega
    have hx : (b.take (20 + 9 * i)).drop (11 + 9 * i) = (b.drop (11 + 9 * i)).take 9 := by
      rw [List.drop_take]; congr 1; omega
    have hxl : ((b.drop (11 + 9 * i)).take 9).length = 9 := by rw [List.length_take, List.length_drop]; omega
    have hxb : ∀ y ∈ (b.drop (11 + 9 * i)).take 9, y < 256 := fun y hy => hb y (List.mem_of_mem_drop (List.mem_of_mem_take hy))
    rw [lombardref18_Get.l0, if_pos (by omega), w1, w2, if_pos (by omega), if_pos (by omega), if_pos (by rw [ints_len]; omega), Int.toNat_natCast, Int.toNat_natCast, ints_take, ints_drop, hx, ints_len, hxl, if_pos (by decide), if_pos (by decide), ints_drop,
      value_at _ _ (fun y hy => hxb y (List.mem_of_mem_drop hy)) (by rw [List.length_drop]; omega) (by omega), Option.bind_some, if_pos (by simp; omega), w64 (x := (i : Int) + 1) (by omega) (by omega), show ((i : Int) + 1) = ((i + 1 : Nat) : Int) by omega]
    have hr : wrap64 (rd (ints ((b.drop (11 + 9 * i)).take 9)) 0) = ((((b.drop (11 + 9 * i)).take 9).getD 0 0 : Nat) : Int) := by
      have h1 := rd_getD ((b.drop (11 + 9 * i)).take 9) 0 (by omega)
      have h2 := getD_lt hxb 0
      rw [show ((0 : Nat) : Int) = 0 from rfl] at h1
      rw [h1, w64 (by omega) (by omega)]
    have ea : acc.map c48 ++ [(⟨wrap64 (rd (ints ((b.drop (11 + 9 * i)).take 9)) 0), wrap64 ((val (((b.drop (11 + 9 * i)).take 9).drop 1) : Nat) : Int)⟩ : S59)] = (acc ++ [(⟨((((b.drop (11 + 9 * i)).take 9).getD 0 0 : Nat) : Int), wrap64 ((val (((b.drop (11 + 9 * i)).take 9).drop 1) : Nat) : Int)⟩ : S53)]).map c48 := by
      rw [List.map_append, hr]; rfl
    rw [ea, show m + (d + 1) = m + d + 1 from rfl, ih (i + 1) _ (by omega) (by simp; omega)]
    have hp : acc ++ parseN (d + 1) ((b.drop (11 + 9 * i)).take (9 * (d + 1))) = (acc ++ [(⟨((((b.drop (11 + 9 * i)).take 9).getD 0 0 : Nat) : Int), wrap64 ((val (((b.drop (11 + 9 * i)).take 9).drop 1) : Nat) : Int)⟩ : S53)]) ++ parseN d ((b.drop (11 + 9 * (i + 1))).take (9 * d)) := by
      rw [parseN, List.append_assoc]
      have t1 : ((b.drop (11 + 9 * i)).take (9 * (d + 1))).take 9 = (b.drop (11 + 9 * i)).take 9 := by rw [List.take_take, Nat.min_eq_left (by omega)]
      have t2 : ((b.drop (11 + 9 * i)).take (9 * (d + 1))).drop 9 = (b.drop (11 + 9 * (i + 1))).take (9 * d) := by
        rw [List.drop_take, List.drop_drop]
        have q1 : 9 * (d + 1) - 9 = 9 * d := by omega
        have q2 : 11 + 9 * i + 9 = 11 + 9 * (i + 1) := by omega
        rw [q1, q2]
      have t3 : ((b.drop (11 + 9 * i)).take (9 * (d + 1))).getD 0 0 = ((b.drop (11 + 9 * i)).take 9).getD 0 0 := by
        rw [List.getD_eq_getElem?_getD, List.getD_eq_getElem?_getD, List.getElem?_take_of_lt (by omega), List.getElem?_take_of_lt (by omega)]
      rw [t1, t2, t3]; rfl
    rw [hp]
theorem rGet_at (k : Nat) (b : List Nat) (hb : ∀ x ∈ b, x < 256) (hl : b.length ≤ 3000) (hk : 40000 ≤ k) : lombardref18_Get.f k (ints b) = some (convG (getS b)) := by
  unfold lombardref18_Get.f getS
  rw [ints_len]
  by_cases c : b.length < 15
  · rw [if_pos (by omega), if_pos c]; rfl
  rw [if_neg (by omega), if_neg c, if_pos (by omega)]
  have r0 := rd_getD b 0 (by omega)
  have r1 := rd_getD b 1 (by omega)
  have r10 := rd_getD b 10 (by omega)
  rw [show ((0 : Nat) : Int) = 0 from rfl] at r0
  rw [show ((1 : Nat) : Int) = 1 from rfl] at r1
  rw [show ((10 : Nat) : Int) = 10 from rfl] at r10
  have h10 := getD_lt hb 10
  obtain ⟨k, rfl⟩ : ∃ j, k = j + 1 := ⟨k - 1, by omega⟩
  have hj : ∀ x : Bool, x = true → lombardref18_Get.j0 (k + 1) (ints b) x = some (convG (0, 0, [], 6)) := by
    intro x hx
    rw [lombardref18_Get.j0, if_pos hx]; rfl
  by_cases c0 : b.getD 0 0 = 76
  · rw [if_pos (by omega), if_pos (by omega), r1]
    by_cases c1 : b.getD 1 0 = 66
    · rw [if_neg (show ¬ ¬ (b.getD 0 0 = 76 ∧ b.getD 1 0 = 66) from fun z => z ⟨c0, c1⟩)]
      have hne : ((((b.getD 1 0 : Nat) : Int)) != 66) = false := by rw [c1]; rfl
      rw [hne, lombardref18_Get.j0, if_neg (by decide), ints_len, if_pos (by omega), r10]
      rw [w64 (x := ((b.getD 10 0 : Nat) : Int)) (by omega) (by omega), w64 (x := 9 * ((b.getD 10 0 : Nat) : Int)) (by omega) (by omega), w64 (x := 15 + 9 * ((b.getD 10 0 : Nat) : Int)) (by omega) (by omega)]
      by_cases d1 : b.length < 15 + 9 * b.getD 10 0
      · rw [if_pos (by omega), if_pos d1]; rfl
      rw [if_neg (by omega), if_neg d1]
      by_cases d2 : b.length > 15 + 9 * b.getD 10 0
      · rw [if_pos (by omega), if_pos d2]; rfl
      have e4 : ((b.length : Int) - 4).toNat = b.length - 4 := by omega
      have hln : (b.take (b.length - 4)).length = b.length - 4 := by rw [List.length_take]; omega
      rw [if_neg (by omega), if_neg d2, w64 (x := (b.length : Int) - 4) (by omega) (by omega), if_pos (by omega), if_pos (by omega), e4, ints_drop, value_at _ _ (fun y hy => hb y (List.mem_of_mem_drop hy)) (by rw [List.length_drop]; omega) (by omega), Option.bind_some,
        ints_take, rSum_at _ _ (by omega) (fun y hy => hb y (List.mem_of_mem_take hy)) (by omega), Option.bind_some]
      have v4 := val4 (l := b.drop (b.length - 4)) (fun y hy => hb y (List.mem_of_mem_drop hy)) (by rw [List.length_drop]; omega)
      have s4 := sumN_lt (b.take (b.length - 4)) (fun y hy => hb y (List.mem_of_mem_take hy))
      rw [u64w (Int.natCast_nonneg _) (by omega)]
      by_cases d3 : val (b.drop (b.length - 4)) = sumN (b.take (b.length - 4))
      · rw [if_pos (by omega), if_neg (show ¬ ¬ _ from fun z => z d3), if_pos (by decide), if_pos (by omega), ints_take, ints_drop]
        have hs : ∀ x ∈ (b.take 6).drop 2, x < 256 := fun y hy => hb y (List.mem_of_mem_take (List.mem_of_mem_drop hy))
        have he : ∀ x ∈ (b.take 10).drop 6, x < 256 := fun y hy => hb y (List.mem_of_mem_take (List.mem_of_mem_drop hy))
        have vs := val4 hs (by simp; omega)
        have ve := val4 he (by simp; omega)
        rw [value_at k _ hs (by simp; omega) (by omega), Option.bind_some, if_pos (by decide), if_pos (by omega), ints_take, ints_drop, value_at k _ he (by simp; omega) (by omega), Option.bind_some, w64 (x := ((val ((b.take 6).drop 2) : Nat) : Int)) (by omega) (by omega), w64 (x := ((val ((b.take 10).drop 6) : Nat) : Int)) (by omega) (by omega)]
        obtain ⟨m, rfl⟩ : ∃ m, k = m + b.getD 10 0 + 1 := ⟨k - b.getD 10 0 - 1, by omega⟩
        have := rGet_l0 b (b.getD 10 0) hb (by omega) (by omega) (val ((b.take 6).drop 2) : Nat) (val ((b.take 10).drop 6) : Nat) m (by omega) (b.getD 10 0) 0 [] (by omega) rfl
        rw [List.nil_append, Nat.mul_zero, Nat.add_zero] at this
        have et : (b.drop 11).take (9 * b.getD 10 0) = (b.take (b.length - 4)).drop 11 := by
          rw [List.drop_take]; congr 1; omega
        rw [et] at this
        exact this
      · rw [if_neg (by omega), if_pos d3]; rfl
    · rw [if_pos (show ¬ (b.getD 0 0 = 76 ∧ b.getD 1 0 = 66) from fun z => c1 z.2)]
      exact hj _ (by rw [bne_iff_ne]; omega)
  · rw [if_neg (by omega), if_pos (show ¬ (b.getD 0 0 = 76 ∧ b.getD 1 0 = 66) from fun z => c0 z.1)]
    exact hj _ rfl
end Go.Proofs.Ytepgponpnijonaa.Print
