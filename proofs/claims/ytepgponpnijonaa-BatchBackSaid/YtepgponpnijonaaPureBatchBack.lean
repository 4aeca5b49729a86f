/- What is put is got; what is got is put as it was; shorter, or longer, it isn't got. For every batch, every row of bytes, every place. -/
import Derived.Test.YtepgponpnijonaaStBatchBack
import Derived.Test.YtepgponpnijonaaAidQ
namespace Go.Proofs.Ytepgponpnijonaa.Print
open Go.RowKit Go.Proofs.YtepgponpnijonaaW.PrintWords Go.Proofs.YtepgponpnijonaaW.PrintLast Go.Proofs.YtepgponpnijonaaW.PrintMore
set_option linter.unusedVariables false
set_option linter.unusedSimpArgs false

theorem wf_u16 {n : Int} (h : (Lit.int .u16 n).wf = true) : 0 ≤ n ∧ n ≤ 65535 := by
  simp only [Lit.wf, Bool.and_eq_true, decide_eq_true_eq] at h; exact h
/-- What is shorter isn't got. -/
theorem get_short (s e : Nat) (l : List S53) (hl : l.length ≤ 64) (m : Nat) (hm : m < (putN s e l).length) : getS ((putN s e l).take m) = (0, 0, [], 14) := by
  have hlen := putN_len s e l
  have htl : ((putN s e l).take m).length = m := by rw [List.length_take]; omega
  have hg : ∀ j, j < m → ((putN s e l).take m).getD j 0 = (putN s e l).getD j 0 := fun j hj => by
    rw [List.getD_eq_getElem?_getD, List.getD_eq_getElem?_getD, List.getElem?_take_of_lt hj]
  have h0 : (putN s e l).getD 0 0 = 76 := rfl
  have h1 : (putN s e l).getD 1 0 = 66 := rfl
  have h10 : (putN s e l).getD 10 0 = l.length := by
    have : (putN s e l).getD 10 0 = l.length % 256 := rfl
    rw [this]; omega
  unfold getS
  rw [htl]
  by_cases c : m < 15
  · rw [if_pos c]
  · rw [if_neg c, hg 0 (by omega), hg 1 (by omega), hg 10 (by omega), h0, h1, h10, if_neg (by simp), if_pos (by omega)]
/-- What is longer isn't got. -/
theorem get_long (s e : Nat) (l : List S53) (hl : l.length ≤ 64) (y : Nat) : getS (putN s e l ++ [y]) = (0, 0, [], 6) := by
  have hlen := putN_len s e l
  have htl : (putN s e l ++ [y]).length = 15 + 9 * l.length + 1 := by rw [List.length_append, hlen]; rfl
  have hg : ∀ j, j < 15 → (putN s e l ++ [y]).getD j 0 = (putN s e l).getD j 0 := fun j hj => by
    rw [List.getD_eq_getElem?_getD, List.getD_eq_getElem?_getD, List.getElem?_append_left (by omega)]
  have h0 : (putN s e l).getD 0 0 = 76 := rfl
  have h1 : (putN s e l).getD 1 0 = 66 := rfl
  have h10 : (putN s e l).getD 10 0 = l.length := by
    have : (putN s e l).getD 10 0 = l.length % 256 := rfl
    rw [this]; omega
  unfold getS
  rw [htl, if_neg (by omega), hg 0 (by omega), hg 1 (by omega), hg 10 (by omega), h0, h1, h10, if_neg (by simp), if_neg (by omega), if_pos (by omega)]
theorem head_back (x0 x1 x2 x3 x4 x5 x6 x7 x8 x9 x10 : Nat) (h : ∀ x ∈ [x2, x3, x4, x5, x6, x7, x8, x9, x10], x < 256) : headN (val [x2, x3, x4, x5]) (val [x6, x7, x8, x9]) x10 = [76, 66, x2, x3, x4, x5, x6, x7, x8, x9, x10] := by
  have e1 := leb_val [x2, x3, x4, x5] (fun x hx => h x (by simp at hx ⊢; omega))
  have e2 := leb_val [x6, x7, x8, x9] (fun x hx => h x (by simp at hx ⊢; omega))
  have e3 : x10 % 256 = x10 := Nat.mod_eq_of_lt (h x10 (by simp))
  unfold headN
  rw [show [x2, x3, x4, x5].length = 4 from rfl] at e1
  rw [show [x6, x7, x8, x9].length = 4 from rfl] at e2
  rw [e1, e2, e3]
  rfl
set_option maxHeartbeats 4000000 in
/-- What is got is put as it was. -/
theorem put_get (b : List Nat) (hb : ∀ x ∈ b, x < 256) (hl : b.length = 15 + 9 * b.getD 10 0) (hs : val (b.drop (b.length - 4)) = sumN (b.take (b.length - 4))) (h0 : b.getD 0 0 = 76) (h1 : b.getD 1 0 = 66) :
    putN (val ((b.take 6).drop 2)) (val ((b.take 10).drop 6)) (parseN (b.getD 10 0) ((b.take (b.length - 4)).drop 11)) = b := by
  have hsplit : b = b.take (b.length - 4) ++ b.drop (b.length - 4) := (List.take_append_drop _ _).symm
  have hdl : (b.drop (b.length - 4)).length = 4 := by rw [List.length_drop]; omega
  have hd : leb 4 (sumN (b.take (b.length - 4))) = b.drop (b.length - 4) := by
    rw [← hs]
    have := leb_val (b.drop (b.length - 4)) (fun x hx => hb x (List.mem_of_mem_drop hx))
    rw [hdl] at this
    exact this
  have hbody : bodyN (val ((b.take 6).drop 2)) (val ((b.take 10).drop 6)) (parseN (b.getD 10 0) ((b.take (b.length - 4)).drop 11)) = b.take (b.length - 4) := by
    have hpl : ((b.take (b.length - 4)).drop 11).length = 9 * b.getD 10 0 := by rw [List.length_drop, List.length_take]; omega
    have hp := parse_back (b.getD 10 0) ((b.take (b.length - 4)).drop 11) hpl (fun x hx => hb x (List.mem_of_mem_take (List.mem_of_mem_drop hx)))
    have hh : headN (val ((b.take 6).drop 2)) (val ((b.take 10).drop 6)) (b.getD 10 0) = (b.take (b.length - 4)).take 11 := by
      have h11 : (b.take (b.length - 4)).take 11 = b.take 11 := by rw [List.take_take, Nat.min_eq_left (by omega)]
      rw [h11]
      clear hsplit hdl hd hpl hp h11 hs
      match b, hl, hb, h0, h1 with
      | x0 :: x1 :: x2 :: x3 :: x4 :: x5 :: x6 :: x7 :: x8 :: x9 :: x10 :: t, hl, hb, h0, h1 =>
        have q0 : x0 = 76 := h0
        have q1 : x1 = 66 := h1
        subst q0 q1
        exact head_back 76 66 x2 x3 x4 x5 x6 x7 x8 x9 x10 (fun x hx => hb x (by simp at hx ⊢; omega))
      | [], hl, _, _, _ => simp at hl
      | [_], hl, _, _, _ => simp at hl
      | [_, _], hl, _, _, _ => simp at hl
      | [_, _, _], hl, _, _, _ => simp at hl
      | [_, _, _, _], hl, _, _, _ => simp at hl
      | [_, _, _, _, _], hl, _, _, _ => simp at hl
      | [_, _, _, _, _, _], hl, _, _, _ => simp at hl
      | [_, _, _, _, _, _, _], hl, _, _, _ => simp at hl
      | [_, _, _, _, _, _, _, _], hl, _, _, _ => simp at hl
      | [_, _, _, _, _, _, _, _, _], hl, _, _, _ => simp at hl
      | [_, _, _, _, _, _, _, _, _, _], hl, _, _, _ => simp at hl
    unfold bodyN
    rw [hp, parseN_len, hh, List.take_append_drop]
  unfold putN
  rw [hbody, hd]
  exact hsplit.symm
theorem back_rest (k : Nat) (hk : 50000 ≤ k) (b : List Nat) (hb : ∀ x ∈ b, x < 256) (hl : b.length ≤ 3000) : lombardlaw18_BatchBack.rest k (ints b) = some true := by
  unfold lombardlaw18_BatchBack.rest
  rw [Get_at k b hb (by omega) (by omega), Option.bind_some]
  rcases getS_or b with ⟨e, he, h⟩ | ⟨h1, h2, h, h3, h4, h5⟩
  · rw [h]
    dsimp only
    rw [if_neg he, if_pos (by rfl)]
  · rw [h]
    dsimp only
    rw [if_pos rfl, Put_at k _ _ _ (by omega), Option.bind_some]
    have hok : putS (val ((b.take 6).drop 2) : Nat) (val ((b.take 10).drop 6) : Nat) (parseN (b.getD 10 0) ((b.take (b.length - 4)).drop 11)) = (ints b, 0) := by
      unfold putS
      rw [if_pos h5]
      have u : ∀ n : Nat, n < 18446744073709551616 → u64N (n : Int) = n := fun n hn => by unfold u64N; omega
      have v1 := val4 (l := (b.take 6).drop 2) (fun y hy => hb y (List.mem_of_mem_take (List.mem_of_mem_drop hy))) (by rw [List.length_drop, List.length_take]; omega)
      have v2 := val4 (l := (b.take 10).drop 6) (fun y hy => hb y (List.mem_of_mem_take (List.mem_of_mem_drop hy))) (by rw [List.length_drop, List.length_take]; omega)
      rw [u _ (by omega), u _ (by omega), put_get b hb h1 h2 h3 h4]
    rw [hok]
    dsimp only
    rw [if_pos rfl, Bytes_at _ _ _ (by rw [ints_len]; omega) (by rw [ints_len]; omega), Option.bind_some, if_pos (by simp)]
set_option maxHeartbeats 4000000 in
theorem Pure.BatchBack : BatchBackPure := by
  intro s x a ws wx wa
  obtain ⟨b, rfl, hbl, hb⟩ := ints_of x (bytes_wf wx.2)
  have ha := wf_u16 wa
  refine ⟨60000, ?_⟩
  unfold lombardlaw18_BatchBack.f
  rw [alive_at _ (by omega), Option.bind_some, if_pos rfl, ints_len]
  by_cases c : 300 < s.f2.length ∨ 3000 < b.length
  · rw [if_pos c]
  rw [if_neg c]
  have hrest := back_rest 60000 (by omega) b hb (by omega)
  rw [To18_at _ _ _ _ (by omega) (by omega), Option.bind_some]
  dsimp only
  rw [Put_at _ _ _ _ (by omega), Option.bind_some]
  by_cases d : (putS s.f0 s.f1 (s.f2.map c45)).2 = 0
  · obtain ⟨hc, hp⟩ := putS_ok d
    have hl64 := bchk_len hc
    rw [if_pos d, hp]
    have hlen := putN_len (u64N s.f0) (u64N s.f1) (s.f2.map c45)
    have hlt := putN_lt (u64N s.f0) (u64N s.f1) (s.f2.map c45)
    have hm : (a % ((ints (putN (u64N s.f0) (u64N s.f1) (s.f2.map c45))).length : Int)).toNat < (putN (u64N s.f0) (u64N s.f1) (s.f2.map c45)).length := by
      rw [ints_len]
      have q1 := Int.emod_nonneg a (b := ((putN (u64N s.f0) (u64N s.f1) (s.f2.map c45)).length : Int)) (by omega)
      have q2 := Int.emod_lt_of_pos a (b := ((putN (u64N s.f0) (u64N s.f1) (s.f2.map c45)).length : Int)) (by omega)
      omega
    have hshort := get_short (u64N s.f0) (u64N s.f1) (s.f2.map c45) hl64 _ hm
    have hlong := get_long (u64N s.f0) (u64N s.f1) (s.f2.map c45) hl64 (a % 256).toNat
    rw [if_pos ⟨by rw [ints_len]; omega, by rw [ints_len]; omega, by omega, by omega⟩, Get_at _ _ hlt (by omega) (by omega), Option.bind_some, ints_take, Get_at _ _ (fun x hx => hlt x (List.mem_of_mem_take hx)) (by rw [List.length_take]; omega) (by omega), Option.bind_some, hshort, mod_ints, ints_append,
      Get_at _ _ (fun x hx => by
        rcases List.mem_append.mp hx with h | h
        · exact hlt x h
        · rw [List.mem_singleton] at h; omega) (by rw [List.length_append]; simp; omega) (by omega), Option.bind_some, hlong, get_put _ _ _ hc]
    dsimp only
    rw [if_pos rfl]
    unfold lombardlaw18_From.f
    rw [From_at _ _ (by rw [List.length_map]; omega) (by rw [List.length_map]; omega), Option.bind_some, Option.bind_some, back48]
    dsimp only
    rw [Same18_at _ _ _ _ _ _ _ (by omega) (by omega), Option.bind_some, if_pos ⟨by simp, .inl rfl, rfl⟩]
    exact hrest
  · rw [if_neg d]
    exact hrest

end Go.Proofs.Ytepgponpnijonaa.Print
