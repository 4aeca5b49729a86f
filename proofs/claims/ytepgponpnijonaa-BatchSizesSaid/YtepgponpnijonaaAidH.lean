import Derived.Test.YtepgponpnijonaaPrint12
import Derived.Test.YtepgponpnijonaaAidG
namespace Go.Proofs.Ytepgponpnijonaa.Print
open Go.RowKit Go.Proofs.YtepgponpnijonaaW.PrintWords Go.Proofs.YtepgponpnijonaaW.PrintLast Go.Proofs.YtepgponpnijonaaW.PrintMore
set_option linter.unusedVariables false
set_option linter.unusedSimpArgs false

theorem ints_one (n : Nat) : [((n : Nat) : Int)] = ints [n] := rfl
theorem ints_take (l : List Nat) (n : Nat) : (ints l).take n = ints (l.take n) := by simp [ints]
theorem ints_drop (l : List Nat) (n : Nat) : (ints l).drop n = ints (l.drop n) := by simp [ints]
theorem mod_ints (x : Int) : [x % 256] = ints [(x % 256).toNat] := by
  unfold ints
  rw [List.map_cons, List.map_nil, Int.toNat_of_nonneg (by omega)]
theorem Put_l0 (l : List S53) (hl : l.length ≤ 64) (m : Nat) (hm : 20 ≤ m) : ∀ (d i : Nat) (acc : List Nat), i + d = l.length → acc.length + 9 * d ≤ 100000 → (∀ x ∈ acc, x < 256) →
    batch_Put.l0 (m + d + 1) (ints acc) l (l.length : Int) (i : Int) = some (ints ((acc ++ linesB (l.drop i)) ++ leb 4 (sumN (acc ++ linesB (l.drop i)))), 0) := by
  intro d
  induction d with
  | zero =>
    intro i acc hi ha hb
    rw [batch_Put.l0, if_neg (by omega), List.drop_of_length_le (by omega), linesB, List.append_nil, Sum_at acc hb (by omega), Option.bind_some,
      show (4 : Int) = ((4 : Nat) : Int) from rfl, batch_put_uint32_at m (sumN acc) _ (u64w (Int.natCast_nonneg _) (by have := sumN_lt acc hb; omega)) 4 (by decide) acc (by omega) (by omega), Option.bind_some]
  | succ d ih =>
    intro i acc hi ha hb
    have c : i < l.length := by omega
    rw [batch_Put.l0, if_pos (by omega), if_pos (by omega), if_pos (by omega), rd45 l i c, if_pos (by rw [ints_len]; omega), mod_ints, ints_append,
      show (8 : Int) = ((8 : Nat) : Int) from rfl, batch_put_int64_at (m + (d + 1)) (u64N l[i].f1) _ (u64N_at _) 8 (by decide) _ (by simp; omega) (by omega), Option.bind_some, w64 (by omega) (by omega), show ((i : Int) + 1) = ((i + 1 : Nat) : Int) by omega]
    have e : acc ++ [(l[i].f0 % 256).toNat] ++ leb 8 (u64N l[i].f1) = acc ++ lineB l[i] := by rw [List.append_assoc]; rfl
    rw [e, show m + (d + 1) = m + d + 1 from rfl, ih (i + 1) _ (by omega) (by rw [List.length_append, lineB_len]; omega) (by
      intro x hx
      rcases List.mem_append.mp hx with h | h
      · exact hb x h
      · exact lineB_lt _ x h), List.drop_eq_getElem_cons c, linesB, ← List.append_assoc acc]
/-- What Put gives. -/
def putS (seq ev : Int) (l : List S53) : List Int × Int := if bchk seq ev l = 0 then (ints (putN (u64N seq) (u64N ev) l), 0) else ([], bchk seq ev l)
theorem Put_at (k : Nat) (seq ev : Int) (l : List S53) (hk : 200 ≤ k) : batch_Put.f k seq ev l = some (putS seq ev l) := by
  unfold batch_Put.f putS
  rw [bCheck_at k seq ev l (by omega), Option.bind_some]
  by_cases c : bchk seq ev l = 0
  · have hl := bchk_len c
    rw [if_pos c, if_pos c, show ([76, 66] : List Int) = ints [76, 66] from rfl, show (4 : Int) = ((4 : Nat) : Int) from rfl,
      batch_put_int_at k (u64N seq) seq (u64N_at _) 4 (by decide) [76, 66] (by simp) (by omega), Option.bind_some,
      batch_put_int_at k (u64N ev) ev (u64N_at _) 4 (by decide) _ (by simp [leb_len]) (by omega), Option.bind_some, if_pos (by rw [ints_len]; simp [leb_len])]
    have e : [((l.length : Int)) % 256] = ints [l.length % 256] := by
      rw [mod_ints]; congr 2
    obtain ⟨m, rfl⟩ : ∃ m, k = m + l.length + 1 := ⟨k - l.length - 1, by omega⟩
    have hlt : ∀ x ∈ headN (u64N seq) (u64N ev) l.length, x < 256 := fun x hx => bodyN_lt (u64N seq) (u64N ev) l x (by rw [bodyN]; exact List.mem_append_left _ hx)
    have := Put_l0 l hl m (by omega) l.length 0 (headN (u64N seq) (u64N ev) l.length) (by omega) (by rw [headN_len]; omega) hlt
    rw [e, ints_append]
    exact this
  · rw [if_neg c, if_neg c]
/-- What Get gives. -/
def getS (b : List Nat) : Int × Int × List S53 × Int :=
  if b.length < 15 then (0, 0, [], 14) else if ¬ (b.getD 0 0 = 76 ∧ b.getD 1 0 = 66) then (0, 0, [], 6) else
  if b.length < 15 + 9 * b.getD 10 0 then (0, 0, [], 14) else if b.length > 15 + 9 * b.getD 10 0 then (0, 0, [], 6) else
  if val (b.drop (b.length - 4)) ≠ sumN (b.take (b.length - 4)) then (0, 0, [], 7) else
  if bchk (val ((b.take 6).drop 2) : Nat) (val ((b.take 10).drop 6) : Nat) (parseN (b.getD 10 0) ((b.take (b.length - 4)).drop 11)) = 0 then
    ((val ((b.take 6).drop 2) : Nat), (val ((b.take 10).drop 6) : Nat), parseN (b.getD 10 0) ((b.take (b.length - 4)).drop 11), 0) else (0, 0, [], 6)
theorem rd_getD (l : List Nat) (i : Nat) (h : i < l.length) : rd (ints l) (i : Int) = ((l.getD i 0 : Nat) : Int) := by
  rw [rd_ints l i h, List.getD_eq_getElem?_getD, List.getElem?_eq_getElem h]; rfl
theorem getD_lt {l : List Nat} (h : ∀ x ∈ l, x < 256) (i : Nat) : l.getD i 0 < 256 := by
  rw [List.getD_eq_getElem?_getD]
  by_cases c : i < l.length
  · rw [List.getElem?_eq_getElem c]; exact h _ (List.getElem_mem c)
  · rw [List.getElem?_eq_none (by omega)]; decide
theorem val4 {l : List Nat} (h : ∀ x ∈ l, x < 256) (hl : l.length = 4) : val l < 4294967296 := by
  have := val_lt l h
  rw [hl] at this
  exact this
theorem Get_l0 (seq ev : Int) (m : Nat) (hm : 100 ≤ m) : ∀ (n : Nat) (x : List Nat) (acc : List S53), n ≤ 255 → x.length = 9 * n → (∀ y ∈ x, y < 256) → acc.length + n ≤ 1000 →
    batch_Get.l0 (m + n + 1) (ints x) seq ev acc = some (if bchk seq ev (acc ++ parseN n x) = 0 then (seq, ev, acc ++ parseN n x, 0) else (0, 0, [], 6)) := by
  intro n
  induction n with
  | zero =>
    intro x acc hn hx hb ha
    rw [batch_Get.l0, if_neg (by rw [ints_len]; omega), parseN, List.append_nil, bCheck_at _ _ _ _ (by omega), Option.bind_some]
    by_cases c : bchk seq ev acc = 0
    · rw [if_pos c, if_pos c]
    · rw [if_neg c, if_neg c]
  | succ n ih =>
    intro x acc hn hx hb ha
    rw [batch_Get.l0, if_pos (by rw [ints_len]; omega), if_pos (by rw [ints_len]; omega), if_pos (by decide), if_pos (by rw [ints_len]; omega), ints_take, ints_drop,
      batch_get_int64_at _ _ (fun y hy => hb y (List.mem_of_mem_take (List.mem_of_mem_drop hy))) (by simp; omega) (by omega), Option.bind_some, if_pos (by omega), ints_drop]
    have hr : wrap64 (rd (ints x) 0) = ((x.getD 0 0 : Nat) : Int) := by
      have h1 := rd_getD x 0 (by omega)
      have h2 := getD_lt hb 0
      rw [show ((0 : Nat) : Int) = 0 from rfl] at h1
      rw [h1, w64 (by omega) (by omega)]
    rw [hr, show m + (n + 1) = m + n + 1 from rfl, ih (x.drop 9) _ (by omega) (by rw [List.length_drop]; omega) (fun y hy => hb y (List.mem_of_mem_drop hy)) (by simp; omega), parseN, List.append_assoc]
    rfl
theorem Get_at (k : Nat) (b : List Nat) (hb : ∀ x ∈ b, x < 256) (hl : b.length ≤ 100000) (hk : 600 ≤ k) : batch_Get.f k (ints b) = some (getS b) := by
  unfold batch_Get.f getS
  rw [ints_len]
  by_cases c : b.length < 15
  · rw [if_pos (by omega), if_pos c]
  rw [if_neg (by omega), if_neg c, if_pos (by omega)]
  have r0 := rd_getD b 0 (by omega)
  have r1 := rd_getD b 1 (by omega)
  have r10 := rd_getD b 10 (by omega)
  rw [show ((0 : Nat) : Int) = 0 from rfl] at r0
  rw [show ((1 : Nat) : Int) = 1 from rfl] at r1
  rw [show ((10 : Nat) : Int) = 10 from rfl] at r10
  have h10 := getD_lt hb 10
  obtain ⟨k, rfl⟩ : ∃ j, k = j + 1 := ⟨k - 1, by omega⟩
  have hj : ∀ x : Bool, x = true → batch_Get.j0 (k + 1) (ints b) x = some (0, 0, [], 6) := by
    intro x hx
    rw [batch_Get.j0, if_pos hx]
  by_cases c0 : b.getD 0 0 = 76
  · rw [if_pos (by omega), if_pos (by omega), r1]
    by_cases c1 : b.getD 1 0 = 66
    · rw [if_neg (show ¬ ¬ (b.getD 0 0 = 76 ∧ b.getD 1 0 = 66) from fun z => z ⟨c0, c1⟩)]
      have hne : ((((b.getD 1 0 : Nat) : Int)) != 66) = false := by rw [c1]; rfl
      rw [hne, batch_Get.j0, if_neg (by decide), ints_len, if_pos (by omega), w64 (x := (b.length : Int) - 4) (by omega) (by omega), if_pos (by omega), if_pos (by omega), Option.bind_some, r10]
      rw [w64 (x := ((b.getD 10 0 : Nat) : Int)) (by omega) (by omega), w64 (x := 9 * ((b.getD 10 0 : Nat) : Int)) (by omega) (by omega), w64 (x := 15 + 9 * ((b.getD 10 0 : Nat) : Int)) (by omega) (by omega)]
      by_cases d1 : b.length < 15 + 9 * b.getD 10 0
      · rw [if_pos (by omega), if_pos d1]
      rw [if_neg (by omega), if_neg d1]
      by_cases d2 : b.length > 15 + 9 * b.getD 10 0
      · rw [if_pos (by omega), if_pos d2]
      have e4 : ((b.length : Int) - 4).toNat = b.length - 4 := by omega
      rw [if_neg (by omega), if_neg d2, e4, ints_take, ints_len]
      have hln : (b.take (b.length - 4)).length = b.length - 4 := by rw [List.length_take]; omega
      rw [hln, if_pos (by omega), if_pos (by omega), Int.toNat_natCast, ints_drop, batch_get_uint32_at k _ (fun y hy => hb y (List.mem_of_mem_drop hy)) (by rw [List.length_drop]; omega) (by omega), Option.bind_some,
        Sum_at _ (fun y hy => hb y (List.mem_of_mem_take hy)) (by omega), Option.bind_some]
      have v4 := val4 (l := b.drop (b.length - 4)) (fun y hy => hb y (List.mem_of_mem_drop hy)) (by rw [List.length_drop]; omega)
      by_cases d3 : val (b.drop (b.length - 4)) = sumN (b.take (b.length - 4))
      · rw [if_pos (by omega), if_neg (show ¬ ¬ _ from fun z => z d3), if_pos (by decide), if_pos (by omega), ints_take, ints_drop]
        have hs : ∀ x ∈ (b.take 6).drop 2, x < 256 := fun y hy => hb y (List.mem_of_mem_take (List.mem_of_mem_drop hy))
        have he : ∀ x ∈ (b.take 10).drop 6, x < 256 := fun y hy => hb y (List.mem_of_mem_take (List.mem_of_mem_drop hy))
        have vs := val4 hs (by simp; omega)
        have ve := val4 he (by simp; omega)
        rw [batch_get_int_at k _ hs (by simp; omega) (by omega), Option.bind_some, if_pos (by decide), if_pos (by omega), ints_take, ints_drop, batch_get_int_at k _ he (by simp; omega) (by omega), Option.bind_some, if_pos (by omega), ints_drop, w64 (x := ((val ((b.take 6).drop 2) : Nat) : Int)) (by omega) (by omega), w64 (x := ((val ((b.take 10).drop 6) : Nat) : Int)) (by omega) (by omega)]
        obtain ⟨m, rfl⟩ : ∃ m, k = m + b.getD 10 0 + 1 := ⟨k - b.getD 10 0 - 1, by omega⟩
        have := Get_l0 (val ((b.take 6).drop 2) : Nat) (val ((b.take 10).drop 6) : Nat) m (by omega) (b.getD 10 0) ((b.take (b.length - 4)).drop 11) [] (by omega) (by rw [List.length_drop, hln]; omega) (fun y hy => hb y (List.mem_of_mem_take (List.mem_of_mem_drop hy))) (by rw [List.length_nil]; omega)
        rw [List.nil_append] at this
        exact this
      · rw [if_neg (by omega), if_pos d3]
    · rw [if_pos (show ¬ (b.getD 0 0 = 76 ∧ b.getD 1 0 = 66) from fun z => c1 z.2)]
      exact hj _ (by rw [bne_iff_ne]; omega)
  · rw [if_neg (by omega), if_pos (show ¬ (b.getD 0 0 = 76 ∧ b.getD 1 0 = 66) from fun z => c0 z.1)]
    exact hj _ rfl
end Go.Proofs.Ytepgponpnijonaa.Print
