import Derived.Test.YtepgponpnijonaaPrint12
import Derived.Test.YtepgponpnijonaaAidA
import Derived.Test.YtepgponpnijonaaPrint14
import Derived.Test.YtepgponpnijonaaPrint15
import Derived.Test.YtepgponpnijonaaPrint19
import Derived.Test.YtepgponpnijonaaPrint13
namespace Go.Proofs.Ytepgponpnijonaa.Print
open Go.RowKit Go.Proofs.YtepgponpnijonaaW.PrintWords Go.Proofs.YtepgponpnijonaaW.PrintLast Go.Proofs.YtepgponpnijonaaW.PrintMore
set_option linter.unusedVariables false
set_option linter.unusedSimpArgs false

theorem ints_one (n : Nat) : [((n : Nat) : Int)] = ints [n] := rfl
theorem ints_take (l : List Nat) (n : Nat) : (ints l).take n = ints (l.take n) := by simp [ints]
theorem ints_drop (l : List Nat) (n : Nat) : (ints l).drop n = ints (l.drop n) := by simp [ints]
theorem mod_ints (x : Int) : [x % 256] = ints [(x % 256).toNat] := by
  unfold ints
  rw [List.map_cons, List.map_nil, Int.toNat_of_nonneg (by omega)]
theorem Put_l0 (l : List S53) (hl : l.length ≤ 64) (m : Nat) (hm : 20 ≤ m) : ∀ (d i : Nat) (acc : List Nat), i + d = l.length → acc.length + 9 * d ≤ 100000 → (∀ x ∈ acc, x < 256) →
    batch_Put.l0 (m + d + 1) (ints acc) l (l.length : Int) (i : Int) = some (ints ((acc ++ linesB (l.drop i)) ++ leb 4 (sumN (acc ++ linesB (l.drop i)))), 0) := by
  intro d
  induction d with
  | zero =>
    intro i acc hi ha hb
    rw [batch_Put.l0, if_neg (by omega), List.drop_of_length_le (by omega), linesB, List.append_nil, Sum_at acc hb (by omega), Option.bind_some,
      show (4 : Int) = ((4 : Nat) : Int) from rfl, batch_put_uint32_at m (sumN acc) _ (u64w (Int.natCast_nonneg _) (by have := sumN_lt acc hb; omega)) 4 (by decide) acc (by omega) (by omega), Option.bind_some]
  | succ d ih =>
    intro i acc hi ha hb
    have c : i < l.length := by omega
    rw [batch_Put.l0, if_pos (by omega), if_pos (by omega), if_pos (by omega), rd45 l i c, if_pos (by rw [ints_len]; omega), mod_ints, ints_append,
      show (8 : Int) = ((8 : Nat) : Int) from rfl, batch_put_int64_at (m + (d + 1)) (u64N l[i].f1) _ (u64N_at _) 8 (by decide) _ (by simp; omega) (by omega), Option.bind_some, w64 (by omega) (by omega), show ((i : Int) + 1) = ((i + 1 : Nat) : Int) by omega]
    have e : acc ++ [(l[i].f0 % 256).toNat] ++ leb 8 (u64N l[i].f1) = acc ++ lineB l[i] := by rw [List.append_assoc]; rfl
    rw [e, show m + (d + 1) = m + d + 1 from rfl, ih (i + 1) _ (by omega) (by rw [List.length_append, lineB_len]; omega) (by
      intro x hx
      rcases List.mem_append.mp hx with h | h
      · exact hb x h
      · exact lineB_lt _ x h), List.drop_eq_getElem_cons c, linesB, ← List.append_assoc acc]
/-- What Put gives. -/
def putS (seq ev : Int) (l : List S53) : List Int × Int := if bchk seq ev l = 0 then (ints (putN (u64N seq) (u64N ev) l), 0) else ([], bchk seq ev l)
theorem Put_at (k : Nat) (seq ev : Int) (l : List S53) (hk : 200 ≤ k) : batch_Put.f k seq ev l = some (putS seq ev l) := by
  unfold batch_Put.f putS
  rw [bCheck_at k seq ev l (by omega), Option.bind_some]
  by_cases c : bchk seq ev l = 0
  · have hl := bchk_len c
    rw [if_pos c, if_pos c, show ([76, 66] : List Int) = ints [76, 66] from rfl, show (4 : Int) = ((4 : Nat) : Int) from rfl,
      batch_put_int_at k (u64N seq) seq (u64N_at _) 4 (by decide) [76, 66] (by simp) (by omega), Option.bind_some,
      batch_put_int_at k (u64N ev) ev (u64N_at _) 4 (by decide) _ (by simp [leb_len]) (by omega), Option.bind_some, if_pos (by rw [ints_len]; simp [leb_len])]
    have e : [((l.length : Int)) % 256] = ints [l.length % 256] := by
      rw [mod_ints]; congr 2
    obtain ⟨m, rfl⟩ : ∃ m, k = m + l.length + 1 := ⟨k - l.length - 1, by omega⟩
    have hlt : ∀ x ∈ headN (u64N seq) (u64N ev) l.length, x < 256 := fun x hx => bodyN_lt (u64N seq) (u64N ev) l x (by rw [bodyN]; exact List.mem_append_left _ hx)
    have := Put_l0 l hl m (by omega) l.length 0 (headN (u64N seq) (u64N ev) l.length) (by omega) (by rw [headN_len]; omega) hlt
    rw [e, ints_append]
    exact this
  · rw [if_neg c, if_neg c]
/-- What Get gives. -/
def getS (b : List Nat) : Int × Int × List S53 × Int :=
  if b.length < 15 then (0, 0, [], 14) else if ¬ (b.getD 0 0 = 76 ∧ b.getD 1 0 = 66) then (0, 0, [], 6) else
  if b.length < 15 + 9 * b.getD 10 0 then (0, 0, [], 14) else if b.length > 15 + 9 * b.getD 10 0 then (0, 0, [], 6) else
  if val (b.drop (b.length - 4)) ≠ sumN (b.take (b.length - 4)) then (0, 0, [], 7) else
  if bchk (val ((b.take 6).drop 2) : Nat) (val ((b.take 10).drop 6) : Nat) (parseN (b.getD 10 0) ((b.take (b.length - 4)).drop 11)) = 0 then
    ((val ((b.take 6).drop 2) : Nat), (val ((b.take 10).drop 6) : Nat), parseN (b.getD 10 0) ((b.take (b.length - 4)).drop 11), 0) else (0, 0, [], 6)
theorem rd_getD (l : List Nat) (i : Nat) (h : i < l.length) : rd (ints l) (i : Int) = ((l.getD i 0 : Nat) : Int) := by
  rw [rd_ints l i h, List.getD_eq_getElem?_getD, List.getElem?_eq_getElem h]; rfl
theorem getD_lt {l : List Nat} (h : ∀ x ∈ l, x < 256) (i : Nat) : l.getD i 0 < 256 := by
  rw [List.getD_eq_getElem?_getD]
  by_cases c : i < l.length
  · rw [List.getElem?_eq_getElem c]; exact h _ (List.getElem_mem c)
  · rw [List.getElem?_eq_none (by omega)]; decide
theorem val4 {l : List Nat} (h : ∀ x ∈ l, x < 256) (hl : l.length = 4) : val l < 4294967296 := by
  have := val_lt l h
  rw [hl] at this
  exact this
theorem Get_l0 (seq ev : Int) (m : Nat) (hm : 100 ≤ m) : ∀ (n : Nat) (x : List Nat) (acc : List S53), n ≤ 255 → x.length = 9 * n → (∀ y ∈ x, y < 256) → acc.length + n ≤ 1000 →
    batch_Get.l0 (m + n + 1) (ints x) seq ev acc = some (if bchk seq ev (acc ++ parseN n x) = 0 then (seq, ev, acc ++ parseN n x, 0) else (0, 0, [], 6)) := by
  intro n
  induction n with
  | zero =>
    intro x acc hn hx hb ha
    rw [batch_Get.l0, if_neg (by rw [ints_len]; omega), parseN, List.append_nil, bCheck_at _ _ _ _ (by omega), Option.bind_some]
    by_cases c : bchk seq ev acc = 0
    · rw [if_pos c, if_pos c]
    · rw [if_neg c, if_neg c]
  | succ n ih =>
    intro x acc hn hx hb ha
    rw [batch_Get.l0, if_pos (by rw [ints_len]; omega), if_pos (by rw [ints_len]; omega), if_pos (by decide), if_pos (by rw [ints_len]; omega), ints_take, ints_drop,
      batch_get_int64_at _ _ (fun y hy => hb y (List.mem_of_mem_take (List.mem_of_mem_drop hy))) (by simp; omega) (by omega), Option.bind_some, if_pos (by omega), ints_drop]
    have hr : wrap64 (rd (ints x) 0) = ((x.getD 0 0 : Nat) : Int) := by
      have h1 := rd_getD x 0 (by omega)
      have h2 := getD_lt hb 0
      rw [show ((0 : Nat) : Int) = 0 from rfl] at h1
      rw [h1, w64 (by omega) (by omega)]
    rw [hr, show m + (n + 1) = m + n + 1 from rfl, ih (x.drop 9) _ (by omega) (by rw [List.length_drop]; omega) (fun y hy => hb y (List.mem_of_mem_drop hy)) (by simp; omega), parseN, List.append_assoc]
    rfl
theorem Get_at (k : Nat) (b : List Nat) (hb : ∀ x ∈ b, x < 256) (hl : b.length ≤ 100000) (hk : 600 ≤ k) : batch_Get.f k (ints b) = some (getS b) := by
  unfold batch_Get.f getS
  rw [ints_len]
  by_cases c : b.length < 15
  · rw [if_pos (by omega), if_pos c]
  rw [if_neg (by omega), if_neg c, if_pos (by omega)]
  have r0 := rd_getD b 0 (by omega)
  have r1 := rd_getD b 1 (by omega)
  have r10 := rd_getD b 10 (by omega)
  rw [show ((0 : Nat) : Int) = 0 from rfl] at r0
  rw [show ((1 : Nat) : Int) = 1 from rfl] at r1
  rw [show ((10 : Nat) : Int) = 10 from rfl] at r10
  have h10 := getD_lt hb 10
  obtain ⟨k, rfl⟩ : ∃ j, k = j + 1 := ⟨k - 1, by omega⟩
  have hj : ∀ x : Bool, x = true → batch_Get.j0 (k + 1) (ints b) x = some (0, 0, [], 6) := by
    intro x hx
    rw [batch_Get.j0, if_pos hx]
  by_cases c0 : b.getD 0 0 = 76
  · rw [if_pos (by omega), if_pos (by omega), r1]
    by_cases c1 : b.getD 1 0 = 66
    · rw [if_neg (show ¬ ¬ (b.getD 0 0 = 76 ∧ b.getD 1 0 = 66) from fun z => z ⟨c0, c1⟩)]
      have hne : ((((b.getD 1 0 : Nat) : Int)) != 66) = false := by rw [c1]; rfl
      rw [hne, batch_Get.j0, if_neg (by decide), ints_len, if_pos (by omega), w64 (x := (b.length : Int) - 4) (by omega) (by omega), if_pos (by omega), if_pos (by omega), Option.bind_some, r10]
      rw [w64 (x := ((b.getD 10 0 : Nat) : Int)) (by omega) (by omega), w64 (x := 9 * ((b.getD 10 0 : Nat) : Int)) (by omega) (by omega), w64 (x := 15 + 9 * ((b.getD 10 0 : Nat) : Int)) (by omega) (by omega)]
      by_cases d1 : b.length < 15 + 9 * b.getD 10 0
      · rw [if_pos (by omega), if_pos d1]
      rw [if_neg (by omega), if_neg d1]
      by_cases d2 : b.length > 15 + 9 * b.getD 10 0
      · rw [if_pos (by omega), if_pos d2]
      have e4 : ((b.length : Int) - 4).toNat = b.length - 4 := by omega
      rw [if_neg (by omega), if_neg d2, e4, ints_take, ints_len]
      have hln : (b.take (b.length - 4)).length = b.length - 4 := by rw [List.length_take]; omega
      rw [hln, if_pos (by omega), if_pos (by omega), Int.toNat_natCast, ints_drop, batch_get_uint32_at k _ (fun y hy => hb y (List.mem_of_mem_drop hy)) (by rw [List.length_drop]; omega) (by omega), Option.bind_some,
        Sum_at _ (fun y hy => hb y (List.mem_of_mem_take hy)) (by omega), Option.bind_some]
      have v4 := val4 (l := b.drop (b.length - 4)) (fun y hy => hb y (List.mem_of_mem_drop hy)) (by rw [List.length_drop]; omega)
      by_cases d3 : val (b.drop (b.length - 4)) = sumN (b.take (b.length - 4))
      · rw [if_pos (by omega), if_neg (show ¬ ¬ _ from fun z => z d3), if_pos (by decide), if_pos (by omega), ints_take, ints_drop]
        have hs : ∀ x ∈ (b.take 6).drop 2, x < 256 := fun y hy => hb y (List.mem_of_mem_take (List.mem_of_mem_drop hy))
        have he : ∀ x ∈ (b.take 10).drop 6, x < 256 := fun y hy => hb y (List.mem_of_mem_take (List.mem_of_mem_drop hy))
        have vs := val4 hs (by simp; omega)
        have ve := val4 he (by simp; omega)
        rw [batch_get_int_at k _ hs (by simp; omega) (by omega), Option.bind_some, if_pos (by decide), if_pos (by omega), ints_take, ints_drop, batch_get_int_at k _ he (by simp; omega) (by omega), Option.bind_some, if_pos (by omega), ints_drop, w64 (x := ((val ((b.take 6).drop 2) : Nat) : Int)) (by omega) (by omega), w64 (x := ((val ((b.take 10).drop 6) : Nat) : Int)) (by omega) (by omega)]
        obtain ⟨m, rfl⟩ : ∃ m, k = m + b.getD 10 0 + 1 := ⟨k - b.getD 10 0 - 1, by omega⟩
        have := Get_l0 (val ((b.take 6).drop 2) : Nat) (val ((b.take 10).drop 6) : Nat) m (by omega) (b.getD 10 0) ((b.take (b.length - 4)).drop 11) [] (by omega) (by rw [List.length_drop, hln]; omega) (fun y hy => hb y (List.mem_of_mem_take (List.mem_of_mem_drop hy))) (by rw [List.length_nil]; omega)
        rw [List.nil_append] at this
        exact this
      · rw [if_neg (by omega), if_pos d3]
    · rw [if_pos (show ¬ (b.getD 0 0 = 76 ∧ b.getD 1 0 = 66) from fun z => c1 z.2)]
      exact hj _ (by rw [bne_iff_ne]; omega)
  · rw [if_neg (by omega), if_pos (show ¬ (b.getD 0 0 = 76 ∧ b.getD 1 0 = 66) from fun z => c0 z.1)]
    exact hj _ rfl

instance : DecidableEq S53 := fun a b => if h : a.f0 = b.f0 ∧ a.f1 = b.f1 then isTrue (by cases a; cases b; simp at h; simp [h]) else isFalse (fun e => h (by rw [e]; exact ⟨rfl, rfl⟩))
instance : DecidableEq S59 := fun a b => if h : a.f0 = b.f0 ∧ a.f1 = b.f1 then isTrue (by cases a; cases b; simp at h; simp [h]) else isFalse (fun e => h (by rw [e]; exact ⟨rfl, rfl⟩))
def c48 (x : S53) : S59 := ⟨x.f0, x.f1⟩
def c45 (x : S59) : S53 := ⟨x.f0, x.f1⟩
theorem From_l0 (l : List S53) (hl : l.length ≤ 8796093022208) : ∀ (k i : Nat) (acc : List S59), i ≤ l.length → l.length < k + i → acc.length = i →
    lombardlaw17_From.l0 k acc l (l.length : Int) (i : Int) = some (acc ++ (l.drop i).map c48) := by
  intro k
  induction k with
  | zero => intro i acc h1 h2; omega
  | succ k ih =>
    intro i acc h1 h2 h3
    by_cases c : i < l.length
    · have e : rd_T53 l (i : Int) = l[i] := by simp [rd_T53, List.getElem?_eq_getElem c]
      rw [lombardlaw17_From.l0, if_pos (by omega), if_pos (by omega), if_pos (by omega), if_pos (by omega), w64 (by omega) (by omega), e]
      have := ih (i + 1) (acc ++ [⟨l[i].f0, l[i].f1⟩]) (by omega) (by omega) (by simp [h3])
      rw [Int.natCast_add, Int.natCast_one] at this
      rw [this, List.drop_eq_getElem_cons c, List.map_cons, List.append_assoc]
      rfl
    · rw [lombardlaw17_From.l0, if_neg (by omega), List.drop_of_length_le (by omega)]
      simp
theorem From_at (k : Nat) (l : List S53) (hl : l.length ≤ 8796093022208) (hk : l.length < k) : lombardlaw17_From.f k l = some (l.map c48) := by
  have := From_l0 l hl k 0 [] (Nat.zero_le _) (by omega) rfl
  simpa [lombardlaw17_From.f] using this
theorem Same_l0 (a b : List S59) (hl : a.length = b.length) (hm : a.length ≤ 8796093022208) : ∀ (k i : Nat), i ≤ a.length → a.length < k + i →
    lombardref17_Same.l0 k a b (a.length : Int) (i : Int) = some (decide (a.drop i = b.drop i)) := by
  intro k
  induction k with
  | zero => intro i h1 h2; omega
  | succ k ih =>
    intro i h1 h2
    by_cases c : i < a.length
    · have c' : i < b.length := by omega
      have e : rd_T59 a (i : Int) = a[i] := by simp [rd_T59, List.getElem?_eq_getElem c]
      have e' : rd_T59 b (i : Int) = b[i] := by simp [rd_T59, List.getElem?_eq_getElem c']
      have := ih (i + 1) (by omega) (by omega)
      rw [Int.natCast_add, Int.natCast_one] at this
      rw [lombardref17_Same.l0, if_pos (by omega), if_pos (by omega), if_pos (by omega), if_pos (by omega), w64 (by omega) (by omega), e, e', this, List.drop_eq_getElem_cons c, List.drop_eq_getElem_cons c']
      have hx : (a[i] = b[i]) ↔ (a[i].f0 = b[i].f0 ∧ a[i].f1 = b[i].f1) := by
        cases ha : a[i]; cases hb : b[i]; simp
      have hd : ((a[i] :: a.drop (i + 1)) = (b[i] :: b.drop (i + 1))) ↔ ((a[i].f0 = b[i].f0 ∧ a[i].f1 = b[i].f1) ∧ a.drop (i + 1) = b.drop (i + 1)) := by rw [List.cons.injEq, hx]
      have hd' : decide ((a[i] :: a.drop (i + 1)) = (b[i] :: b.drop (i + 1))) = decide ((a[i].f0 = b[i].f0 ∧ a[i].f1 = b[i].f1) ∧ a.drop (i + 1) = b.drop (i + 1)) := decide_eq_decide.mpr hd
      rw [hd']
      by_cases c0 : a[i].f0 = b[i].f0 <;> by_cases c1 : a[i].f1 = b[i].f1 <;> simp [c0, c1]
    · rw [lombardref17_Same.l0, if_neg (by omega), List.drop_of_length_le (by omega), List.drop_of_length_le (by omega)]
      simp
theorem Same_at (k : Nat) (a b : List S59) (hm : a.length ≤ 8796093022208) (hk : a.length < k) : lombardref17_Same.f k a b = some (decide (a = b)) := by
  unfold lombardref17_Same.f
  by_cases c : a.length = b.length
  · rw [if_pos (by omega)]
    simpa using Same_l0 a b c hm k 0 (Nat.zero_le _) (by omega)
  · rw [if_neg (by omega)]
    have : a ≠ b := fun e => c (by rw [e])
    simp [this]
theorem rCheck_l0 (l : List S59) (hl : l.length ≤ 64) : ∀ (k i : Nat) (s : Int), i ≤ l.length → l.length < k + i → -(i * 1125899906842624 : Int) ≤ s → s ≤ i * 1125899906842624 →
    lombardref17_Check.l0 k l s l (l.length : Int) (i : Int) = some (if l = [] then 2 else chkGo ((l.drop i).map c45) s) := by
  intro k
  induction k with
  | zero => intro i s h1 h2; omega
  | succ k ih =>
    intro i s h1 h2 h3 h4
    by_cases c : i < l.length
    · have hne : l ≠ [] := fun h => by rw [h] at c; simp at c
      have hc : ∀ x : S59, good (c45 x) ↔ (1 ≤ x.f0 ∧ x.f0 ≤ 7) ∧ -1125899906842624 ≤ x.f1 ∧ x.f1 ≤ 1125899906842624 ∧ x.f1 ≠ 0 := fun x => Iff.rfl
      rw [lombardref17_Check.l0, if_pos (by omega), if_pos (by omega), if_pos (by omega), rd48 l i c, w64 (x := (i : Int) + 1) (by omega) (by omega), List.drop_eq_getElem_cons c, List.map_cons, chkGo, if_neg hne]
      by_cases c1 : l[i].f0 < 1
      · rw [if_pos c1, if_neg (fun h => by have := (hc _).mp h; omega)]
      rw [if_neg c1]
      by_cases c2 : l[i].f0 > 7
      · rw [if_pos c2, if_neg (fun h => by have := (hc _).mp h; omega)]
      rw [if_neg c2]
      by_cases c3 : l[i].f1 < -1125899906842624
      · rw [if_pos c3, if_neg (fun h => by have := (hc _).mp h; omega)]
      rw [if_neg c3]
      by_cases c4 : l[i].f1 > 1125899906842624
      · rw [if_pos c4, if_neg (fun h => by have := (hc _).mp h; omega)]
      rw [if_neg c4]
      by_cases c5 : l[i].f1 = 0
      · rw [if_pos c5, if_neg (fun h => by have := (hc _).mp h; omega)]
      rw [if_neg c5, if_pos ((hc _).mpr ⟨⟨by omega, by omega⟩, by omega, by omega, c5⟩), w64 (by omega) (by omega)]
      have := ih (i + 1) (s + l[i].f1) (by omega) (by omega) (by rw [Int.natCast_add, Int.add_mul]; omega) (by rw [Int.natCast_add, Int.add_mul]; omega)
      rw [Int.natCast_add, Int.natCast_one, if_neg hne] at this
      exact this
    · rw [lombardref17_Check.l0, if_neg (by omega), List.drop_of_length_le (by omega), List.map_nil, chkGo]
      by_cases d : l = []
      · subst d; rfl
      · have : l.length ≠ 0 := fun h => d (List.eq_nil_of_length_eq_zero h)
        rw [if_neg (by omega), if_neg d]
        by_cases z : s = 0
        · rw [if_pos z, if_pos z]
        · rw [if_neg z, if_neg z]
theorem rCheck_at (k : Nat) (l : List S59) (hk : 65 ≤ k) : lombardref17_Check.f k l = some (chk (l.map c45)) := by
  unfold lombardref17_Check.f chk
  rw [List.length_map]
  by_cases c : l.length > 64
  · rw [if_pos (by omega), if_pos c]
  · rw [if_neg (by omega), if_neg c]
    have := rCheck_l0 l (by omega) k 0 0 (by omega) (by omega) (by omega) (by omega)
    simp only [Int.natCast_zero, List.drop_zero] at this
    rw [this]
    by_cases d : l = []
    · subst d; rfl
    · rw [if_neg d, if_neg (by simpa using d)]
/-! lines of the program's, lines of the document's -/
theorem To_l0 (l : List S59) (hl : l.length ≤ 8796093022208) : ∀ (k i : Nat) (acc : List S53), i ≤ l.length → l.length < k + i → acc.length = i →
    lombardlaw17_To.l0 k acc l (l.length : Int) (i : Int) = some (acc ++ (l.drop i).map c45) := by
  intro k
  induction k with
  | zero => intro i acc h1 h2; omega
  | succ k ih =>
    intro i acc h1 h2 h3
    by_cases c : i < l.length
    · rw [lombardlaw17_To.l0, if_pos (by omega), if_pos (by omega), if_pos (by omega), if_pos (by omega), w64 (by omega) (by omega), rd48 l i c]
      have := ih (i + 1) (acc ++ [⟨l[i].f0, l[i].f1⟩]) (by omega) (by omega) (by simp [h3])
      rw [Int.natCast_add, Int.natCast_one] at this
      rw [this, List.drop_eq_getElem_cons c, List.map_cons, List.append_assoc]
      rfl
    · rw [lombardlaw17_To.l0, if_neg (by omega), List.drop_of_length_le (by omega)]
      simp
theorem To_at (k : Nat) (l : List S59) (hl : l.length ≤ 8796093022208) (hk : l.length < k) : lombardlaw17_To.f k l = some (l.map c45) := by
  have := To_l0 l hl k 0 [] (Nat.zero_le _) (by omega) rfl
  simpa [lombardlaw17_To.f] using this
theorem back48 (l : List S59) : (l.map c45).map c48 = l := by
  rw [List.map_map]
  have : c48 ∘ c45 = id := by funext x; rfl
  rw [this, List.map_id]

/-! the document's batches -/
theorem r18Check_at (k : Nat) (seq ev : Int) (l : List S59) (hk : 70 ≤ k) : lombardref18_Check.f k seq ev l = some (bchk seq ev (l.map c45)) := by
  obtain ⟨k, rfl⟩ : ∃ j, k = j + 1 := ⟨k - 1, by omega⟩
  have hj : ∀ b : Bool, lombardref18_Check.j0 (k + 1) b seq ev l = some (if b = true then 2 else if (l.length : Int) = 0 then 0 else chk (l.map c45)) := by
    intro b
    rw [lombardref18_Check.j0]
    by_cases c : b = true
    · rw [if_pos c, if_pos c]
    · rw [if_neg c, if_neg c]
      by_cases d : (l.length : Int) = 0
      · rw [if_pos d, if_pos d]
      · rw [if_neg d, if_neg d, rCheck_at k l (by omega)]; rfl
  unfold lombardref18_Check.f bchk
  rw [hj, hj, List.length_map]
  by_cases c1 : seq < 0
  · rw [if_pos c1, if_pos rfl, if_pos (show seq < 0 ∨ 2147483647 < seq ∨ ev < 0 ∨ 2147483647 < ev from .inl c1)]
  rw [if_neg c1]
  by_cases c2 : seq > 2147483647
  · rw [if_pos c2, if_pos rfl, if_pos (show seq < 0 ∨ 2147483647 < seq ∨ ev < 0 ∨ 2147483647 < ev from .inr (.inl c2))]
  rw [if_neg c2]
  by_cases c3 : ev < 0
  · rw [if_pos c3, if_pos rfl, if_pos (show seq < 0 ∨ 2147483647 < seq ∨ ev < 0 ∨ 2147483647 < ev from .inr (.inr (.inl c3)))]
  rw [if_neg c3]
  by_cases c4 : ev > 2147483647
  · rw [if_pos (show seq < 0 ∨ 2147483647 < seq ∨ ev < 0 ∨ 2147483647 < ev by omega), if_pos (by simpa using c4)]
  · rw [if_neg (show ¬ (seq < 0 ∨ 2147483647 < seq ∨ ev < 0 ∨ 2147483647 < ev) by omega), if_neg (by simpa using c4)]
def convG (r : Int × Int × List S53 × Int) : Int × Int × List S59 × Int := (r.1, r.2.1, r.2.2.1.map c48, r.2.2.2)
theorem back45 (l : List S53) : (l.map c48).map c45 = l := by
  rw [List.map_map]
  have : c45 ∘ c48 = id := by funext x; rfl
  rw [this, List.map_id]
/-! the same bytes, the same batches -/
theorem rd_g (l : List Int) (i : Nat) (h : i < l.length) : rd l (i : Int) = l[i] := by simp [rd, List.getElem?_eq_getElem h]
theorem Bytes_l0 (a b : List Int) (hl : a.length = b.length) (hm : a.length ≤ 8796093022208) : ∀ (k i : Nat), i ≤ a.length → a.length < k + i →
    lombardref18_Bytes.l0 k a b (a.length : Int) (i : Int) = some (decide (a.drop i = b.drop i)) := by
  intro k
  induction k with
  | zero => intro i h1 h2; omega
  | succ k ih =>
    intro i h1 h2
    by_cases c : i < a.length
    · have c' : i < b.length := by omega
      have := ih (i + 1) (by omega) (by omega)
      rw [Int.natCast_add, Int.natCast_one] at this
      rw [lombardref18_Bytes.l0, if_pos (by omega), if_pos (by omega), if_pos (by omega), if_pos (by omega), w64 (by omega) (by omega), rd_g a i c, rd_g b i c', this, List.drop_eq_getElem_cons c, List.drop_eq_getElem_cons c']
      have hd : ((a[i] :: a.drop (i + 1)) = (b[i] :: b.drop (i + 1))) ↔ (a[i] = b[i] ∧ a.drop (i + 1) = b.drop (i + 1)) := by rw [List.cons.injEq]
      have hd' : decide ((a[i] :: a.drop (i + 1)) = (b[i] :: b.drop (i + 1))) = decide (a[i] = b[i] ∧ a.drop (i + 1) = b.drop (i + 1)) := decide_eq_decide.mpr hd
      rw [hd']
      by_cases c0 : a[i] = b[i] <;> simp [c0]
    · rw [lombardref18_Bytes.l0, if_neg (by omega), List.drop_of_length_le (by omega), List.drop_of_length_le (by omega)]
      simp
theorem Bytes_at (k : Nat) (a b : List Int) (hm : a.length ≤ 8796093022208) (hk : a.length < k) : lombardref18_Bytes.f k a b = some (decide (a = b)) := by
  unfold lombardref18_Bytes.f
  by_cases c : a.length = b.length
  · rw [if_pos (by omega)]
    simpa using Bytes_l0 a b c hm k 0 (Nat.zero_le _) (by omega)
  · rw [if_neg (by omega)]
    have : a ≠ b := fun e => c (by rw [e])
    simp [this]
theorem Same18_at (k : Nat) (s e s' e' : Int) (l l' : List S59) (hm : l.length ≤ 8796093022208) (hk : l.length < k) : lombardref18_Same.f k s e l s' e' l' = some (decide (s = s' ∧ e = e' ∧ l = l')) := by
  unfold lombardref18_Same.f
  by_cases c : s = s'
  · by_cases d : e = e'
    · rw [if_pos c, if_pos d, Same_at k l l' hm hk, Option.bind_some]; simp [c, d]
    · rw [if_pos c, if_neg d]; simp [d]
  · rw [if_neg c]; simp [c]
/-- Any row of bytes is one of plain numbers. -/
theorem ints_of (l : List Int) (h : ∀ x ∈ l, 0 ≤ x ∧ x < 256) : ∃ b : List Nat, l = ints b ∧ b.length = l.length ∧ ∀ x ∈ b, x < 256 := by
  refine ⟨l.map Int.toNat, ?_, by simp, ?_⟩
  · unfold ints
    rw [List.map_map]
    conv => lhs; rw [← List.map_id l]
    apply List.map_congr_left
    intro x hx
    have := h x hx
    simp; omega
  · intro x hx
    obtain ⟨y, hy, rfl⟩ := List.mem_map.mp hx
    have := h y hy
    omega

theorem putN_take (s e : Nat) (l : List S53) : (putN s e l).take ((putN s e l).length - 4) = bodyN s e l := by
  rw [putN_len, show 15 + 9 * l.length - 4 = (bodyN s e l).length by rw [bodyN_len]; omega, putN, List.take_left]
theorem putN_drop (s e : Nat) (l : List S53) : (putN s e l).drop ((putN s e l).length - 4) = leb 4 (sumN (bodyN s e l)) := by
  rw [putN_len, show 15 + 9 * l.length - 4 = (bodyN s e l).length by rw [bodyN_len]; omega, putN, List.drop_left]
theorem val_sum (l : List Nat) (h : ∀ x ∈ l, x < 256) : val (leb 4 (sumN l)) = sumN l := by
  rw [val_leb]
  have := sumN_lt l h
  exact Nat.mod_eq_of_lt (by omega)
/-- What is put is got. -/
theorem get_put (seq ev : Int) (l : List S53) (h : bchk seq ev l = 0) : getS (putN (u64N seq) (u64N ev) l) = (seq, ev, l, 0) := by
  have hl := bchk_len h
  obtain ⟨⟨s1, s2, e1, e2⟩, hf⟩ := bchk_zero h
  have hs : u64N seq = seq.toNat := by unfold u64N; omega
  have he : u64N ev = ev.toNat := by unfold u64N; omega
  have h0 : (putN (u64N seq) (u64N ev) l).getD 0 0 = 76 := rfl
  have h1 : (putN (u64N seq) (u64N ev) l).getD 1 0 = 66 := rfl
  have h10 : (putN (u64N seq) (u64N ev) l).getD 10 0 = l.length := by
    have : (putN (u64N seq) (u64N ev) l).getD 10 0 = l.length % 256 := rfl
    rw [this]; omega
  have hq : ((putN (u64N seq) (u64N ev) l).take 6).drop 2 = leb 4 (u64N seq) := rfl
  have hv : ((putN (u64N seq) (u64N ev) l).take 10).drop 6 = leb 4 (u64N ev) := rfl
  have hb : (bodyN (u64N seq) (u64N ev) l).drop 11 = linesB l := rfl
  have p4 : (256 : Nat) ^ 4 = 4294967296 := by decide
  unfold getS
  rw [putN_take, putN_drop, val_sum _ (bodyN_lt _ _ _), h0, h1, h10, hq, hv, hb, val_leb, val_leb, parse_lines l hf, putN_len, p4, if_neg (by omega), if_neg (by simp), if_neg (by omega), if_neg (by omega), if_neg (by simp)]
  have a1 : ((u64N seq % 4294967296 : Nat) : Int) = seq := by omega
  have a2 : ((u64N ev % 4294967296 : Nat) : Int) = ev := by omega
  rw [a1, a2, if_pos h]
/-- What is got otherwise is nothing. -/
theorem getS_or (x : List Nat) : (∃ e, e ≠ 0 ∧ getS x = (0, 0, [], e)) ∨ (x.length = 15 + 9 * x.getD 10 0 ∧ val (x.drop (x.length - 4)) = sumN (x.take (x.length - 4)) ∧
    (getS x = (((val ((x.take 6).drop 2) : Nat) : Int), ((val ((x.take 10).drop 6) : Nat) : Int), parseN (x.getD 10 0) ((x.take (x.length - 4)).drop 11), 0) ∧ x.getD 0 0 = 76 ∧ x.getD 1 0 = 66 ∧ bchk (val ((x.take 6).drop 2) : Nat) (val ((x.take 10).drop 6) : Nat) (parseN (x.getD 10 0) ((x.take (x.length - 4)).drop 11)) = 0)) := by
  unfold getS
  by_cases c1 : x.length < 15
  · left; exact ⟨14, by decide, by rw [if_pos c1]⟩
  rw [if_neg c1]
  by_cases c2 : ¬ (x.getD 0 0 = 76 ∧ x.getD 1 0 = 66)
  · left; exact ⟨6, by decide, by rw [if_pos c2]⟩
  rw [if_neg c2]
  by_cases c3 : x.length < 15 + 9 * x.getD 10 0
  · left; exact ⟨14, by decide, by rw [if_pos c3]⟩
  rw [if_neg c3]
  by_cases c4 : x.length > 15 + 9 * x.getD 10 0
  · left; exact ⟨6, by decide, by rw [if_pos c4]⟩
  rw [if_neg c4]
  by_cases c5 : val (x.drop (x.length - 4)) ≠ sumN (x.take (x.length - 4))
  · left; exact ⟨7, by decide, by rw [if_pos c5]⟩
  rw [if_neg c5]
  by_cases c6 : bchk (val ((x.take 6).drop 2) : Nat) (val ((x.take 10).drop 6) : Nat) (parseN (x.getD 10 0) ((x.take (x.length - 4)).drop 11)) = 0
  · right
    rw [if_pos c6]
    have c2' := Classical.not_not.mp c2
    exact ⟨by omega, Classical.not_not.mp c5, rfl, c2'.1, c2'.2, c6⟩
  · left; exact ⟨6, by decide, by rw [if_neg c6]⟩
theorem alive_at (k : Nat) (hk : 600 ≤ k) : lombardlaw18_alive.f k = some true := by
  have e : putS 1 0 [] = (ints (putN 1 0 []), 0) := rfl
  have hg : getS (putN 1 0 []) = (1, 0, [], 0) := get_put 1 0 [] rfl
  have hs : sumN [49, 50, 51, 52, 53, 54, 55, 56, 57] = 3421780262 := by decide +kernel
  unfold lombardlaw18_alive.f
  rw [Put_at k 1 0 [] (by omega), Option.bind_some, e]
  dsimp only
  rw [Get_at k _ (putN_lt _ _ _) (by rw [putN_len]; simp) hk, Option.bind_some, hg, show ([49, 50, 51, 52, 53, 54, 55, 56, 57] : List Int) = ints [49, 50, 51, 52, 53, 54, 55, 56, 57] from rfl, Sum_at _ (by decide) (by decide), Option.bind_some, hs, if_pos ⟨rfl, rfl, by rw [ints_len, putN_len]; rfl, rfl, rfl⟩]

theorem To18_at (k : Nat) (a b : Int) (l : List S59) (hl : l.length ≤ 8796093022208) (hk : l.length < k) : lombardlaw18_To.f k a b l = some (a, b, l.map c45) := by
  unfold lombardlaw18_To.f
  rw [To_at k l hl hk]; rfl
theorem putS_len (a b : Int) (l : List S53) : (putS a b l).1.length ≤ 1000 := by
  unfold putS
  by_cases c : bchk a b l = 0
  · have := bchk_len c
    rw [if_pos c]
    show (ints _).length ≤ 1000
    rw [ints_len, putN_len]; omega
  · rw [if_neg c]; simp
theorem bytes_wf {l : List Int} (h : ∀ s_ ∈ l, (fun n_ : Int => (Lit.int .u8 n_).wf = true) s_) : ∀ x ∈ l, 0 ≤ x ∧ x < 256 := by
  intro x hx
  have := wf_u8 (h x hx)
  omega
theorem ints_inj {a b : List Nat} (h : ints a = ints b) : a = b := by
  have := congrArg (List.map Int.toNat) h
  unfold ints at this
  rw [List.map_map, List.map_map] at this
  have e : Int.toNat ∘ (fun n : Nat => (n : Int)) = id := by funext n; simp
  rw [e, List.map_id, List.map_id] at this
  exact this
theorem c45_inj {a b : List S59} (h : a.map c45 = b.map c45) : a = b := by
  have := congrArg (List.map c48) h
  rw [back48, back48] at this
  exact this
theorem putS_ok {a b : Int} {l : List S53} (h : (putS a b l).2 = 0) : bchk a b l = 0 ∧ (putS a b l).1 = ints (putN (u64N a) (u64N b) l) := by
  unfold putS at h ⊢
  by_cases c : bchk a b l = 0
  · rw [if_pos c]; exact ⟨c, rfl⟩
  · rw [if_neg c] at h; exact absurd h c
end Go.Proofs.Ytepgponpnijonaa.Print
