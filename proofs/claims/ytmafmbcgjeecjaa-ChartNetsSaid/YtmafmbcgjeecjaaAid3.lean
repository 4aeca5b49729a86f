import Derived.Test.YtmafmbcgjeecjaaPrint18
import Derived.Test.YtmafmbcgjeecjaaPrint20
import Derived.Test.YtmafmbcgjeecjaaAid2
namespace Go.Proofs.Ytmafmbcgjeecjaa.Print
open Go.RowKit Go.Proofs.YtmafmbcgjeecjaaW.PrintWords Go.Proofs.YtmafmbcgjeecjaaW.PrintLast Go.Proofs.YtmafmbcgjeecjaaW.PrintMore
set_option linter.unusedVariables false
set_option linter.unusedSimpArgs false

def accs : List Int := [1, 2, 3, 4, 5, 6, 7]
/-- An account's sum. -/
def sumA (l : List S45) (a : Int) : Int := (chart_Net.amts l a).sum
def okl (l : List S45) : Prop := ∀ x ∈ l, 1 ≤ x.f0 ∧ x.f0 ≤ 7
instance (l : List S45) : Decidable (okl l) := by unfold okl; infer_instance
def goS (s : Int → Int) : List Int → List S45 → List S45 × Int
  | [], acc => (acc, 0)
  | a :: t, acc => if inr (s a) then (if s a = 0 then goS s t acc else goS s t (acc ++ [⟨a, s a⟩])) else ([], 3)
def netf (l : List S45) : List S45 × Int := if okl l then goS (sumA l) accs [] else ([], 2)
theorem amts_mem {l : List S45} {a n : Int} (h : n ∈ chart_Net.amts l a) : ∃ x ∈ l, x.f1 = n := by
  unfold chart_Net.amts at h
  obtain ⟨x, hx, rfl⟩ := List.mem_map.mp h
  exact ⟨x, (List.mem_filter.mp hx).1, rfl⟩
theorem go_at (l : List S45) (hl : l.length ≤ 1000000) (hx : ∀ x ∈ l, inr x.f1) : ∀ (L : List S57) (acc : List S45), chart_Net.go l L acc = some (goS (sumA l) (L.map (·.f0)) acc) := by
  intro L
  induction L with
  | nil => intro acc; rfl
  | cons a t ih =>
    intro acc
    rw [chart_Net.go, Sum_at _ (Nat.le_trans (chart_Net.amts_len _ _) hl) (fun x h => by obtain ⟨y, hy, rfl⟩ := amts_mem h; exact hx y hy), Option.bind_some]
    rw [List.map_cons, goS]
    have e : (chart_Net.amts l a.f0).sum = sumA l a.f0 := rfl
    rw [e]
    unfold told
    by_cases c : inr (sumA l a.f0)
    · rw [if_pos c, if_pos c, if_pos rfl]
      by_cases d : sumA l a.f0 = 0
      · rw [if_pos d, if_pos d, ih]
      · rw [if_neg d, if_neg d, ih]
    · rw [if_neg c, if_neg c, if_neg (by decide)]
theorem ok_iff (l : List S45) : chart_Net.ok l ↔ okl l := by
  unfold chart_Net.ok okl
  constructor
  · intro h x hx
    have := h x hx
    rw [find_acc] at this
    apply Classical.byContradiction
    intro c
    rw [(nm_empty _).mpr c] at this
    cases this
  · intro h x hx
    rw [find_acc]
    have := mt (nm_empty x.f0).mp (fun c => c (h x hx))
    simpa using this
theorem Net_at (l : List S45) (hl : l.length ≤ 1000000) (hx : ∀ x ∈ l, inr x.f1) : chart_Net.f l = some (netf l) := by
  unfold chart_Net.f netf
  rw [if_pos (by omega)]
  by_cases c : okl l
  · rw [if_pos ((ok_iff l).mpr c), if_pos c, go_at l hl hx]
    rfl
  · rw [if_neg (fun h => c ((ok_iff l).mp h)), if_neg c]
/-! the document's -/
theorem rd48 (l : List S48) (i : Nat) (h : i < l.length) : rd_T48 l (i : Int) = l[i] := by simp [rd_T48, List.getElem?_eq_getElem h]
theorem rd45 (l : List S45) (i : Nat) (h : i < l.length) : rd_T45 l (i : Int) = l[i] := by simp [rd_T45, List.getElem?_eq_getElem h]
def conv (r : List S45 × Int) : List S48 × Int := (r.1.map c48, r.2)
theorem rl0 (l : List S48) (hl : l.length ≤ 1000000) (m : Nat) : ∀ (d i : Nat), i + d = l.length →
    lombardref17_Net.l0 (m + d + 1) l l (l.length : Int) (i : Int) = if okl ((l.drop i).map c45) then lombardref17_Net.l1 m l [] 1 else some ([], 2) := by
  intro d
  induction d with
  | zero =>
    intro i hi
    rw [lombardref17_Net.l0, if_neg (by omega), List.drop_of_length_le (by omega), if_pos (by simp [okl])]
  | succ d ih =>
    intro i hi
    have c : i < l.length := by omega
    rw [lombardref17_Net.l0, if_pos (by omega), if_pos (by omega), if_pos (by omega), rd48 l i c, w64 (by omega) (by omega), List.drop_eq_getElem_cons c, List.map_cons]
    have := ih (i + 1) (by omega)
    rw [Int.natCast_add, Int.natCast_one] at this
    rw [show m + (d + 1) = m + d + 1 from rfl, this]
    have hk : okl (c45 l[i] :: (l.drop (i + 1)).map c45) ↔ (1 ≤ l[i].f0 ∧ l[i].f0 ≤ 7) ∧ okl ((l.drop (i + 1)).map c45) := by
      unfold okl
      rw [List.forall_mem_cons]
      rfl
    by_cases c1 : l[i].f0 < 1
    · rw [if_pos c1, if_neg (fun h => by have := (hk.mp h).1; omega)]
    · rw [if_neg c1]
      by_cases c2 : l[i].f0 > 7
      · rw [if_pos c2, if_neg (fun h => by have := (hk.mp h).1; omega)]
      · rw [if_neg c2]
        by_cases c3 : okl ((l.drop (i + 1)).map c45)
        · rw [if_pos c3, if_pos (hk.mpr ⟨⟨by omega, by omega⟩, c3⟩)]
        · rw [if_neg c3, if_neg (fun h => c3 (hk.mp h).2)]
theorem amts_take (l : List S48) (a : Int) (i : Nat) (h : i < l.length) : chart_Net.amts ((l.take (i + 1)).map c45) a = chart_Net.amts ((l.take i).map c45) a ++ (if l[i].f0 = a then [l[i].f1] else []) := by
  unfold chart_Net.amts
  rw [List.take_succ_eq_append_getElem h, List.map_append, List.filter_append, List.map_append]
  congr 1
  by_cases c : l[i].f0 = a
  · rw [if_pos c]; simp [c45, c]
  · rw [if_neg c]; simp [c45, c]
theorem rl2 (l : List S48) (hl : l.length ≤ 1000000) (acc : List S48) (a : Int) (m : Nat) : ∀ (d i : Nat), i + d = l.length →
    lombardref17_Net.l2 (m + d + 1) l acc a (chart_Net.amts ((l.take i).map c45) a) l (l.length : Int) (i : Int) = ((lombardref01_Sum.f m (chart_Net.amts (l.map c45) a)).bind fun bt184 => (if bt184.2 = 0 then (if bt184.1 = 0 then (lombardref17_Net.l1 m l acc (wrap64 (a + 1))) else (if acc.length < 8796093022208 then (lombardref17_Net.l1 m l (acc ++ [(⟨a, bt184.1⟩ : S48)]) (wrap64 (a + 1))) else (none))) else (some (([] : List (S48)), bt184.2)))) := by
  intro d
  induction d with
  | zero =>
    intro i hi
    rw [lombardref17_Net.l2, if_neg (by omega), List.take_of_length_le (by omega)]
  | succ d ih =>
    intro i hi
    have c : i < l.length := by omega
    have hlen : (chart_Net.amts ((l.take i).map c45) a).length ≤ 1000000 := Nat.le_trans (chart_Net.amts_len _ _) (by simp; omega)
    rw [lombardref17_Net.l2, if_pos (by omega), if_pos (by omega), if_pos (by omega), rd48 l i c, w64 (x := (i : Int) + 1) (by omega) (by omega)]
    have := ih (i + 1) (by omega)
    rw [Int.natCast_add, Int.natCast_one, amts_take l a i c] at this
    rw [← this, show m + (d + 1) = m + d + 1 from rfl]
    by_cases c1 : l[i].f0 = a
    · rw [if_pos c1, if_pos c1, if_pos (by omega)]
    · rw [if_neg c1, if_neg c1, List.append_nil]
theorem rl1 (l : List S48) (hl : l.length ≤ 1000000) (hx : ∀ x ∈ l, inr x.f1) (m : Nat) (hm : (l.length + 2) * (l.length + 2) ≤ m) : ∀ (c : Nat) (acc : List S45), c ≤ 7 → acc.length + c ≤ 7 →
    lombardref17_Net.l1 (m + c * (l.length + 2) + 1) l (acc.map c48) (8 - c : Int) = some (conv (goS (sumA (l.map c45)) (accs.drop (7 - c)) acc)) := by
  intro c
  induction c with
  | zero =>
    intro acc h1 h2
    rw [lombardref17_Net.l1, if_neg (by omega)]
    rfl
  | succ c ih =>
    intro acc h1 h2
    have hd : accs.drop (7 - (c + 1)) = (8 - ((c + 1 : Nat) : Int)) :: accs.drop (7 - c) := by
      have : c = 0 ∨ c = 1 ∨ c = 2 ∨ c = 3 ∨ c = 4 ∨ c = 5 ∨ c = 6 := by omega
      rcases this with rfl | rfl | rfl | rfl | rfl | rfl | rfl <;> rfl
    have ef : m + (c + 1) * (l.length + 2) = (m + c * (l.length + 2) + 1) + l.length + 1 := by rw [Nat.add_mul]; omega
    have h0 := rl2 l hl (acc.map c48) (8 - ((c + 1 : Nat) : Int)) (m + c * (l.length + 2) + 1) l.length 0 (by omega)
    have he : chart_Net.amts ((l.take 0).map c45) (8 - ((c + 1 : Nat) : Int)) = [] := rfl
    rw [he] at h0
    simp only [Int.natCast_zero] at h0
    rw [lombardref17_Net.l1, if_pos (by omega), ef, h0, rSum_at _ _ (Nat.le_trans (chart_Net.amts_len _ _) (by simpa using hl)) (fun x h => by
      obtain ⟨y, hy, rfl⟩ := amts_mem h
      obtain ⟨z, hz, rfl⟩ := List.mem_map.mp hy
      exact hx z hz) (by
      have hb : (chart_Net.amts (l.map c45) (8 - ((c + 1 : Nat) : Int))).length ≤ l.length := Nat.le_trans (chart_Net.amts_len _ _) (by simp)
      have := Nat.mul_le_mul (Nat.add_le_add_right hb 2) (Nat.add_le_add_right hb 2)
      omega), Option.bind_some, hd, goS]
    have e : (chart_Net.amts (l.map c45) (8 - ((c + 1 : Nat) : Int))).sum = sumA (l.map c45) (8 - ((c + 1 : Nat) : Int)) := rfl
    have ew : wrap64 (8 - ((c + 1 : Nat) : Int) + 1) = 8 - (c : Int) := by rw [w64 (by omega) (by omega)]; omega
    rw [e, ew]
    unfold told
    by_cases c1 : inr (sumA (l.map c45) (8 - ((c + 1 : Nat) : Int)))
    · rw [if_pos c1, if_pos c1, if_pos rfl]
      by_cases d : sumA (l.map c45) (8 - ((c + 1 : Nat) : Int)) = 0
      · rw [if_pos d, if_pos d, ih acc (by omega) (by omega)]
      · rw [if_neg d, if_neg d, if_pos (by simp; omega)]
        have := ih (acc ++ [⟨8 - ((c + 1 : Nat) : Int), sumA (l.map c45) (8 - ((c + 1 : Nat) : Int))⟩]) (by omega) (by simp; omega)
        rw [List.map_append] at this
        exact this
    · rw [if_neg c1, if_neg c1, if_neg (by decide)]
      rfl
theorem rNet_at (k : Nat) (l : List S48) (hl : l.length ≤ 1000) (hx : ∀ x ∈ l, inr x.f1) (hk : 2000000 ≤ k) : lombardref17_Net.f k l = some (conv (netf (l.map c45))) := by
  have hsq : (l.length + 2) * (l.length + 2) ≤ 1002 * 1002 := Nat.mul_le_mul (by omega) (by omega)
  obtain ⟨m, rfl⟩ : ∃ m, k = (m + 7 * (l.length + 2) + 1) + l.length + 1 := ⟨k - 7 * (l.length + 2) - 1 - l.length - 1, by omega⟩
  have h0 := rl0 l (by omega) (m + 7 * (l.length + 2) + 1) l.length 0 (by omega)
  unfold lombardref17_Net.f netf
  simp only [Int.natCast_zero] at h0
  rw [h0, List.drop_zero]
  by_cases c : okl (l.map c45)
  · rw [if_pos c, if_pos c]
    exact rl1 l (by omega) hx m (by omega) 7 [] (by omega) (by simp)
  · rw [if_neg c, if_neg c]
    rfl
/-! may lines be -/
def good (x : S45) : Prop := (1 ≤ x.f0 ∧ x.f0 ≤ 7) ∧ -1125899906842624 ≤ x.f1 ∧ x.f1 ≤ 1125899906842624 ∧ x.f1 ≠ 0
instance (x : S45) : Decidable (good x) := by unfold good; infer_instance
def chkGo : List S45 → Int → Int
  | [], s => if s = 0 then 0 else 2
  | x :: t, s => if good x then chkGo t (s + x.f1) else 2
def chk (l : List S45) : Int := if l.length > 64 then 10 else if l = [] then 2 else chkGo l 0
theorem Check_l0 (l : List S45) (hl : l.length ≤ 64) : ∀ (k i : Nat) (s : Int), i ≤ l.length → l.length < k + i → -(i * 1125899906842624 : Int) ≤ s → s ≤ i * 1125899906842624 →
    chart_Check.l0 k s l (l.length : Int) (i : Int) = some (chkGo (l.drop i) s) := by
  intro k
  induction k with
  | zero => intro i s h1 h2; omega
  | succ k ih =>
    intro i s h1 h2 h3 h4
    by_cases c : i < l.length
    · rw [chart_Check.l0, if_pos (by omega), if_pos (by omega), if_pos (by omega), rd45 l i c, Name_at, Option.bind_some, w64 (x := (i : Int) + 1) (by omega) (by omega), List.drop_eq_getElem_cons c, chkGo]
      by_cases c1 : 1 ≤ l[i].f0 ∧ l[i].f0 ≤ 7
      · rw [if_neg (fun z => (nm_empty _).mp z c1)]
        by_cases c2 : l[i].f1 = 0
        · rw [if_pos c2, if_neg (fun h => h.2.2.2 c2)]
        · rw [if_neg c2]
          by_cases c3 : l[i].f1 < -1125899906842624
          · rw [if_pos c3, if_neg (fun h => by have := h.2.1; omega)]
          · rw [if_neg c3]
            by_cases c4 : l[i].f1 > 1125899906842624
            · rw [if_pos c4, if_neg (fun h => by have := h.2.2.1; omega)]
            · rw [if_neg c4, if_pos ⟨c1, by omega, by omega, c2⟩, w64 (by omega) (by omega)]
              have := ih (i + 1) (s + l[i].f1) (by omega) (by omega) (by rw [Int.natCast_add, Int.add_mul]; omega) (by rw [Int.natCast_add, Int.add_mul]; omega)
              rw [Int.natCast_add, Int.natCast_one] at this
              exact this
      · rw [if_pos ((nm_empty _).mpr c1), if_neg (fun h => c1 h.1)]
    · rw [chart_Check.l0, if_neg (by omega), List.drop_of_length_le (by omega), chkGo]
      by_cases z : s = 0
      · rw [if_pos z, if_pos z]
      · rw [if_neg z, if_neg z]
theorem Check_at (k : Nat) (l : List S45) (hk : 65 ≤ k) : chart_Check.f k l = some (chk l) := by
  unfold chart_Check.f chk
  by_cases c : l.length > 64
  · rw [if_pos (by omega), if_pos c]
  · rw [if_neg (by omega), if_neg c]
    by_cases d : l = []
    · subst d; rfl
    · have : l.length ≠ 0 := fun h => d (List.eq_nil_of_length_eq_zero h)
      rw [if_neg (by omega), if_neg d]
      have := Check_l0 l (by omega) k 0 0 (by omega) (by omega) (by omega) (by omega)
      simpa using this
theorem rCheck_l0 (l : List S48) (hl : l.length ≤ 64) : ∀ (k i : Nat) (s : Int), i ≤ l.length → l.length < k + i → -(i * 1125899906842624 : Int) ≤ s → s ≤ i * 1125899906842624 →
    lombardref17_Check.l0 k l s l (l.length : Int) (i : Int) = some (if l = [] then 2 else chkGo ((l.drop i).map c45) s) := by
  intro k
  induction k with
  | zero => intro i s h1 h2; omega
  | succ k ih =>
    intro i s h1 h2 h3 h4
    by_cases c : i < l.length
    · have hne : l ≠ [] := fun h => by rw [h] at c; simp at c
      have hc : ∀ x : S48, good (c45 x) ↔ (1 ≤ x.f0 ∧ x.f0 ≤ 7) ∧ -1125899906842624 ≤ x.f1 ∧ x.f1 ≤ 1125899906842624 ∧ x.f1 ≠ 0 := fun x => Iff.rfl
      rw [lombardref17_Check.l0, if_pos (by omega), if_pos (by omega), if_pos (by omega), rd48 l i c, w64 (x := (i : Int) + 1) (by omega) (by omega), List.drop_eq_getElem_cons c, List.map_cons, chkGo, if_neg hne]
      by_cases c1 : l[i].f0 < 1
      · rw [if_pos c1, if_neg (fun h => by have := (hc _).mp h; omega)]
      rw [if_neg c1]
      by_cases c2 : l[i].f0 > 7
      · rw [if_pos c2, if_neg (fun h => by have := (hc _).mp h; omega)]
      rw [if_neg c2]
      by_cases c3 : l[i].f1 < -1125899906842624
      · rw [if_pos c3, if_neg (fun h => by have := (hc _).mp h; omega)]
      rw [if_neg c3]
      by_cases c4 : l[i].f1 > 1125899906842624
      · rw [if_pos c4, if_neg (fun h => by have := (hc _).mp h; omega)]
      rw [if_neg c4]
      by_cases c5 : l[i].f1 = 0
      · rw [if_pos c5, if_neg (fun h => by have := (hc _).mp h; omega)]
      rw [if_neg c5, if_pos ((hc _).mpr ⟨⟨by omega, by omega⟩, by omega, by omega, c5⟩), w64 (by omega) (by omega)]
      have := ih (i + 1) (s + l[i].f1) (by omega) (by omega) (by rw [Int.natCast_add, Int.add_mul]; omega) (by rw [Int.natCast_add, Int.add_mul]; omega)
      rw [Int.natCast_add, Int.natCast_one, if_neg hne] at this
      exact this
    · rw [lombardref17_Check.l0, if_neg (by omega), List.drop_of_length_le (by omega), List.map_nil, chkGo]
      by_cases d : l = []
      · subst d; rfl
      · have : l.length ≠ 0 := fun h => d (List.eq_nil_of_length_eq_zero h)
        rw [if_neg (by omega), if_neg d]
        by_cases z : s = 0
        · rw [if_pos z, if_pos z]
        · rw [if_neg z, if_neg z]
theorem rCheck_at (k : Nat) (l : List S48) (hk : 65 ≤ k) : lombardref17_Check.f k l = some (chk (l.map c45)) := by
  unfold lombardref17_Check.f chk
  rw [List.length_map]
  by_cases c : l.length > 64
  · rw [if_pos (by omega), if_pos c]
  · rw [if_neg (by omega), if_neg c]
    have := rCheck_l0 l (by omega) k 0 0 (by omega) (by omega) (by omega) (by omega)
    simp only [Int.natCast_zero, List.drop_zero] at this
    rw [this]
    by_cases d : l = []
    · subst d; rfl
    · rw [if_neg d, if_neg (by simpa using d)]
/-! lines of the program's, lines of the document's -/
theorem To_l0 (l : List S48) (hl : l.length ≤ 8796093022208) : ∀ (k i : Nat) (acc : List S45), i ≤ l.length → l.length < k + i → acc.length = i →
    lombardlaw17_To.l0 k acc l (l.length : Int) (i : Int) = some (acc ++ (l.drop i).map c45) := by
  intro k
  induction k with
  | zero => intro i acc h1 h2; omega
  | succ k ih =>
    intro i acc h1 h2 h3
    by_cases c : i < l.length
    · rw [lombardlaw17_To.l0, if_pos (by omega), if_pos (by omega), if_pos (by omega), if_pos (by omega), w64 (by omega) (by omega), rd48 l i c]
      have := ih (i + 1) (acc ++ [⟨l[i].f0, l[i].f1⟩]) (by omega) (by omega) (by simp [h3])
      rw [Int.natCast_add, Int.natCast_one] at this
      rw [this, List.drop_eq_getElem_cons c, List.map_cons, List.append_assoc]
      rfl
    · rw [lombardlaw17_To.l0, if_neg (by omega), List.drop_of_length_le (by omega)]
      simp
theorem To_at (k : Nat) (l : List S48) (hl : l.length ≤ 8796093022208) (hk : l.length < k) : lombardlaw17_To.f k l = some (l.map c45) := by
  have := To_l0 l hl k 0 [] (Nat.zero_le _) (by omega) rfl
  simpa [lombardlaw17_To.f] using this
theorem back48 (l : List S48) : (l.map c45).map c48 = l := by
  rw [List.map_map]
  have : c48 ∘ c45 = id := by funext x; rfl
  rw [this, List.map_id]
theorem goS_len (s : Int → Int) : ∀ (L : List Int) (acc : List S45), (goS s L acc).1.length ≤ acc.length + L.length := by
  intro L
  induction L with
  | nil => intro acc; simp [goS]
  | cons a t ih =>
    intro acc
    rw [goS]
    split
    · split
      · have := ih acc; simp; omega
      · have := ih (acc ++ [⟨a, s a⟩]); simp at this ⊢; omega
    · simp
theorem netf_len (l : List S45) : (netf l).1.length ≤ 7 := by
  unfold netf
  split
  · exact goS_len _ accs []
  · simp
theorem amt48 {l : List S48} (h : ∀ x ∈ l, Wf48 x) : ∀ x ∈ l, inr x.f1 := fun x hx => wf_i64 (h x hx).2
theorem amt45 {l : List S48} (h : ∀ x ∈ l, Wf48 x) : ∀ x ∈ l.map c45, inr x.f1 := by
  intro x hx
  obtain ⟨y, hy, rfl⟩ := List.mem_map.mp hx
  exact amt48 h y hy
end Go.Proofs.Ytmafmbcgjeecjaa.Print
