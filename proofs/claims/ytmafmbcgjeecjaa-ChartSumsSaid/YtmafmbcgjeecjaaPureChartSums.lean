/- Net of Net is Net; in whatever order lines stand it is the same; parts' Nets, netted, are the Net of all; of lines that may be it is nothing all together. For every row of lines and every place. -/
import Derived.Test.YtmafmbcgjeecjaaStChartSums
import Derived.Test.YtmafmbcgjeecjaaAid3
namespace Go.Proofs.Ytmafmbcgjeecjaa.Print
open Go.RowKit Go.Proofs.YtmafmbcgjeecjaaW.PrintWords Go.Proofs.YtmafmbcgjeecjaaW.PrintLast Go.Proofs.YtmafmbcgjeecjaaW.PrintMore
set_option linter.unusedVariables false
set_option linter.unusedSimpArgs false

theorem sumA_append (a b : List S45) (n : Int) : sumA (a ++ b) n = sumA a n + sumA b n := by
  unfold sumA chart_Net.amts
  rw [List.filter_append, List.map_append, List.sum_append]
theorem sumA_cons (x : S45) (t : List S45) (n : Int) : sumA (x :: t) n = (if x.f0 = n then x.f1 else 0) + sumA t n := by
  unfold sumA chart_Net.amts
  by_cases c : x.f0 = n <;> simp [c]
theorem sumA_nil (n : Int) : sumA [] n = 0 := rfl
theorem goS_congr (s s' : Int → Int) : ∀ (L : List Int) (acc : List S45), (∀ a ∈ L, s a = s' a) → goS s L acc = goS s' L acc := by
  intro L
  induction L with
  | nil => intro acc _; rfl
  | cons a t ih =>
    intro acc h
    have h0 := h a List.mem_cons_self
    have h1 := fun acc => ih acc (fun b hb => h b (List.mem_cons_of_mem _ hb))
    rw [goS, goS, h0, h1, h1]
def nz (s : Int → Int) : List Int → List S45
  | [] => []
  | a :: t => if s a = 0 then nz s t else ⟨a, s a⟩ :: nz s t
theorem goS_cases (s : Int → Int) : ∀ (L : List Int) (acc : List S45), goS s L acc = (acc ++ nz s L, 0) ∨ goS s L acc = ([], 3) := by
  intro L
  induction L with
  | nil => intro acc; left; simp [goS, nz]
  | cons a t ih =>
    intro acc
    rw [goS, nz]
    by_cases c : inr (s a)
    · rw [if_pos c]
      by_cases d : s a = 0
      · rw [if_pos d, if_pos d]; exact ih acc
      · rw [if_neg d, if_neg d]
        have := ih (acc ++ [⟨a, s a⟩])
        rw [List.append_assoc] at this
        exact this
    · rw [if_neg c]; right; rfl
theorem goS_inr (s : Int → Int) : ∀ (L : List Int) (acc : List S45), (goS s L acc).2 = 0 → ∀ a ∈ L, inr (s a) := by
  intro L
  induction L with
  | nil => intro acc _ a h; cases h
  | cons a t ih =>
    intro acc h
    rw [goS] at h
    by_cases c : inr (s a)
    · rw [if_pos c] at h
      intro b hb
      rcases List.mem_cons.mp hb with rfl | hb
      · exact c
      · by_cases d : s a = 0
        · rw [if_pos d] at h; exact ih acc h b hb
        · rw [if_neg d] at h; exact ih _ h b hb
    · rw [if_neg c] at h; exact absurd h (by decide)
theorem netf_zero {l : List S45} (h : (netf l).2 = 0) : okl l ∧ netf l = (nz (sumA l) accs, 0) ∧ ∀ a ∈ accs, inr (sumA l a) := by
  unfold netf at h ⊢
  by_cases c : okl l
  · rw [if_pos c] at h ⊢
    refine ⟨c, ?_, goS_inr _ _ _ h⟩
    rcases goS_cases (sumA l) accs [] with e | e
    · rw [e]; simp
    · rw [e] at h; exact absurd h (by decide)
  · rw [if_neg c] at h; exact absurd h (by decide)
theorem netf_nonzero {l : List S45} (h : ¬ (netf l).2 = 0) : (netf l).1 = [] := by
  unfold netf at h ⊢
  by_cases c : okl l
  · rw [if_pos c] at h ⊢
    rcases goS_cases (sumA l) accs [] with e | e
    · rw [e] at h; exact absurd rfl h
    · rw [e]
  · rw [if_neg c]
theorem netf_congr {l l' : List S45} (h : okl l ↔ okl l') (hs : ∀ a ∈ accs, sumA l a = sumA l' a) : netf l = netf l' := by
  unfold netf
  by_cases c : okl l
  · rw [if_pos c, if_pos (h.mp c)]; exact goS_congr _ _ _ _ hs
  · rw [if_neg c, if_neg (fun z => c (h.mpr z))]
theorem nz_mem (s : Int → Int) : ∀ (L : List Int) (x : S45), x ∈ nz s L → x.f0 ∈ L ∧ x.f1 = s x.f0 := by
  intro L
  induction L with
  | nil => intro x h; cases h
  | cons a t ih =>
    intro x h
    rw [nz] at h
    by_cases d : s a = 0
    · rw [if_pos d] at h
      obtain ⟨h1, h2⟩ := ih x h
      exact ⟨List.mem_cons_of_mem _ h1, h2⟩
    · rw [if_neg d] at h
      rcases List.mem_cons.mp h with rfl | h
      · exact ⟨List.mem_cons_self, rfl⟩
      · obtain ⟨h1, h2⟩ := ih x h
        exact ⟨List.mem_cons_of_mem _ h1, h2⟩
theorem sumA_nz_out (s : Int → Int) (L : List Int) (a : Int) (h : a ∉ L) : sumA (nz s L) a = 0 := by
  induction L with
  | nil => rfl
  | cons b t ih =>
    have hb : b ≠ a := fun e => h (by rw [e]; exact List.mem_cons_self)
    have ht := ih (fun z => h (List.mem_cons_of_mem _ z))
    rw [nz]
    split
    · exact ht
    · rw [sumA_cons, if_neg hb, ht]; rfl
theorem sumA_nz (s : Int → Int) : ∀ (L : List Int), L.Nodup → ∀ a ∈ L, sumA (nz s L) a = s a := by
  intro L
  induction L with
  | nil => intro _ a h; cases h
  | cons b t ih =>
    intro hn a ha
    obtain ⟨hb, ht⟩ := List.nodup_cons.mp hn
    rw [nz]
    rcases List.mem_cons.mp ha with rfl | hat
    · split
      · rename_i z; rw [sumA_nz_out s t a hb, z]
      · rw [sumA_cons, if_pos rfl, sumA_nz_out s t a hb]; simp
    · have hne : b ≠ a := fun e => hb (e ▸ hat)
      split
      · exact ih ht a hat
      · rw [sumA_cons, if_neg hne, ih ht a hat]; simp
theorem accs_nodup : accs.Nodup := by decide
theorem accs_in {a : Int} (h : a ∈ accs) : 1 ≤ a ∧ a ≤ 7 := by
  unfold accs at h
  simp at h
  omega
theorem okl_nz (s : Int → Int) : okl (nz s accs) := fun x hx => accs_in (nz_mem s accs x hx).1
theorem inr_nz {s : Int → Int} (h : ∀ a ∈ accs, inr (s a)) : ∀ x ∈ nz s accs, inr x.f1 := by
  intro x hx
  obtain ⟨h1, h2⟩ := nz_mem s accs x hx
  rw [h2]; exact h _ h1
theorem nz_sum (s : Int → Int) : ∀ L : List Int, ((nz s L).map (·.f1)).sum = (L.map s).sum := by
  intro L
  induction L with
  | nil => rfl
  | cons a t ih =>
    rw [nz, List.map_cons, List.sum_cons]
    split
    · rename_i z; rw [ih, z]; simp
    · rw [List.map_cons, List.sum_cons, ih]
theorem all_sum : ∀ (l : List S45), okl l → (accs.map (sumA l)).sum = (l.map (·.f1)).sum := by
  intro l
  induction l with
  | nil => intro _; rfl
  | cons x t ih =>
    intro h
    have hx := h x List.mem_cons_self
    have ih' := ih (fun y hy => h y (List.mem_cons_of_mem _ hy))
    have e : sumA (x :: t) = fun n => (if x.f0 = n then x.f1 else 0) + sumA t n := funext fun n => sumA_cons x t n
    rw [e, List.map_cons, List.sum_cons, ← ih']
    unfold accs
    simp only [List.map_cons, List.map_nil, List.sum_cons, List.sum_nil]
    have : x.f0 = 1 ∨ x.f0 = 2 ∨ x.f0 = 3 ∨ x.f0 = 4 ∨ x.f0 = 5 ∨ x.f0 = 6 ∨ x.f0 = 7 := by omega
    rcases this with q | q | q | q | q | q | q <;> rw [q] <;> simp <;> omega
theorem chkGo_zero : ∀ (l : List S45) (s : Int), chkGo l s = 0 → okl l ∧ s + (l.map (·.f1)).sum = 0 := by
  intro l
  induction l with
  | nil =>
    intro s h
    rw [chkGo] at h
    refine ⟨(fun x hx => by cases hx), ?_⟩
    by_cases c : s = 0
    · simp [c]
    · rw [if_neg c] at h; exact absurd h (by decide)
  | cons x t ih =>
    intro s h
    rw [chkGo] at h
    by_cases c : good x
    · rw [if_pos c] at h
      obtain ⟨h1, h2⟩ := ih _ h
      refine ⟨fun y hy => ?_, ?_⟩
      · rcases List.mem_cons.mp hy with rfl | hy
        · exact c.1
        · exact h1 y hy
      · rw [List.map_cons, List.sum_cons]; omega
    · rw [if_neg c] at h; exact absurd h (by decide)
theorem chk_zero {l : List S45} (h : chk l = 0) : okl l ∧ (l.map (·.f1)).sum = 0 := by
  unfold chk at h
  split at h
  · exact absurd h (by decide)
  · split at h
    · exact absurd h (by decide)
    · have := chkGo_zero l 0 h
      exact ⟨this.1, by have := this.2; omega⟩
theorem wrap_add (t x : Int) : wrap64 (wrap64 t + x) = wrap64 (t + x) := by unfold wrap64; omega
theorem l0_at (l : List S45) (hl : l.length ≤ 100) : ∀ (k i : Nat) (t : Int), i ≤ l.length → l.length < k + i → lombardlaw17_ChartSums.l0 k (wrap64 t) l (l.length : Int) (i : Int) = some (wrap64 (t + ((l.drop i).map (·.f1)).sum) == 0) := by
  intro k
  induction k with
  | zero => intro i t h1 h2; omega
  | succ k ih =>
    intro i t h1 h2
    by_cases c : i < l.length
    · have := ih (i + 1) (t + l[i].f1) (by omega) (by omega)
      rw [Int.natCast_add, Int.natCast_one] at this
      rw [lombardlaw17_ChartSums.l0, if_pos (by omega), if_pos (by omega), if_pos (by omega), rd45 l i c, w64 (x := (i : Int) + 1) (by omega) (by omega), wrap_add, this, List.drop_eq_getElem_cons c, List.map_cons, List.sum_cons, Int.add_assoc]
    · rw [lombardlaw17_ChartSums.l0, if_neg (by omega), List.drop_of_length_le (by omega)]
      simp
theorem okl_append (a b : List S45) : okl (a ++ b) ↔ okl a ∧ okl b := by
  unfold okl
  exact List.forall_mem_append
theorem j3_at (k : Nat) (l : List S48) (hl : l.length ≤ 200) (hk : 300 ≤ k) (h0 : (netf (l.map c45)).2 = 0) : lombardlaw17_ChartSums.j3 (k + 1) l (netf (l.map c45)).1 = some true := by
  rw [lombardlaw17_ChartSums.j3, To_at _ _ (by omega) (by omega), Option.bind_some, Check_at _ _ (by omega), Option.bind_some]
  by_cases c : chk (l.map c45) = 0
  · rw [if_pos c]
    obtain ⟨h1, h2⟩ := chk_zero c
    have h7 := netf_len (l.map c45)
    obtain ⟨_, e, _⟩ := netf_zero h0
    have := l0_at (netf (l.map c45)).1 (by omega) k 0 0 (Nat.zero_le _) (by omega)
    rw [w64 (by omega) (by omega)] at this
    simp only [Int.natCast_zero] at this
    rw [this, List.drop_zero, e]
    dsimp only
    rw [nz_sum, all_sum _ h1, h2, w64 (by omega) (by omega)]
    rfl
  · rw [if_neg c]
theorem j2_at (k : Nat) (l : List S48) (n : Nat) (hl : l.length ≤ 200) (hn : n ≤ l.length) (hk : 300 ≤ k) (h0 : (netf (l.map c45)).2 = 0) (b : Bool)
    (hb : b = true → (netf ((l.take n).map c45)).2 = 0 ∧ (netf ((l.drop n).map c45)).2 = 0) :
    lombardlaw17_ChartSums.j2 (k + 2) l (netf (l.map c45)).1 (netf ((l.take n).map c45)).1 (netf ((l.drop n).map c45)).1 b = some true := by
  rw [lombardlaw17_ChartSums.j2]
  by_cases c : b = true
  · obtain ⟨hx, hy⟩ := hb c
    obtain ⟨ox, ex, ix⟩ := netf_zero hx
    obtain ⟨oy, ey, iy⟩ := netf_zero hy
    obtain ⟨oo, ee, ii⟩ := netf_zero h0
    have lx := netf_len ((l.take n).map c45)
    have ly := netf_len ((l.drop n).map c45)
    have h7 := netf_len (l.map c45)
    rw [if_pos c, if_pos (by omega)]
    have key : netf ((netf ((l.take n).map c45)).1 ++ (netf ((l.drop n).map c45)).1) = netf (l.map c45) := by
      apply netf_congr
      · rw [ex, ey]
        exact ⟨fun _ => oo, fun _ => (okl_append _ _).mpr ⟨okl_nz _, okl_nz _⟩⟩
      · intro a ha
        rw [ex, ey, sumA_append, sumA_nz _ _ accs_nodup a ha, sumA_nz _ _ accs_nodup a ha, ← sumA_append, ← List.map_append, List.take_append_drop]
    rw [Net_at _ (by rw [List.length_append]; omega) (by
      intro x hx'
      rcases List.mem_append.mp hx' with h | h
      · rw [ex] at h; exact inr_nz ix x h
      · rw [ey] at h; exact inr_nz iy x h), Option.bind_some, key, if_pos h0, From_at _ _ (by omega) (by omega), Option.bind_some, Option.bind_some, Same_at _ _ _ (by simp; omega) (by simp; omega), Option.bind_some, if_pos (by simp)]
    exact j3_at k l hl hk h0
  · rw [if_neg c]
    exact j3_at k l hl hk h0
theorem j1_at (k : Nat) (l : List S48) (wf : ∀ x ∈ l, Wf48 x) (n : Nat) (hl : l.length ≤ 200) (hn : n ≤ l.length) (hk : 300 ≤ k) (h0 : (netf (l.map c45)).2 = 0) : lombardlaw17_ChartSums.j1 (k + 3) l (n : Int) (netf (l.map c45)).1 false = some true := by
  rw [lombardlaw17_ChartSums.j1, if_neg (by decide), if_pos (by omega), if_pos (by omega), Int.toNat_natCast, To_at _ _ (by simp; omega) (by simp; omega), Option.bind_some,
    Net_at _ (by simp; omega) (amt45 (fun x hx => wf x (List.mem_of_mem_take hx))), Option.bind_some, To_at _ _ (by simp; omega) (by simp; omega), Option.bind_some, Net_at _ (by simp; omega) (amt45 (fun x hx => wf x (List.mem_of_mem_drop hx))), Option.bind_some]
  by_cases c : (netf ((l.take n).map c45)).2 = 0
  · rw [if_pos c]
    exact j2_at k l n hl hn hk h0 _ (fun h => ⟨c, by simpa using h⟩)
  · rw [if_neg c]
    exact j2_at k l n hl hn hk h0 _ (fun h => absurd h (by decide))
theorem j0_sums (k : Nat) (l : List S48) (wf : ∀ x ∈ l, Wf48 x) (n : Nat) (hl : l.length ≤ 200) (hn : n ≤ l.length) (hk : 300 ≤ k) :
    lombardlaw17_ChartSums.j0 (k + 4) l (n : Int) (netf (l.map c45)).1 (netf (l.map c45)).2 false = some true := by
  rw [lombardlaw17_ChartSums.j0, if_neg (by decide)]
  by_cases c : (netf (l.map c45)).2 = 0
  · rw [if_pos c]
    obtain ⟨oo, ee, ii⟩ := netf_zero c
    have h7 := netf_len (l.map c45)
    have key : netf (netf (l.map c45)).1 = netf (l.map c45) := by
      apply netf_congr
      · rw [ee]; exact ⟨fun _ => oo, fun _ => okl_nz _⟩
      · intro a ha
        rw [ee, sumA_nz _ _ accs_nodup a ha]
    rw [Net_at _ (by omega) (by rw [ee]; exact inr_nz ii), Option.bind_some, key, if_pos c, From_at _ _ (by omega) (by omega), Option.bind_some, Option.bind_some, Same_at _ _ _ (by simp; omega) (by simp; omega), Option.bind_some]
    simp only [decide_true, Bool.not_true]
    exact j1_at k l wf n hl hn hk c
  · rw [if_neg c, netf_nonzero c]
    rfl
theorem Pure.ChartSums : ChartSumsPure := by
  intro l a1 wf w1
  refine ⟨1004, ?_⟩
  unfold lombardlaw17_ChartSums.f
  rw [alive_at 1001, Option.bind_some, if_pos rfl]
  by_cases c : (l.length : Int) > 200
  · rw [if_pos c]
  rw [if_neg c]
  have hl : l.length ≤ 200 := by omega
  have hwf := wf.2
  have hu := wf_u8 w1
  rw [w64 (x := (l.length : Int) + 1) (by omega) (by omega), if_neg (by omega), w64 (x := a1) (by omega) (by omega)]
  obtain ⟨n, hn, hk⟩ : ∃ n : Nat, n ≤ l.length ∧ Int.tmod a1 ((l.length : Int) + 1) = n := by
    rw [Int.tmod_eq_emod_of_nonneg hu.1]
    have h1 := Int.emod_nonneg a1 (b := (l.length : Int) + 1) (by omega)
    have h2 := Int.emod_lt_of_pos a1 (b := (l.length : Int) + 1) (by omega)
    exact ⟨(a1 % ((l.length : Int) + 1)).toNat, by omega, by omega⟩
  rw [hk, Int.toNat_natCast, To_at _ _ (by omega) (by omega), Option.bind_some, Net_at _ (by simp; omega) (amt45 hwf), Option.bind_some, if_pos (by omega), if_pos (by omega), To_at _ _ (by simp; omega) (by simp; omega), Option.bind_some, To_at _ _ (by simp; omega) (by simp; omega), Option.bind_some, if_pos (by simp; omega)]
  have key : netf ((l.drop n).map c45 ++ (l.take n).map c45) = netf (l.map c45) := by
    have e : l.map c45 = (l.take n).map c45 ++ (l.drop n).map c45 := by rw [← List.map_append, List.take_append_drop]
    apply netf_congr
    · rw [e, okl_append, okl_append]; exact And.comm
    · intro a _
      rw [e, sumA_append, sumA_append]; omega
  rw [Net_at _ (by simp; omega) (by
      intro x hx
      rcases List.mem_append.mp hx with h | h
      · exact amt45 (fun y hy => hwf y (List.mem_of_mem_drop hy)) x h
      · exact amt45 (fun y hy => hwf y (List.mem_of_mem_take hy)) x h), Option.bind_some, key, if_pos rfl]
  have h7 := netf_len (l.map c45)
  rw [From_at _ _ (by omega) (by omega), Option.bind_some, Option.bind_some, Same_at _ _ _ (by simp; omega) (by simp; omega), Option.bind_some]
  simp only [decide_true, Bool.not_true]
  exact j0_sums 1000 l hwf n hl hn (by omega)

end Go.Proofs.Ytmafmbcgjeecjaa.Print
