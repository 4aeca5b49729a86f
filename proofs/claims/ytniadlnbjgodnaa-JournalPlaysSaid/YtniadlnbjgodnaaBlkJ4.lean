/- What reads give behind writes, syncs and crashes: pure laws. What a journal's records are, told by its blocks: pure laws. What a crash leaves of a journal: pure laws. What the laws use of journals. The document's examples hold of journals. -/
import Derived.Test.YtniadlnbjgodnaaProg
import Derived.Below
import Derived.Deep.Draws
import Derived.Deep.AppendLies
import Derived.Maps.AppendAt
import Derived.OwnWalk
import Derived.Laws.BytesArg
import Derived.Laws.MakeOwn
import Derived.Laws.OwnMore
import Derived.Deep.OwnRows
import Derived.Tactics
import Derived.Lib.ConvBytes
import Derived.Laws.Slices
import Derived.WalkKit
import Derived.KernelRfl
import Derived.RowKit3
import Derived.Deep.LoopGhost
import Derived.Deep.QuietTactic
import Derived.BigQuiet
import Derived.WideLaws
import Derived.Deep.DeepCutAuto
import Derived.Deep.CutBlock
import Derived.Deep.RegionHeld3
import Derived.Laws.Rows
import Derived.Lib.AppendStr
import Derived.ArgAppend
import Derived.Laws.IdiomCopy
import Derived.OrdersHeld
import Derived.Laws.BitsLemmas
import Derived.RowKit
import Derived.LoopN
import Derived.Handy
import Derived.Laws.EntriesVeiled
import Derived.MapKept
import Derived.Laws.Externs
import Derived.ChangeKeysEq
import Derived.Deep.WholeRow
import Derived.Test.YtniadlnbjgodnaaWWords
import Derived.Test.YtniadlnbjgodnaaWLast
import Derived.Test.YtniadlnbjgodnaaWTab
import Derived.Test.YtniadlnbjgodnaaWFour
import Derived.Test.YtniadlnbjgodnaaWQPut
import Derived.Test.YtniadlnbjgodnaaWApart
import Derived.Test.YtniadlnbjgodnaaWArr
import Derived.Test.YtniadlnbjgodnaaWZeros
import Derived.Test.YtniadlnbjgodnaaWFoot
import Derived.Test.YtniadlnbjgodnaaWKept
import Derived.Test.YtniadlnbjgodnaaWShare
import Derived.Test.YtniadlnbjgodnaaWN
import Derived.Test.YtniadlnbjgodnaaWFootNe
import Derived.Test.YtniadlnbjgodnaaWAt
import Derived.Test.YtniadlnbjgodnaaWEqStruct
import Derived.Test.YtniadlnbjgodnaaWRepsOne
import Derived.Test.YtniadlnbjgodnaaWInv
import Derived.Test.YtniadlnbjgodnaaWInvWords
import Derived.Test.YtniadlnbjgodnaaWGuard
import Derived.Test.YtniadlnbjgodnaaWNEv
import Derived.Test.YtniadlnbjgodnaaWMore
import Derived.Test.YtniadlnbjgodnaaBlkA
import Derived.Test.YtniadlnbjgodnaaBlkD
import Derived.Test.YtniadlnbjgodnaaBlkJ1
import Derived.Test.YtniadlnbjgodnaaBlkJ2
import Derived.Test.YtniadlnbjgodnaaBlkJ3
import Derived.Test.YtniadlnbjgodnaaBlkB
import Derived.Test.YtniadlnbjgodnaaBlkC
import Derived.Test.YtniadlnbjgodnaaBlkE
import Derived.Test.YtniadlnbjgodnaaBlkG
import Derived.Test.YtniadlnbjgodnaaBlkI
import Derived.Test.YtniadlnbjgodnaaBlkJ
namespace Go.Proofs.Ytniadlnbjgodnaa.Print
open Go.RowKit Go.Proofs.YtniadlnbjgodnaaW.PrintWords Go.Proofs.YtniadlnbjgodnaaW.PrintLast Go.Proofs.YtniadlnbjgodnaaW.PrintMore
attribute [local go_sem] max2_int min2_int max_two min_two max_three min_three max_four min_four
set_option linter.unusedVariables false
set_option linter.unusedSimpArgs false
section
theorem rd_cons (L : List (Bk × Bool)) (x : Int × Bk) (W : List (Int × Bk)) (hx : 0 ≤ x.1 ∧ x.1 < L.length) (k : Int) : rd L (x :: W) k = rd (put1 L x 1) W k := by
  have hl : lastOf (x :: W) k = match lastOf W k with | some b => some b | none => if x.1 = k then some x.2 else none := by
    unfold lastOf
    rw [List.reverse_cons, List.find?_append]
    cases hf : W.reverse.find? (fun y => y.1 == k) with
    | some y => simp
    | none =>
      simp only [Option.none_or, List.find?_singleton]
      by_cases e : x.1 = k
      · simp [e]
      · simp [e]
  unfold rd
  rw [put1_len, hl]
  by_cases hk : 0 ≤ k ∧ k < L.length
  · rw [if_pos hk, if_pos hk]
    cases lastOf W k with
    | some b => rfl
    | none =>
      simp only [put1, if_true]
      by_cases e : x.1 = k
      · subst e
        have hi : x.1.toNat < L.length := by omega
        simp [List.getD, hi]
      · have hne : x.1.toNat ≠ k.toNat := by omega
        rw [if_neg e]
        simp only [List.getD, List.getElem?_set_ne hne]
        rfl
  · rw [if_neg hk, if_neg hk]
theorem rd_sync : ∀ (W : List (Int × Bk)) (i : Nat) (L : List (Bk × Bool)), (∀ x ∈ W, 0 ≤ x.1 ∧ x.1 < L.length) → ∀ k, rd (setl (fun _ => 1) i W L) [] k = rd L W k
  | [], _, _, _, _ => rfl
  | x :: W, i, L, h, k => by
    rw [rd_cons L x W (h x List.mem_cons_self), setl]
    exact rd_sync W (i + 1) (put1 L x 1) (fun y hy => by rw [put1_len]; exact h y (List.mem_cons_of_mem _ hy)) k
theorem rd_write (L : List (Bk × Bool)) (W : List (Int × Bk)) (a : Int) (b : Bk) (h : wrc L W a = 0) (k : Int) : rd L (wrW L W a b) k = if k = a then (b, 0) else rd L W k := by
  have hin : 0 ≤ a ∧ a < L.length := by
    apply Decidable.byContradiction
    intro hn
    rw [wrc, if_neg hn] at h
    cases h
  rw [wrW, if_pos h]
  unfold rd
  rw [lastOf_snoc]
  by_cases e : k = a
  · subst e
    rw [if_pos hin, if_pos rfl, if_pos rfl]
  · rw [if_neg e, if_neg e]
theorem setl_congr (f g : Nat → Int) : ∀ (W : List (Int × Bk)) (i : Nat) (L : List (Bk × Bool)), (∀ j, i ≤ j → j < i + W.length → f j = g j) → setl f i W L = setl g i W L
  | [], _, _, _ => rfl
  | x :: W, i, L, h => by
    rw [setl, setl, h i (Nat.le_refl _) (by simp), setl_congr f g W (i + 1) _ (fun j h1 h2 => h j (by omega) (by simp; omega))]
theorem fateOf_nil (i : Nat) : fateOf [] i = 0 := by simp [fateOf]
theorem setl_nil : ∀ (W : List (Int × Bk)) (i : Nat) (L : List (Bk × Bool)), setl (fateOf []) i W L = L
  | [], _, _ => rfl
  | x :: W, i, L => by rw [setl, fateOf_nil, put1, if_neg (by decide), if_neg (by decide), setl_nil W]
/-- What isn't written again stays. -/
theorem setl_far (f : Nat → Int) (k : Nat) : ∀ (W : List (Int × Bk)) (i : Nat) (L : List (Bk × Bool)), (∀ x ∈ W, 0 ≤ x.1 ∧ x.1 ≠ k) → (setl f i W L)[k]? = L[k]?
  | [], _, _, _ => rfl
  | x :: W, i, L, h => by
    rw [setl, setl_far f k W (i + 1) _ (fun y hy => h y (List.mem_cons_of_mem _ hy))]
    have := h x List.mem_cons_self
    have hne : x.1.toNat ≠ k := by omega
    unfold put1
    split
    · exact List.getElem?_set_ne hne
    · split
      · exact List.getElem?_set_ne hne
      · rfl
theorem lastOf_none {W : List (Int × Bk)} {k : Int} (h : lastOf W k = none) : ∀ x ∈ W, x.1 ≠ k := by
  intro x hx e
  unfold lastOf at h
  rw [Option.map_eq_none_iff, List.find?_eq_none] at h
  exact h x (List.mem_reverse.2 hx) (by simpa using e)
end
section
/-- A record's bytes may be so. -/
def okR (b : List Int) : Prop := (∀ x ∈ b, 0 ≤ x ∧ x < 256) ∧ b.length ≤ 13515
def blk (n : Nat) (b : List Int) (i : Nat) : Bk := lay n i (pn b.length) (own b i)
def blocksOf (n : Nat) (b : List Int) : List Bk := (List.range (pn b.length)).map (blk n b)
/-- All blocks of records, numbered from n on. -/
def allB : Nat → List (List Int) → List Bk
  | _, [] => []
  | n, r :: l => blocksOf n r ++ allB (n + 1) l
theorem blocksOf_len (n : Nat) (b : List Int) : (blocksOf n b).length = pn b.length := by simp [blocksOf]
theorem allB_len : ∀ (l : List (List Int)) (n : Nat), (allB n l).length = usum l
  | [], _ => rfl
  | r :: l, n => by rw [allB, List.length_append, blocksOf_len, allB_len l, usum]
theorem allB_append : ∀ (a b : List (List Int)) (n : Nat), allB n (a ++ b) = allB n a ++ allB (n + a.length) b
  | [], b, n => by simp [allB]
  | r :: a, b, n => by rw [List.cons_append, allB, allB, allB_append a b (n + 1), List.append_assoc, List.length_cons, show n + 1 + a.length = n + (a.length + 1) by omega]
theorem usum_len : ∀ l : List (List Int), l.length ≤ usum l
  | [] => Nat.le_refl _
  | r :: l => by have := usum_len l; have := pn_pos r.length; rw [List.length_cons, usum]; omega
/-! ### one part -/
theorem cnt_lay (n i N : Int) (b : List Int) (h : b.length ≤ 53) : cnt (lay n i N b) = N := by unfold cnt; rw [lay_l n i N b h]; rfl
theorem siz_lay (n i N : Int) (b : List Int) (h : b.length ≤ 53) : siz (lay n i N b) = b.length := by unfold siz; rw [lay_l n i N b h]; rfl
theorem body_lay (n i N : Int) (b : List Int) (h : b.length ≤ 53) : body (lay n i N b) = b := by
  unfold body
  rw [siz_lay n i N b h, lay_l n i N b h, Int.toNat_natCast]
  have e : List.drop 7 (lay60 n i N b ++ num4 (sumF (lay60 n i N b))) = b ++ (List.replicate (53 - b.length) 0 ++ num4 (sumF (lay60 n i N b))) := by
    unfold lay60
    rw [List.append_assoc, List.append_assoc]
    rfl
  rw [e, List.take_left]
theorem own_full (b : List Int) (i : Nat) (h : i + 1 < pn b.length) : (own b i).length = 53 := by
  unfold pn at h
  rw [own, List.length_take, List.length_drop]
  omega
theorem own_pos (b : List Int) (i : Nat) (h : i < pn b.length) (h0 : 0 < i) : 0 < (own b i).length := by
  unfold pn at h
  rw [own, List.length_take, List.length_drop]
  omega
theorem pn_small {b : List Int} (h : b.length ≤ 13515) : pn b.length ≤ 255 := pn_le (by omega) (by omega)
theorem rdp_blk (n i : Nat) (b : List Int) (h : i < pn b.length) : rdp (blk n b i, 0) n i = (own b i, (pn b.length : Int), true) := by
  have hl := own_len b i
  have h1 := cnt_lay (n : Int) i (pn b.length) (own b i) hl
  have h2 := siz_lay (n : Int) i (pn b.length) (own b i) hl
  have h3 := body_lay (n : Int) i (pn b.length) (own b i) hl
  unfold rdp
  rw [if_neg (by simp)]
  unfold blk
  simp only [h1, h2, h3]
  rw [if_neg]
  · simp
  · intro hb
    rcases hb with hb | hb | ⟨hb, hb2⟩ | ⟨hb, hb2⟩
    · omega
    · omega
    · have := own_full b i (by omega); omega
    · have := own_pos b i h hb; omega
/-- A block that can't be read, or is noughts. -/
def bd (x : Bk × Int) : Prop := x.2 ≠ 0 ∨ x.1 = Bk.z
theorem rdp_bd {x : Bk × Int} (h : bd x) (n i : Nat) : rdp x n i = ([], 0, false) := by
  unfold rdp
  by_cases h0 : x.2 = 0
  · rw [if_neg (by simpa using h0)]
    have hz : x.1 = Bk.z := h.resolve_left (by simpa using h0)
    rw [if_pos]
    refine .inr (.inl ?_)
    rw [hz]
    show (0 : Int) ≤ i
    omega
  · rw [if_pos h0]
theorem recP_bd0 {f : Nat → Bk × Int} {n : Nat} (h : bd (f 0)) : recP f n = none := by
  unfold recP
  rw [if_pos]
  left
  unfold recN
  rw [rdp_bd h]
  decide
theorem flat_own (b : List Int) : ∀ m, ((List.range m).map (own b)).flatten = b.take (m * 53)
  | 0 => by simp
  | m + 1 => by
    rw [List.range_succ, List.map_append, List.flatten_append, flat_own b m]
    have e : (m + 1) * 53 = m * 53 + 53 := by omega
    rw [e, List.take_add]
    simp [own]
theorem recN_blk {f : Nat → Bk × Int} {n : Nat} {b : List Int} (h : f 0 = (blk n b 0, 0)) : recN f n = (pn b.length : Int) := by
  unfold recN
  rw [h, rdp_blk n 0 b (pn_pos _)]
theorem recP_good {f : Nat → Bk × Int} {n : Nat} {b : List Int} (h : ∀ i, i < pn b.length → f i = (blk n b i, 0)) : recP f n = some b := by
  have hp := pn_pos b.length
  have hN := recN_blk (h 0 (by omega))
  obtain ⟨h1, h2, h3⟩ := takeWhile_range (good f n) (recN f n).toNat
  have hg : ∀ i, i < pn b.length → good f n i = true := fun i hi => by
    unfold good
    rw [h i hi, rdp_blk n i b hi, hN]
    simp
  have hK : recK f n = pn b.length := by
    have e : (recN f n).toNat = pn b.length := by rw [hN]; omega
    rw [e] at h1 h3
    unfold recK
    rw [e]
    apply Decidable.byContradiction
    intro hne
    have := h3 (by omega)
    rw [hg _ (by omega)] at this
    cases this
  unfold recP
  rw [if_neg (by rw [hN, hK]; omega)]
  have hL : recL f n = (List.range (pn b.length)).map (own b) := by
    unfold recL
    rw [hK]
    apply List.map_congr_left
    intro i hi
    rw [h i (List.mem_range.1 hi), rdp_blk n i b (List.mem_range.1 hi)]
  rw [hL, flat_own, List.take_of_length_le (by unfold pn; omega)]
theorem recP_bad {f : Nat → Bk × Int} {n : Nat} {b : List Int} (h : ∀ i, i < pn b.length → f i = (blk n b i, 0) ∨ bd (f i)) {i0 : Nat} (hi : i0 < pn b.length) (h0 : bd (f i0)) : recP f n = none := by
  rcases h 0 (pn_pos _) with e | e
  · have hN := recN_blk e
    unfold recP
    rw [if_pos]
    right
    have hg : good f n i0 = false := by unfold good; rw [rdp_bd h0]; rfl
    have h2 := (takeWhile_range (good f n) (recN f n).toNat).2.1 i0
    intro hK
    rw [h2 (by unfold recK at hK; omega)] at hg
    cases hg
  · exact recP_bd0 e
/-! ### all records -/
variable {L : List (Bk × Bool)} {W : List (Int × Bk)}
theorem scan_of : ∀ (rs : List (List Int)) (k a n : Nat), (∀ j (h : j < (allB n rs).length), rd L W ((a + j : Nat) : Int) = ((allB n rs)[j], 0)) → rs.length < k → recP (fAt L W (a + usum rs)) (n + rs.length) = none → scan L W k a n = rs
  | [], k, a, n, _, hk, hN => by
    obtain ⟨m, rfl⟩ : ∃ m, k = m + 1 := ⟨k - 1, by simp at hk; omega⟩
    rw [scan]
    have hN : recP (fAt L W a) n = none := hN
    rw [hN]
  | r :: rs, k, a, n, hF, hk, hN => by
    obtain ⟨m, rfl⟩ : ∃ m, k = m + 1 := ⟨k - 1, by simp at hk; omega⟩
    have hl : (allB n (r :: rs)).length = pn r.length + usum rs := by rw [allB_len, usum]
    have h1 : recP (fAt L W a) n = some r := recP_good (fun i hi => by
      have := hF i (by omega)
      simp only [allB] at this
      rw [List.getElem_append_left (by rw [blocksOf_len]; exact hi)] at this
      unfold fAt
      rw [this]
      simp [blocksOf])
    rw [scan, h1]
    show r :: scan L W m (a + pn r.length) (n + 1) = r :: rs
    rw [scan_of rs m (a + pn r.length) (n + 1) (fun j hj => by
      have := hF (pn r.length + j) (by rw [hl]; rw [allB_len] at hj; omega)
      simp only [allB] at this
      rw [List.getElem_append_right (by rw [blocksOf_len]; omega)] at this
      rw [Nat.add_assoc, this]
      simp [blocksOf_len]) (by simp at hk; omega) (by
      rw [usum, List.length_cons] at hN
      rw [Nat.add_assoc, show n + 1 + rs.length = n + (rs.length + 1) by omega]
      exact hN)]
/-- A store that holds these records, and noughts behind them. -/
structure GJ (L : List (Bk × Bool)) (W : List (Int × Bk)) (rs : List (List Int)) : Prop where
  hu : usum rs ≤ L.length
  hl : 1 ≤ L.length ∧ L.length ≤ 4096
  hr : ∀ r ∈ rs, okR r
  hw : W.length ≤ usum rs
  hin : ∀ x ∈ W, 0 ≤ x.1 ∧ x.1 < L.length
  hF : ∀ j (h : j < (allB 1 rs).length), rd L W (j : Int) = ((allB 1 rs)[j], 0)
  hz : ∀ j, usum rs ≤ j → j < L.length → rd L W (j : Int) = (Bk.z, 0)
theorem rd_out (j : Nat) (h : L.length ≤ j) : (rd L W (j : Int)).2 = 2 := by
  unfold rd
  rw [if_neg (by omega)]
theorem GJ.recs {rs : List (List Int)} (h : GJ L W rs) : recs L W = rs := by
  unfold Go.Proofs.Ytniadlnbjgodnaa.Print.recs
  refine scan_of rs _ 0 1 (fun j hj => by rw [Nat.zero_add]; exact h.hF j hj) (by have := usum_len rs; have := h.hu; omega) ?_
  rw [Nat.zero_add]
  refine recP_bd0 ?_
  unfold fAt
  by_cases hlt : usum rs < L.length
  · have := h.hz (usum rs) (Nat.le_refl _) hlt
    right
    rw [Nat.add_zero, this]
  · left
    rw [Nat.add_zero, rd_out _ (by omega)]
    decide
theorem wipeS_id {m a : Nat} {any : Bool} (h : ∀ j, a ≤ j → j < a + m → rd L W (j : Int) = (Bk.z, 0)) : wipeS L m a W any = (0, W, any) := by
  induction m generalizing a with
  | zero => rfl
  | succ m ih =>
    rw [wipeS, if_pos (h a (Nat.le_refl _) (by omega))]
    exact ih (fun j h1 h2 => h j (by omega) (by omega))
theorem GJ.wipe {rs : List (List Int)} (h : GJ L W rs) : wipeR L W (usum rs) = (0, L, W) := by
  have e : wipeS L (L.length - usum rs) (usum rs) W false = (0, W, false) := wipeS_id (fun j h1 h2 => h.hz j h1 (by have := h.hu; omega))
  unfold wipeR
  simp [e]
/-! ### bytes stay bytes -/
def okS (L : List (Bk × Bool)) (W : List (Int × Bk)) : Prop := (∀ x ∈ L, okB x.1) ∧ (∀ x ∈ W, okB x.2)
theorem rd_ok (h : okS L W) (a : Int) : okB (rd L W a).1 := by
  unfold rd
  split
  · cases hl : lastOf W a with
    | some b =>
      simp only
      unfold lastOf at hl
      obtain ⟨x, hx, rfl⟩ := Option.map_eq_some_iff.1 hl
      exact h.2 x (List.mem_reverse.1 (List.mem_of_find?_eq_some hx))
    | none =>
      simp only
      split
      · exact okB_z
      · rename_i h1 h2
        have hlt : a.toNat < L.length := by omega
        have e : L.getD a.toNat (Bk.z, true) = L[a.toNat] := by simp [List.getD, hlt]
        rw [e]
        exact h.1 _ (List.getElem_mem hlt)
  · exact okB_z
theorem okS_snoc (h : okS L W) (a : Int) {b : Bk} (hb : okB b) : okS L (W ++ [(a, b)]) := ⟨h.1, fun x hx => by
  rcases List.mem_append.1 hx with hx | hx
  · exact h.2 x hx
  · rw [List.mem_singleton.1 hx]; exact hb⟩
theorem okS_setl (fate : Nat → Int) : ∀ (W : List (Int × Bk)) (i : Nat) (L : List (Bk × Bool)), okS L W → okS (setl fate i W L) []
  | [], _, L, h => ⟨h.1, fun x hx => by simp at hx⟩
  | x :: W, i, L, h => by
    refine okS_setl fate W (i + 1) (put1 L x (fate i)) ⟨fun y hy => ?_, fun y hy => h.2 y (List.mem_cons_of_mem _ hy)⟩
    unfold put1 at hy
    split at hy
    · rcases List.mem_or_eq_of_mem_set hy with hy | hy
      · exact h.1 y hy
      · rw [hy]; exact h.2 x List.mem_cons_self
    · split at hy
      · rcases List.mem_or_eq_of_mem_set hy with hy | hy
        · exact h.1 y hy
        · rw [hy]; exact okB_z
      · exact h.1 y hy
theorem okS_zeros (n : Nat) : okS (zeros n) [] := ⟨fun x hx => by rw [List.eq_of_mem_replicate hx]; exact okB_z, fun x hx => by simp at hx⟩
theorem num4_ok {x : Int} (h : 0 ≤ x ∧ x < 4294967296) : ∀ y ∈ num4 x, 0 ≤ y ∧ y < 256 := fun y hy => by
  simp only [num4, List.mem_cons, List.not_mem_nil, or_false] at hy
  omega
theorem lay_ok {n i N : Int} {b : List Int} (hn : 0 ≤ n ∧ n < 4294967296) (hi : 0 ≤ i ∧ i < 256) (hN : 0 ≤ N ∧ N < 256) (hl : b.length ≤ 53) (hb : ∀ x ∈ b, 0 ≤ x ∧ x < 256) : okB (lay n i N b) := by
  intro x hx
  rw [lay_l n i N b hl] at hx
  rcases List.mem_append.1 hx with hx | hx
  · unfold lay60 lay7 at hx
    rcases List.mem_append.1 hx with hx | hx
    · rcases List.mem_append.1 hx with hx | hx
      · rcases List.mem_append.1 hx with hx | hx
        · exact num4_ok hn x hx
        · simp only [List.mem_cons, List.not_mem_nil, or_false] at hx
          omega
      · exact hb x hx
    · have := List.eq_of_mem_replicate hx
      omega
  · exact num4_ok (sumF_lo _) x hx
theorem blk_ok {n i : Nat} {b : List Int} (hb : okR b) (hn : n ≤ 100000) (hi : i < pn b.length) : okB (blk n b i) := by
  have := pn_small hb.2
  exact lay_ok (by omega) (by omega) (by omega) (own_len b i) (fun x hx => hb.1 x (List.mem_of_mem_drop (List.mem_of_mem_take hx)))
/-! ### a record more -/
theorem rd_snoc (a : Nat) (b : Bk) (ha : a < L.length) (j : Nat) : rd L (W ++ [((a : Int), b)]) (j : Int) = if j = a then (b, 0) else rd L W (j : Int) := by
  unfold rd
  rw [lastOf_snoc]
  by_cases e : j = a
  · subst e
    rw [if_pos (by omega), if_pos rfl, if_pos rfl]
  · rw [if_neg (show ¬ (j : Int) = (a : Int) by omega), if_neg e]
/-- The writes of parts of a record. -/
def wrL (u n : Nat) (b : List Int) (i m : Nat) : List (Int × Bk) := (List.range' i m).map (fun q => (((u + q : Nat) : Int), blk n b q))
theorem wrS_ok {u n : Nat} {b : List Int} : ∀ (m i : Nat) (W : List (Int × Bk)), u + i + m ≤ L.length → W.length + m ≤ 4096 → wrS L u n (pn b.length) b m i W = (0, W ++ wrL u n b i m)
  | 0, i, W, _, _ => by simp [wrS, wrL]
  | m + 1, i, W, h1, h2 => by
    have hc : wrc L W ((u + i : Nat) : Int) = 0 := by
      unfold wrc
      rw [if_pos (by omega), if_neg (by omega)]
    rw [wrS, if_pos hc, wrS_ok m (i + 1) _ (by omega) (by simp; omega), wrL, wrL, List.range'_succ]
    simp [blk]
theorem rd_wrL {u n : Nat} {b : List Int} : ∀ (m i : Nat) (W : List (Int × Bk)), u + i + m ≤ L.length → ∀ j : Nat, rd L (W ++ wrL u n b i m) (j : Int) = if u + i ≤ j ∧ j < u + i + m then (blk n b (j - u), 0) else rd L W (j : Int)
  | 0, i, W, _, j => by
    rw [if_neg (by omega)]
    simp [wrL]
  | m + 1, i, W, h, j => by
    have e : W ++ wrL u n b i (m + 1) = (W ++ [(((u + i : Nat) : Int), blk n b i)]) ++ wrL u n b (i + 1) m := by
      simp [wrL, List.range'_succ]
    rw [e, rd_wrL m (i + 1) _ (by omega) j]
    by_cases h1 : u + (i + 1) ≤ j ∧ j < u + (i + 1) + m
    · rw [if_pos h1, if_pos (by omega)]
    · rw [if_neg h1, rd_snoc _ _ (by omega)]
      by_cases h2 : j = u + i
      · rw [if_pos h2, if_pos (by omega), show j - u = i by omega]
      · rw [if_neg h2, if_neg (by omega)]
theorem GJ.snoc {rs : List (List Int)} (h : GJ L W rs) {b : List Int} (hb : okR b) (hf : usum rs + pn b.length ≤ L.length) : wrS L (usum rs) (rs.length + 1) (pn b.length) b (pn b.length) 0 W = (0, W ++ wrL (usum rs) (rs.length + 1) b 0 (pn b.length)) ∧ GJ L (W ++ wrL (usum rs) (rs.length + 1) b 0 (pn b.length)) (rs ++ [b]) := by
  have hw := h.hw
  have hl := h.hl.2
  have hrd := rd_wrL (L := L) (u := usum rs) (n := rs.length + 1) (b := b) (pn b.length) 0 W (by omega)
  have hus : usum (rs ++ [b]) = usum rs + pn b.length := by rw [usum_append]; rfl
  have hal : allB 1 (rs ++ [b]) = allB 1 rs ++ blocksOf (rs.length + 1) b := by rw [allB_append, Nat.add_comm 1]; simp [allB]
  refine ⟨wrS_ok _ _ _ (by omega) (by omega), ⟨by omega, h.hl, fun r hr => ?_, by rw [List.length_append, hus, wrL, List.length_map, List.length_range']; omega, fun x hx => ?_, fun j hj => ?_, fun j h1 h2 => ?_⟩⟩
  · rcases List.mem_append.1 hr with hr | hr
    · exact h.hr r hr
    · rw [List.mem_singleton.1 hr]; exact hb
  · rcases List.mem_append.1 hx with hx | hx
    · exact h.hin x hx
    · obtain ⟨q, hq, rfl⟩ := List.mem_map.1 hx
      have := (List.mem_range'.1 hq)
      simp only
      omega
  · rw [hrd j]
    simp only [hal]
    rw [allB_len, hus] at hj
    by_cases h1 : j < usum rs
    · rw [if_neg (by omega), List.getElem_append_left (by rw [allB_len]; exact h1)]
      exact h.hF j (by rw [allB_len]; exact h1)
    · rw [if_pos (by omega), List.getElem_append_right (by rw [allB_len]; omega)]
      simp [blocksOf, allB_len]
  · rw [hrd j, hus] at *
    rw [if_neg (by omega)]
    exact h.hz j (by omega) h2
theorem okS_wrL {u n : Nat} {b : List Int} (hb : okR b) (hn : n ≤ 100000) (h : okS L W) : okS L (W ++ wrL u n b 0 (pn b.length)) := ⟨h.1, fun x hx => by
  rcases List.mem_append.1 hx with hx | hx
  · exact h.2 x hx
  · obtain ⟨q, hq, rfl⟩ := List.mem_map.1 hx
    have := (List.mem_range'.1 hq)
    exact blk_ok hb hn (by omega)⟩
theorem GJ.sync {rs : List (List Int)} (h : GJ L W rs) : GJ (setl (fun _ => 1) 0 W L) [] rs := by
  have hrd := rd_sync W 0 L h.hin
  exact ⟨by rw [setl_len]; exact h.hu, by rw [setl_len]; exact h.hl, h.hr, Nat.zero_le _, fun x hx => by simp at hx, fun j hj => by rw [hrd]; exact h.hF j hj, fun j h1 h2 => by rw [hrd]; exact h.hz j h1 (by rw [setl_len] at h2; exact h2)⟩
theorem GJ.new (n : Nat) (hn : 1 ≤ n ∧ n ≤ 4096) : GJ (zeros n) [] [] := by
  refine ⟨Nat.zero_le _, by rw [zeros_len]; exact hn, fun r hr => by simp at hr, Nat.zero_le _, fun x hx => by simp at hx, fun j hj => by simp [allB] at hj, fun j _ hj => ?_⟩
  rw [zeros_len] at hj
  unfold rd
  rw [zeros_len, if_pos (by omega)]
  have e : (zeros n).getD j (Bk.z, true) = (Bk.z, false) := by simp [zeros, List.getD, hj]
  simp only [lastOf_nil, Int.toNat_natCast, e]
  rfl
end
section
variable {L : List (Bk × Bool)} {W : List (Int × Bk)}
theorem wipeS_all : ∀ (m a : Nat) (W : List (Int × Bk)) (any : Bool), a + m ≤ L.length → W.length + m ≤ 4096 → (∀ x ∈ W, 0 ≤ x.1 ∧ x.1 < L.length) → okS L W →
    ∃ W2 any2, wipeS L m a W any = (0, W2, any2) ∧ (∀ j : Nat, rd L W2 (j : Int) = if a ≤ j ∧ j < a + m then (Bk.z, 0) else rd L W (j : Int)) ∧ (any2 = false → W2 = W) ∧ (∀ x ∈ W2, 0 ≤ x.1 ∧ x.1 < L.length) ∧ okS L W2
  | 0, a, W, any, _, _, h3, h4 => ⟨W, any, rfl, fun j => by rw [if_neg (by omega)], fun _ => rfl, h3, h4⟩
  | m + 1, a, W, any, h1, h2, h3, h4 => by
    by_cases h0 : rd L W (a : Int) = (Bk.z, 0)
    · obtain ⟨W2, any2, e, hrd, ha, hi, ho⟩ := wipeS_all m (a + 1) W any (by omega) (by omega) h3 h4
      refine ⟨W2, any2, by rw [wipeS, if_pos h0]; exact e, fun j => ?_, ha, hi, ho⟩
      rw [hrd j]
      by_cases c : a + 1 ≤ j ∧ j < a + 1 + m
      · rw [if_pos c, if_pos (by omega)]
      · rw [if_neg c]
        by_cases c2 : j = a
        · subst c2; rw [if_pos (by omega)]; exact h0
        · rw [if_neg (by omega)]
    · have hc : wrc L W (a : Int) = 0 := by
        unfold wrc
        rw [if_pos (by omega), if_neg (by omega)]
      obtain ⟨W2, any2, e, hrd, ha, hi, ho⟩ := wipeS_all m (a + 1) (W ++ [((a : Int), Bk.z)]) true (by omega) (by simp; omega) (fun x hx => by
        rcases List.mem_append.1 hx with hx | hx
        · exact h3 x hx
        · rw [List.mem_singleton.1 hx]; simp only; omega) (okS_snoc h4 _ okB_z)
      have key : ∀ (m a : Nat) (W : List (Int × Bk)), (wipeS L m a W true).2.2 = true := by
        intro m
        induction m with
        | zero => intro a W; rfl
        | succ m ih =>
          intro a W
          rw [wipeS]
          split
          · exact ih _ _
          · split
            · exact ih _ _
            · rfl
      refine ⟨W2, any2, by rw [wipeS, if_neg h0, if_pos hc]; exact e, fun j => ?_, fun h => ?_, hi, ho⟩
      · rw [hrd j]
        by_cases c : a + 1 ≤ j ∧ j < a + 1 + m
        · rw [if_pos c, if_pos (by omega)]
        · rw [if_neg c, rd_snoc _ _ (by omega)]
          by_cases c2 : j = a
          · rw [if_pos c2, if_pos (by omega)]
          · rw [if_neg c2, if_neg (by omega)]
      · have := key m (a + 1) (W ++ [((a : Int), Bk.z)])
        rw [e] at this
        rw [h] at this
        cases this
/-- Opening, where nothing waits. -/
theorem wipe0 (hl : L.length ≤ 4096) {u : Nat} (hu : u ≤ L.length) (hok : okS L []) : ∃ L2, wipeR L [] u = (0, L2, []) ∧ L2.length = L.length ∧ (∀ j : Nat, j < u → rd L2 [] (j : Int) = rd L [] (j : Int)) ∧ (∀ j : Nat, u ≤ j → j < L.length → rd L2 [] (j : Int) = (Bk.z, 0)) ∧ okS L2 [] := by
  obtain ⟨W2, any2, e, hrd, ha, hi, ho⟩ := wipeS_all (L := L) (L.length - u) u [] false (by omega) (by simp; omega) (fun x hx => by simp at hx) hok
  have hus : u + (L.length - u) = L.length := by omega
  rw [hus] at hrd
  cases any2 with
  | false =>
    have h2 := ha rfl
    subst h2
    refine ⟨L, by unfold wipeR; simp [e], rfl, fun _ _ => rfl, fun j h1 h2 => ?_, hok⟩
    have := hrd j
    rwa [if_pos ⟨h1, h2⟩] at this
  | true =>
    have hs := rd_sync W2 0 L hi
    refine ⟨setl (fun _ => 1) 0 W2 L, by unfold wipeR; simp [e], setl_len _ _ _ _, fun j h1 => ?_, fun j h1 h2 => ?_, okS_setl _ _ _ _ ho⟩
    · rw [hs, hrd j, if_neg (by omega)]
    · rw [hs, hrd j, if_pos ⟨h1, h2⟩]
theorem rd_at {j : Nat} {b : Bk} {t : Bool} (h : L[j]? = some (b, t)) : rd L [] (j : Int) = if t = true then (Bk.z, 7) else (b, 0) := by
  have hlt : j < L.length := (List.getElem?_eq_some_iff.1 h).1
  unfold rd
  rw [if_pos (by omega)]
  have e : L.getD j (Bk.z, true) = (b, t) := by simp [List.getD, h]
  simp only [lastOf_nil, Int.toNat_natCast, e]
theorem at_rd {j : Nat} {b : Bk} (hj : j < L.length) (h : rd L [] (j : Int) = (b, 0)) : L[j]? = some (b, false) := by
  obtain ⟨x, hx⟩ : ∃ x, L[j]? = some x := ⟨L[j], by simp [hj]⟩
  obtain ⟨b', t⟩ := x
  rw [rd_at hx] at h
  cases t with
  | true => simp at h
  | false =>
    rw [if_neg (by simp)] at h
    rw [hx]
    injection h with h1 h2
    rw [h1]
/-- The block at a place. -/
def fB (rs : List (List Int)) (j : Nat) : Bk := (allB 1 rs).getD j Bk.z
theorem fB_at {rs : List (List Int)} {j : Nat} (h : j < (allB 1 rs).length) : (allB 1 rs)[j] = fB rs j := by simp [fB, List.getD, h]
theorem allB_take (rs : List (List Int)) (k : Nat) (hk : k ≤ rs.length) : allB 1 rs = allB 1 (rs.take k) ++ allB (1 + k) (rs.drop k) := by
  have := allB_append (rs.take k) (rs.drop k) 1
  rw [List.take_append_drop, List.length_take, Nat.min_eq_left hk] at this
  exact this
theorem fB_take {rs : List (List Int)} {k j : Nat} (hk : k ≤ rs.length) (hj : j < usum (rs.take k)) : fB (rs.take k) j = fB rs j := by
  unfold fB
  rw [allB_take rs k hk]
  simp only [List.getD]
  rw [List.getElem?_append_left (by rw [allB_len]; exact hj)]
theorem fB_rec {rs : List (List Int)} {k q : Nat} (hk : k < rs.length) (hq : q < pn rs[k].length) : fB rs (usum (rs.take k) + q) = blk (1 + k) rs[k] q := by
  unfold fB
  rw [allB_take rs k (by omega), List.drop_eq_getElem_cons hk, allB]
  simp only [List.getD]
  rw [List.getElem?_append_right (by rw [allB_len]; omega), allB_len, Nat.add_sub_cancel_left, List.getElem?_append_left (by rw [blocksOf_len]; exact hq)]
  simp [blocksOf, hq]
/-- What stands behind a crash, or before: a beginning of the records. -/
theorem crash_recs {rs : List (List Int)} (hu : usum rs ≤ L.length) (hF : ∀ j : Nat, j < usum rs → rd L [] (j : Int) = (fB rs j, 0) ∨ bd (rd L [] (j : Int))) (hz : bd (rd L [] ((usum rs : Nat) : Int))) : ∀ (d k : Nat), d = rs.length - k → k ≤ rs.length → (∀ j : Nat, j < usum (rs.take k) → rd L [] (j : Int) = (fB rs j, 0)) →
    ∃ i, k ≤ i ∧ i ≤ rs.length ∧ recs L [] = rs.take i ∧ (∀ j : Nat, j < usum (rs.take i) → rd L [] (j : Int) = (fB rs j, 0)) := by
  have start : ∀ k, k ≤ rs.length → (∀ j : Nat, j < usum (rs.take k) → rd L [] (j : Int) = (fB rs j, 0)) → recP (fAt L [] (usum (rs.take k))) (1 + k) = none → recs L [] = rs.take k := by
    intro k hk h hn
    unfold recs
    refine scan_of (rs.take k) _ 0 1 (fun j hj => ?_) (by have := usum_len (rs.take k); have := usum_take rs k; omega) (by rw [Nat.zero_add, List.length_take, Nat.min_eq_left hk]; exact hn)
    rw [allB_len] at hj
    rw [Nat.zero_add, h j hj, fB_at (by rw [allB_len]; exact hj), fB_take hk hj]
  intro d
  induction d with
  | zero =>
    intro k hd hk h
    obtain rfl : k = rs.length := by omega
    refine ⟨rs.length, Nat.le_refl _, Nat.le_refl _, start _ (Nat.le_refl _) h ?_, h⟩
    rw [List.take_length]
    exact recP_bd0 (by unfold fAt; rw [Nat.add_zero]; exact hz)
  | succ d ih =>
    intro k hd hk h
    have hlt : k < rs.length := by omega
    have hs := usum_step rs k hlt
    have ht := usum_take rs (k + 1)
    by_cases hall : ∀ q, q < pn rs[k].length → rd L [] ((usum (rs.take k) + q : Nat) : Int) = (fB rs (usum (rs.take k) + q), 0)
    · obtain ⟨i, h1, h2, h3, h4⟩ := ih (k + 1) (by omega) (by omega) (fun j hj => by
        by_cases c : j < usum (rs.take k)
        · exact h j c
        · have := hall (j - usum (rs.take k)) (by omega)
          rwa [show usum (rs.take k) + (j - usum (rs.take k)) = j by omega] at this)
      exact ⟨i, by omega, h2, h3, h4⟩
    · obtain ⟨q, hq⟩ := Classical.not_forall.1 hall
      obtain ⟨hq1, hq2⟩ := Classical.not_imp.1 hq
      refine ⟨k, Nat.le_refl _, hk, start k hk h ?_, h⟩
      refine recP_bad (b := rs[k]) (fun i hi => ?_) hq1 ?_
      · rcases hF (usum (rs.take k) + i) (by omega) with e | e
        · left
          unfold fAt
          rw [e, fB_rec hlt hi]
        · exact .inr e
      · exact (hF (usum (rs.take k) + q) (by omega)).resolve_left hq2
/-- A store of these records, of which k last: what waits is the others' blocks, each once written. -/
structure CJ (L : List (Bk × Bool)) (W : List (Int × Bk)) (rs : List (List Int)) (k : Nat) : Prop where
  g : GJ L W rs
  hk : k ≤ rs.length
  hW : ∀ x ∈ W, ∃ j : Nat, usum (rs.take k) ≤ j ∧ j < usum rs ∧ x = ((j : Int), fB rs j)
  hL : ∀ j, usum (rs.take k) ≤ j → j < L.length → L[j]? = some (Bk.z, false)
theorem CJ.new (n : Nat) (hn : 1 ≤ n ∧ n ≤ 4096) : CJ (zeros n) [] [] 0 :=
  ⟨GJ.new n hn, Nat.le_refl _, fun x hx => by simp at hx, fun j _ hj => by rw [zeros_len] at hj; simp [zeros, hj]⟩
theorem fB_app {rs : List (List Int)} {b : List Int} {j : Nat} (hj : j < usum rs) : fB (rs ++ [b]) j = fB rs j := by
  have := fB_take (rs := rs ++ [b]) (k := rs.length) (j := j) (by simp) (by simpa using hj)
  simpa using this.symm
theorem fB_new {rs : List (List Int)} {b : List Int} {q : Nat} (hq : q < pn b.length) : fB (rs ++ [b]) (usum rs + q) = blk (rs.length + 1) b q := by
  have := fB_rec (rs := rs ++ [b]) (k := rs.length) (q := q) (by simp) (by simpa using hq)
  simpa [Nat.add_comm 1] using this
theorem CJ.snoc {rs : List (List Int)} {k : Nat} (h : CJ L W rs k) {b : List Int} (hb : okR b) (hf : usum rs + pn b.length ≤ L.length) : CJ L (W ++ wrL (usum rs) (rs.length + 1) b 0 (pn b.length)) (rs ++ [b]) k := by
  have hus : usum (rs ++ [b]) = usum rs + pn b.length := by rw [usum_append]; rfl
  have htk : (rs ++ [b]).take k = rs.take k := List.take_append_of_le_length h.hk
  refine ⟨(h.g.snoc hb hf).2, by simp; have := h.hk; omega, fun x hx => ?_, by rw [htk]; exact h.hL⟩
  rw [htk, hus]
  rcases List.mem_append.1 hx with hx | hx
  · obtain ⟨j, h1, h2, h3⟩ := h.hW x hx
    exact ⟨j, h1, by omega, by rw [h3, fB_app h2]⟩
  · obtain ⟨q, hq, rfl⟩ := List.mem_map.1 hx
    have hq := (List.mem_range'.1 hq)
    have ht := usum_take rs k
    exact ⟨usum rs + q, by omega, by omega, by rw [fB_new (by omega)]⟩
theorem CJ.of {rs : List (List Int)} (h : GJ L [] rs) : CJ L [] rs rs.length :=
  ⟨h, Nat.le_refl _, fun x hx => by simp at hx, fun j h1 h2 => by
    rw [List.take_length] at h1
    exact at_rd h2 (h.hz j h1 h2)⟩
theorem setl_cases {F : Nat → Bk} (f : Nat → Int) {j : Nat} : ∀ (W : List (Int × Bk)) (i : Nat) (L : List (Bk × Bool)), (∀ x ∈ W, ∃ q : Nat, x = ((q : Int), F q)) → (L[j]? = some (Bk.z, false) ∨ L[j]? = some (F j, false) ∨ L[j]? = some (Bk.z, true)) →
    ((setl f i W L)[j]? = some (Bk.z, false) ∨ (setl f i W L)[j]? = some (F j, false) ∨ (setl f i W L)[j]? = some (Bk.z, true))
  | [], _, _, _, h => h
  | x :: W, i, L, hW, h => by
    rw [setl]
    refine setl_cases f W (i + 1) _ (fun y hy => hW y (List.mem_cons_of_mem _ hy)) ?_
    obtain ⟨q, rfl⟩ := hW x List.mem_cons_self
    have hjl : j < L.length := by rcases h with h | h | h <;> exact (List.getElem?_eq_some_iff.1 h).1
    unfold put1
    simp only [Int.toNat_natCast]
    by_cases e : q = j
    · subst e
      split
      · right; left; simp [hjl]
      · split
        · right; right; simp [hjl]
        · exact h
    · split
      · rw [List.getElem?_set_ne e]; exact h
      · split
        · rw [List.getElem?_set_ne e]; exact h
        · exact h
/-- What each block is behind a crash. -/
theorem CJ.after {rs : List (List Int)} {k : Nat} (h : CJ L W rs k) (f : Nat → Int) :
    (∀ j : Nat, j < usum (rs.take k) → rd (setl f 0 W L) [] (j : Int) = (fB rs j, 0)) ∧ (∀ j : Nat, j < usum rs → rd (setl f 0 W L) [] (j : Int) = (fB rs j, 0) ∨ bd (rd (setl f 0 W L) [] (j : Int))) ∧ bd (rd (setl f 0 W L) [] ((usum rs : Nat) : Int)) := by
  have ht := usum_take rs k
  have far : ∀ j : Nat, (j < usum (rs.take k) ∨ usum rs ≤ j) → (setl f 0 W L)[j]? = L[j]? := fun j hj => setl_far f j W 0 L (fun x hx => by
    obtain ⟨q, h1, h2, rfl⟩ := h.hW x hx
    simp only
    omega)
  have low : ∀ j : Nat, j < usum (rs.take k) → rd (setl f 0 W L) [] (j : Int) = (fB rs j, 0) := fun j hj => by
    have h1 := h.g.hF j (by rw [allB_len]; omega)
    rw [fB_at] at h1
    have hno : lastOf W (j : Int) = none := by
      cases hl : lastOf W (j : Int) with
      | none => rfl
      | some b =>
        unfold lastOf at hl
        obtain ⟨x, hx, _⟩ := Option.map_eq_some_iff.1 hl
        have hx1 := List.mem_reverse.1 (List.mem_of_find?_eq_some hx)
        have hx2 := List.find?_some hx
        obtain ⟨q, h1, h2, rfl⟩ := h.hW x hx1
        simp at hx2
        omega
    have hjl : j < L.length := by have := h.g.hu; omega
    have e : rd L [] (j : Int) = rd L W (j : Int) := by
      unfold rd
      rw [lastOf_nil, hno]
    rw [← e] at h1
    have h2 := far j (.inl hj)
    have h3 := at_rd hjl h1
    rw [h3] at h2
    rw [rd_at h2, if_neg (by simp)]
  refine ⟨low, fun j hj => ?_, ?_⟩
  · by_cases c : j < usum (rs.take k)
    · exact .inl (low j c)
    · have hjl : j < L.length := by have := h.g.hu; omega
      have h0 := h.hL j (by omega) hjl
      rcases setl_cases (F := fB rs) (j := j) f W 0 L (fun x hx => by obtain ⟨q, _, _, e⟩ := h.hW x hx; exact ⟨q, e⟩) (.inl h0) with e | e | e
      · right; rw [rd_at e, if_neg (by simp)]; exact .inr rfl
      · left; rw [rd_at e, if_neg (by simp)]
      · right; rw [rd_at e, if_pos rfl]; exact .inl (by simp)
  · by_cases c : usum rs < L.length
    · have h0 := h.hL (usum rs) (by omega) c
      have h2 := far (usum rs) (.inr (Nat.le_refl _))
      rw [h0] at h2
      rw [rd_at h2, if_neg (by simp)]
      exact .inr rfl
    · left
      rw [rd_out _ (by rw [setl_len]; omega)]
      decide
/-- Opened behind a crash: a beginning, with all that lasts; and it holds. -/
theorem CJ.crash {rs : List (List Int)} {k : Nat} (h : CJ L W rs k) (hok : okS L W) (f : Nat → Int) :
    ∃ i L2, k ≤ i ∧ i ≤ rs.length ∧ recs (setl f 0 W L) [] = rs.take i ∧ wipeR (setl f 0 W L) [] (usum (rs.take i)) = (0, L2, []) ∧ GJ L2 [] (rs.take i) ∧ L2.length = L.length ∧ okS L2 [] := by
  obtain ⟨h1, h2, h3⟩ := h.after f
  have hl := h.g.hl
  obtain ⟨i, hk, hi, hr, hF⟩ := crash_recs (by rw [setl_len]; exact h.g.hu) h2 h3 _ k rfl h.hk h1
  have hu : usum (rs.take i) ≤ L.length := by have := usum_take rs i; have := h.g.hu; omega
  obtain ⟨L2, e, hlen, hlo, hhi, ho⟩ := wipe0 (L := setl f 0 W L) (by rw [setl_len]; omega) (u := usum (rs.take i)) (by rw [setl_len]; exact hu) (okS_setl f W 0 L hok)
  rw [setl_len] at hlen
  refine ⟨i, L2, hk, hi, hr, e, ⟨by omega, by omega, fun r hr => h.g.hr r (List.mem_of_mem_take hr), Nat.zero_le _, fun x hx => by simp at hx, fun j hj => ?_, fun j hj1 hj2 => hhi j hj1 (by rw [setl_len]; omega)⟩, hlen, ho⟩
  rw [allB_len] at hj
  rw [hlo j hj, hF j hj, fB_at (by rw [allB_len]; exact hj), fB_take hi hj]
end
section
variable {B : Nat} {w w0 w' : World} {p gl gm : Nat} {v : Value} {L : List (Bk × Bool)} {W : List (Int × Bk)} {pj u : Nat} {lv : Value} {rs : List (List Int)}
set_option maxHeartbeats 4000000 in
set_option maxRecDepth 100000 in
theorem k_Bytes {A0 A1 : Option Addr} {c0 c1 : Nat} {a b : List Int} (h0 : Kd.C (Kd.int .u8) w A0 a.length a) (h1 : Kd.C (Kd.int .u8) w A1 b.length b) : Calls Try.prog 31 #[.slice A0 a.length c0, .slice A1 b.length c1] w fun e w' => e = .returned (.bool (decide (a = b))) ∧ Below w.heap.size w w' := by
  have hl0 := h0.2.1
  have hl1 := h1.2.1
  have H0 := Aside0.mk h0
  have H1 := Aside0.mk h1
  clear h0 h1
  obtain ⟨r, hr⟩ : ∃ r, r = decide (a = b) := ⟨_, rfl⟩
  rw [← hr]
  go_enter Try.func31, Try.ntmps31
  by_cases hl : a.length = b.length
  case neg =>
    obtain rfl : r = false := by rw [hr]; exact decide_eq_false (fun e => hl (by rw [e]))
    have e1 : ((a.length : Int) != (b.length : Int)) = true := by simp; omega
    have e2 : ((a.length : Int) == (b.length : Int)) = false := by simp; omega
    clear hr
    go_wp2_with fail
    go_ret
    exact ⟨rfl, Below.refl _ _⟩
  have e1 : ((a.length : Int) != (b.length : Int)) = false := by simp; omega
  have e2 : ((a.length : Int) == (b.length : Int)) = true := by simp; omega
  replace hr := Aside0.mk hr
  replace hl := Aside0.mk hl
  go_wp2_with fail
  go_loopw [13] (fun x wr => ∃ i : Nat, i ≤ a.length ∧ x = .int .i64 i ∧ Aside0 (Below w.heap.size w wr) ∧ Aside0 (a.take i = b.take i)) (fun x _ => a.length - (intOf x).toNat)
  case atStart => exact ⟨0, Nat.zero_le _, rfl, ⟨Below.refl _ _⟩, ⟨by simp⟩⟩
  case round =>
    obtain ⟨i, hi, rfl, HB, HE⟩ := hrel
    by_cases hlt : i < a.length
    case neg =>
      obtain rfl : i = a.length := by omega
      obtain rfl : r = true := by
        have h1 := HE.out
        rw [List.take_length, hl.out, List.take_length] at h1
        rw [hr.out]
        exact decide_eq_true h1
      clear hr
      go_wp2_with fail
      go_ret
      exact ⟨rfl, HB.out⟩
    have hlt2 : i < b.length := by rw [← hl.out]; exact hlt
    obtain ⟨ad0, e0, hx0⟩ := C_cells (Kd.C_below H0.out HB.out) (by omega)
    obtain ⟨ad1, e9, hx1⟩ := C_cells (Kd.C_below H1.out HB.out) (by omega)
    have hc0 := Aside0.mk (Kd.C_below H0.out HB.out)
    have hc1 := Aside0.mk (Kd.C_below H1.out HB.out)
    obtain ⟨x0, hx00⟩ : ∃ x0, x0 = a[i] := ⟨_, rfl⟩
    obtain ⟨y0, hy00⟩ : ∃ y0, y0 = b[i] := ⟨_, rfl⟩
    have hn : (decide (x0 = y0) = true → a.take (i + 1) = b.take (i + 1)) ∧ (decide (x0 = y0) = false → a ≠ b) := by
      rw [hx00, hy00]
      refine ⟨fun h => ?_, fun h e => ?_⟩
      · rw [List.take_succ_eq_append_getElem hlt, List.take_succ_eq_append_getElem hlt2, HE.out, of_decide_eq_true h]
      · subst e; simp at h
    replace hn := Aside0.mk hn
    have hcx : wr.cell? (ad0.add i) = some (.int .u8 x0) := hx0 i _ (by simp [hlt, hx00])
    have hcy : wr.cell? (ad1.add i) = some (.int .u8 y0) := hx1 i _ (by simp [hlt2, hy00])
    clear hx0 hx1 HE hx00 hy00 hc0 hc1
    subst e0 e9
    go_wp2_with fail
    have CX := Aside0.mk hcx
    have CY := Aside0.mk hcy
    clear hcx hcy
    have n_HB := Aside0.mk (below_step HB.out (below_drew (Below.refl _ _)))
    have n_CX := Aside0.mk (pw_cell_below (below_drew (Below.refl _ _)) CX.out)
    have n_CY := Aside0.mk (pw_cell_below (below_drew (Below.refl _ _)) CY.out)
    clear HB
    have HB := n_HB
    clear n_HB
    clear CX
    have CX := n_CX
    clear n_CX
    clear CY
    have CY := n_CY
    clear n_CY
    refine start_ (n := 9) (S := fun w' => w'.cell? (ad0.add i) = some (.int .u8 x0) ∧ w'.cell? (ad1.add i) = some (.int .u8 y0)) (ds := []) #[false, false, false, false, false, false, false, false, false] (by kernel_rfl) rfl rfl ⟨CX.out, CY.out⟩ (fun hHeld => ?_)
    generalize wr.drew = w2 at HB CX CY hHeld ⊢
    refine pure_ (i := 0) (N := some 16) (v := ?_) (a' := ?_) #[true, false, false, false, false, false, false, false, false] rfl rfl (by kernel_rfl) (fun _ _ _ h => h) (Or.inl ⟨by rfl, ?_⟩) ?_ ?_
    rotate_left
    · intro w'
      go_simp
      with_reducible rfl
    rotate_left
    · simp only [Act.put, List.setIfInBounds_toArray, List.set_cons_zero, List.set_cons_succ, i64_w, i32_w]
      rfl
    refine pure_ (i := 1) (N := some 17) (v := ?_) (a' := ?_) #[true, true, false, false, false, false, false, false, false] rfl rfl (by kernel_rfl) (fun _ _ _ h => h) (Or.inl ⟨by rfl, ?_⟩) ?_ ?_
    rotate_left
    · intro w'
      go_simp
      with_reducible rfl
    rotate_left
    · simp only [Act.put, List.setIfInBounds_toArray, List.set_cons_zero, List.set_cons_succ, i64_w, i32_w]
      rfl
    refine pure_ (i := 2) (N := some 18) (v := ?_) (a' := ?_) #[true, true, true, false, false, false, false, false, false] rfl rfl (by kernel_rfl) (fun _ _ _ h => h) (Or.inl ⟨by rfl, ?_⟩) ?_ ?_
    rotate_left
    · intro w'
      go_simp
      with_reducible rfl
    rotate_left
    · simp only [Act.put, List.setIfInBounds_toArray, List.set_cons_zero, List.set_cons_succ, i64_w, i32_w]
      rfl
    refine pure_ (i := 4) (N := some 20) (v := ?_) (a' := ?_) #[true, true, true, false, true, false, false, false, false] rfl rfl (by kernel_rfl) (fun _ _ _ h => h) (Or.inl ⟨by rfl, ?_⟩) ?_ ?_
    rotate_left
    · intro w'
      go_simp
      with_reducible rfl
    rotate_left
    · simp only [Act.put, List.setIfInBounds_toArray, List.set_cons_zero, List.set_cons_succ, i64_w, i32_w]
      rfl
    refine pure_ (i := 5) (N := some 21) (v := ?_) (a' := ?_) #[true, true, true, false, true, true, false, false, false] rfl rfl (by kernel_rfl) (fun _ _ _ h => h) (Or.inl ⟨by rfl, ?_⟩) ?_ ?_
    rotate_left
    · intro w'
      go_simp
      with_reducible rfl
    rotate_left
    · simp only [Act.put, List.setIfInBounds_toArray, List.set_cons_zero, List.set_cons_succ, i64_w, i32_w]
      rfl
    refine pure_ (i := 6) (N := some 22) (v := ?_) (a' := ?_) #[true, true, true, false, true, true, true, false, false] rfl rfl (by kernel_rfl) (fun _ _ _ h => h) (Or.inl ⟨by rfl, ?_⟩) ?_ ?_
    rotate_left
    · intro w'
      go_simp
      with_reducible rfl
    rotate_left
    · simp only [Act.put, List.setIfInBounds_toArray, List.set_cons_zero, List.set_cons_succ, i64_w, i32_w]
      rfl
    refine take_ (i := 3) (N := some 19) (v := ?_) (a' := ?_) #[true, true, true, true, true, true, true, false, false] rfl rfl (by kernel_rfl) (fun _ _ _ h => h) (Or.inl ⟨by rfl, ?_⟩) hHeld ?_ ?_
    rotate_left
    · rintro w' ⟨s0, s1⟩
      go_simp
      with_reducible rfl
    rotate_left
    · simp only [Act.put, List.setIfInBounds_toArray, List.set_cons_zero, List.set_cons_succ, i64_w, i32_w]
      rfl
    refine take_ (i := 7) (N := some 23) (v := ?_) (a' := ?_) #[true, true, true, true, true, true, true, true, false] rfl rfl (by kernel_rfl) (fun _ _ _ h => h) (Or.inl ⟨by rfl, ?_⟩) hHeld ?_ ?_
    rotate_left
    · rintro w' ⟨s0, s1⟩
      go_simp
      with_reducible rfl
    rotate_left
    · simp only [Act.put, List.setIfInBounds_toArray, List.set_cons_zero, List.set_cons_succ, i64_w, i32_w]
      rfl
    refine pure_ (i := 8) (N := some 24) (v := ?_) (a' := ?_) #[true, true, true, true, true, true, true, true, true] rfl rfl (by kernel_rfl) (fun _ _ _ h => h) (Or.inl ⟨by rfl, ?_⟩) ?_ ?_
    rotate_left
    · intro w'
      go_simp
      with_reducible rfl
    rotate_left
    · simp only [Act.put, List.setIfInBounds_toArray, List.set_cons_zero, List.set_cons_succ, i64_w, i32_w]
      rfl
    refine done_ (by kernel_rfl) ?_
    clear hHeld CX CY
    by_cases hxy : x0 = y0
    case pos =>
      have d1 : (x0 != y0) = false := by simpa using hxy
      have d2 : (x0 == y0) = true := by simpa using hxy
      have hn2 := Aside0.mk (hn.out.1 (decide_eq_true hxy))
      clear hn
      go_wp2_with fail
      go_roundw
      case rel => exact ⟨i + 1, by omega, by go_num, HB, hn2⟩
      case measure => simp [intOf]; omega
    have d1 : (x0 != y0) = true := by simpa using hxy
    have d2 : (x0 == y0) = false := by simpa using hxy
    obtain rfl : r = false := by rw [hr.out]; exact decide_eq_false (hn.out.2 (decide_eq_false hxy))
    clear hn hr
    go_wp2_with fail
    go_ret
    exact ⟨rfl, HB.out⟩
set_option maxHeartbeats 4000000 in
set_option maxRecDepth 100000 in
theorem k_Same {A0 A1 : Option Addr} {c0 c1 : Nat} {a b : List (List Int)} (h0 : Kd.C (Kd.slice 5 (Kd.int .u8)) w A0 a.length a) (h1 : Kd.C (Kd.slice 5 (Kd.int .u8)) w A1 b.length b) : Calls Try.prog 24 #[.slice A0 a.length c0, .slice A1 b.length c1] w fun e w' => e = .returned (.bool (decide (a = b))) ∧ Below w.heap.size w w' := by
  have hl0 := h0.2.1
  have hl1 := h1.2.1
  have H0 := Aside0.mk h0
  have H1 := Aside0.mk h1
  clear h0 h1
  obtain ⟨r, hr⟩ : ∃ r, r = decide (a = b) := ⟨_, rfl⟩
  rw [← hr]
  go_enter Try.func24, Try.ntmps24
  by_cases hl : a.length = b.length
  case neg =>
    obtain rfl : r = false := by rw [hr]; exact decide_eq_false (fun e => hl (by rw [e]))
    have e1 : ((a.length : Int) != (b.length : Int)) = true := by simp; omega
    have e2 : ((a.length : Int) == (b.length : Int)) = false := by simp; omega
    clear hr
    go_wp2_with fail
    go_ret
    exact ⟨rfl, Below.refl _ _⟩
  have e1 : ((a.length : Int) != (b.length : Int)) = false := by simp; omega
  have e2 : ((a.length : Int) == (b.length : Int)) = true := by simp; omega
  replace hr := Aside0.mk hr
  replace hl := Aside0.mk hl
  go_wp2_with fail
  go_loopw [13] (fun x wr => ∃ i : Nat, i ≤ a.length ∧ x = .int .i64 i ∧ Aside0 (Below w.heap.size w wr) ∧ Aside0 (a.take i = b.take i)) (fun x _ => a.length - (intOf x).toNat)
  case atStart => exact ⟨0, Nat.zero_le _, rfl, ⟨Below.refl _ _⟩, ⟨by simp⟩⟩
  case round =>
    obtain ⟨i, hi, rfl, HB, HE⟩ := hrel
    by_cases hlt : i < a.length
    case neg =>
      obtain rfl : i = a.length := by omega
      obtain rfl : r = true := by
        have h1 := HE.out
        rw [List.take_length, hl.out, List.take_length] at h1
        rw [hr.out]
        exact decide_eq_true h1
      clear hr
      go_wp2_with fail
      go_ret
      exact ⟨rfl, HB.out⟩
    have hlt2 : i < b.length := by rw [← hl.out]; exact hlt
    obtain ⟨ad0, X0, d0, e0, hcx, hd0, hX0⟩ := jat (Kd.C_below H0.out HB.out) i hlt
    obtain ⟨ad1, Y0, d1, e9, hcy, hd1, hY0⟩ := jat (Kd.C_below H1.out HB.out) i hlt2
    have hn : (decide (a[i] = b[i]) = true → a.take (i + 1) = b.take (i + 1)) ∧ (decide (a[i] = b[i]) = false → a ≠ b) := by
      refine ⟨fun h => ?_, fun h e => ?_⟩
      · rw [List.take_succ_eq_append_getElem hlt, List.take_succ_eq_append_getElem hlt2, HE.out, of_decide_eq_true h]
      · subst e; simp at h
    generalize a[i] = x0 at hcx hd0 hX0 hn
    generalize b[i] = y0 at hcy hd1 hY0 hn
    replace hn := Aside0.mk hn
    clear HE
    subst e0 e9
    go_wp2_with fail
    have CX := Aside0.mk hcx
    have CY := Aside0.mk hcy
    have HX := Aside0.mk hX0
    have HY := Aside0.mk hY0
    clear hcx hcy hX0 hY0
    have n_HB := Aside0.mk (below_step HB.out (below_drew (Below.refl _ _)))
    have n_CX := Aside0.mk (pw_cell_below (below_drew (Below.refl _ _)) CX.out)
    have n_CY := Aside0.mk (pw_cell_below (below_drew (Below.refl _ _)) CY.out)
    have n_HX := Aside0.mk (Kd.C_below HX.out (below_drew (Below.refl _ _)))
    have n_HY := Aside0.mk (Kd.C_below HY.out (below_drew (Below.refl _ _)))
    clear HB
    have HB := n_HB
    clear n_HB
    clear CX
    have CX := n_CX
    clear n_CX
    clear CY
    have CY := n_CY
    clear n_CY
    clear HX
    have HX := n_HX
    clear n_HX
    clear HY
    have HY := n_HY
    clear n_HY
    refine start_ (n := 10) (S := fun w' => w'.cell? (ad0.add i) = some (.slice X0 x0.length d0) ∧ w'.cell? (ad1.add i) = some (.slice Y0 y0.length d1)) (ds := []) #[false, false, false, false, false, false, false, false, false, false] (by kernel_rfl) rfl rfl ⟨CX.out, CY.out⟩ (fun hHeld => ?_)
    generalize wr.drew = w2 at HB CX CY HX HY hHeld ⊢
    refine pure_ (i := 0) (N := some 16) (v := ?_) (a' := ?_) #[true, false, false, false, false, false, false, false, false, false] rfl rfl (by kernel_rfl) (fun _ _ _ h => h) (Or.inl ⟨by rfl, ?_⟩) ?_ ?_
    rotate_left
    · intro w'
      go_simp
      with_reducible rfl
    rotate_left
    · simp only [Act.put, List.setIfInBounds_toArray, List.set_cons_zero, List.set_cons_succ, i64_w, i32_w]
      rfl
    refine pure_ (i := 1) (N := some 17) (v := ?_) (a' := ?_) #[true, true, false, false, false, false, false, false, false, false] rfl rfl (by kernel_rfl) (fun _ _ _ h => h) (Or.inl ⟨by rfl, ?_⟩) ?_ ?_
    rotate_left
    · intro w'
      go_simp
      with_reducible rfl
    rotate_left
    · simp only [Act.put, List.setIfInBounds_toArray, List.set_cons_zero, List.set_cons_succ, i64_w, i32_w]
      rfl
    refine pure_ (i := 2) (N := some 18) (v := ?_) (a' := ?_) #[true, true, true, false, false, false, false, false, false, false] rfl rfl (by kernel_rfl) (fun _ _ _ h => h) (Or.inl ⟨by rfl, ?_⟩) ?_ ?_
    rotate_left
    · intro w'
      go_simp
      with_reducible rfl
    rotate_left
    · simp only [Act.put, List.setIfInBounds_toArray, List.set_cons_zero, List.set_cons_succ, i64_w, i32_w]
      rfl
    refine pure_ (i := 4) (N := some 20) (v := ?_) (a' := ?_) #[true, true, true, false, true, false, false, false, false, false] rfl rfl (by kernel_rfl) (fun _ _ _ h => h) (Or.inl ⟨by rfl, ?_⟩) ?_ ?_
    rotate_left
    · intro w'
      go_simp
      with_reducible rfl
    rotate_left
    · simp only [Act.put, List.setIfInBounds_toArray, List.set_cons_zero, List.set_cons_succ, i64_w, i32_w]
      rfl
    refine pure_ (i := 5) (N := some 21) (v := ?_) (a' := ?_) #[true, true, true, false, true, true, false, false, false, false] rfl rfl (by kernel_rfl) (fun _ _ _ h => h) (Or.inl ⟨by rfl, ?_⟩) ?_ ?_
    rotate_left
    · intro w'
      go_simp
      with_reducible rfl
    rotate_left
    · simp only [Act.put, List.setIfInBounds_toArray, List.set_cons_zero, List.set_cons_succ, i64_w, i32_w]
      rfl
    refine pure_ (i := 6) (N := some 22) (v := ?_) (a' := ?_) #[true, true, true, false, true, true, true, false, false, false] rfl rfl (by kernel_rfl) (fun _ _ _ h => h) (Or.inl ⟨by rfl, ?_⟩) ?_ ?_
    rotate_left
    · intro w'
      go_simp
      with_reducible rfl
    rotate_left
    · simp only [Act.put, List.setIfInBounds_toArray, List.set_cons_zero, List.set_cons_succ, i64_w, i32_w]
      rfl
    refine take_ (i := 3) (N := some 19) (v := ?_) (a' := ?_) #[true, true, true, true, true, true, true, false, false, false] rfl rfl (by kernel_rfl) (fun _ _ _ h => h) (Or.inl ⟨by rfl, ?_⟩) hHeld ?_ ?_
    rotate_left
    · rintro w' ⟨s0, s1⟩
      go_simp
      with_reducible rfl
    rotate_left
    · simp only [Act.put, List.setIfInBounds_toArray, List.set_cons_zero, List.set_cons_succ, i64_w, i32_w]
      rfl
    refine take_ (i := 7) (N := some 23) (v := ?_) (a' := ?_) #[true, true, true, true, true, true, true, true, false, false] rfl rfl (by kernel_rfl) (fun _ _ _ h => h) (Or.inl ⟨by rfl, ?_⟩) hHeld ?_ ?_
    rotate_left
    · rintro w' ⟨s0, s1⟩
      go_simp
      with_reducible rfl
    rotate_left
    · simp only [Act.put, List.setIfInBounds_toArray, List.set_cons_zero, List.set_cons_succ, i64_w, i32_w]
      rfl
    refine one_ (i := 8) (N := some 24) #[true, true, true, true, true, true, true, true, true, false] rfl rfl (by kernel_rfl) (by decide) (fun K hK => ?_)
    refine goes_ Try.func31 (by kernel_rfl) rfl #[.slice X0 x0.length d0, .slice Y0 y0.length d1] (by rfl) rfl rfl (by (try simp only [List.map_toArray, List.map_cons, List.map_nil]); first | done | rfl) ?_
    with_reducible refine (k_Bytes HX.out HY.out).mono ?_
    rintro e y1_ ⟨rfl, hb⟩
    refine ⟨_, rfl, ?_⟩
    have n_HB := Aside0.mk (below_step HB.out hb)
    have n_CX := Aside0.mk (pw_cell_below hb CX.out)
    have n_CY := Aside0.mk (pw_cell_below hb CY.out)
    have n_HX := Aside0.mk (Kd.C_below HX.out hb)
    have n_HY := Aside0.mk (Kd.C_below HY.out hb)
    clear HB
    have HB := n_HB
    clear n_HB
    clear CX
    have CX := n_CX
    clear n_CX
    clear CY
    have CY := n_CY
    clear n_CY
    clear HX
    have HX := n_HX
    clear n_HX
    clear HY
    have HY := n_HY
    clear n_HY
    clear hb
    refine hK.out _ _ ⟨CX.out, CY.out⟩ (fun hHeld => ?_)
    clear hK K
    refine norm_ (a' := ?_) ?_ ?_
    rotate_left
    · show Act.put _ (some 24) _ = _
      simp only [Act.put, List.setIfInBounds_toArray, List.set_cons_zero, List.set_cons_succ, i64_w, i32_w]
      rfl
    refine pure_ (i := 9) (N := some 25) (v := ?_) (a' := ?_) #[true, true, true, true, true, true, true, true, true, true] rfl rfl (by kernel_rfl) (fun _ _ _ h => h) (Or.inl ⟨by rfl, ?_⟩) ?_ ?_
    rotate_left
    · intro w'
      go_simp
      with_reducible rfl
    rotate_left
    · simp only [Act.put, List.setIfInBounds_toArray, List.set_cons_zero, List.set_cons_succ, i64_w, i32_w]
      rfl
    refine done_ (by kernel_rfl) ?_
    clear hHeld CX CY HX HY
    by_cases hxy : x0 = y0
    case pos =>
      have d1 : decide (x0 = y0) = true := by simpa using hxy
      have hn2 := Aside0.mk (hn.out.1 d1)
      clear hn
      rw [d1]
      go_wp2_with fail
      go_roundw
      case rel => exact ⟨i + 1, by omega, by go_num, HB, hn2⟩
      case measure => simp [intOf]; omega
    have d1 : decide (x0 = y0) = false := by simpa using hxy
    obtain rfl : r = false := by rw [hr.out]; exact decide_eq_false (hn.out.2 d1)
    clear hn hr
    rw [d1]
    go_wp2_with fail
    go_ret
    exact ⟨rfl, HB.out⟩
/-! ### the store, and a journal on it, since the world w0 -/
theorem SA.lower {B' : Nat} (h : SA B w p gl gm v L W) (hB : B' ≤ B) : SA B' w p gl gm v L W := ⟨h.hp, h.hl, Kd.R_lower h.hw hB, h.hm, ⟨Nat.le_trans hB h.hB.1, Nat.le_trans hB h.hB.2.1, Nat.le_trans hB h.hB.2.2⟩, h.hL, h.hW⟩
structure SS (w0 w : World) (p gl gm : Nat) (v : Value) (L : List (Bk × Bool)) (W : List (Int × Bk)) : Prop where
  s : SA w0.heap.size w p gl gm v L W
  b : Below w0.heap.size w0 w
structure LS (w0 w : World) (p gl gm : Nat) (v : Value) (L : List (Bk × Bool)) (W : List (Int × Bk)) (pj : Nat) (lv : Value) (rs : List (List Int)) : Prop where
  s : SS w0 w p gl gm v L W
  j : JBk w pj p lv (usum rs)
  r : RB w w0.heap.size (fun k => w0.heap.size ≤ k) lv rs
  p : w0.heap.size ≤ pj
theorem SS.below (h : SS w0 w p gl gm v L W) (hb : Below w.heap.size w w') : SS w0 w' p gl gm v L W := ⟨h.s.below hb, below_step h.b hb⟩
theorem LS.below (h : LS w0 w p gl gm v L W pj lv rs) (hb : Below w.heap.size w w') : LS w0 w' p gl gm v L W pj lv rs := ⟨h.s.below hb, h.j.below hb, Kd.R_below h.r hb, h.p⟩
theorem LS.jf (h : LS w0 w p gl gm v L W pj lv rs) {k : Nat} (hk : Go.Proofs.Ytniadlnbjgodnaa.Print.jf pj lv k) : w0.heap.size ≤ k := by
  rcases hk with hk | hk
  · have := h.p; omega
  · exact h.r.1 k hk
theorem LS.far (h : LS w0 w p gl gm v L W pj lv rs) {g t : Nat} {cs : Array Value} {fr : Nat × Nat} (hg : w.heap[g]? = some (.cells cs t fr)) (ht : t ≠ 78 ∧ t ≠ 103 ∧ t ≠ 100 ∧ t ≠ 80 ∧ t ≠ 38) : ¬ (foot p gl gm v g ∨ Go.Proofs.Ytniadlnbjgodnaa.Print.jf pj lv g) := by
  rintro (hk | hk | hk)
  · exact h.s.s.far hg ⟨ht.1, ht.2.1, ht.2.2.1⟩ hk
  · have := h.j
    unfold JBk at this
    rw [← hk, hg] at this
    injection this with this
    injection this with _ e
    exact ht.2.2.2.1 e
  · obtain ⟨inner, ho⟩ := Kd.R_own h.r
    obtain ⟨cs', hc⟩ := own_typed ho g hk
    rw [hg] at hc
    injection hc with hc
    injection hc with _ e
    exact ht.2.2.2.2 e
theorem C_new (hb : Below w0.heap.size w0 w) (n : Nat) (hn : 1 ≤ n ∧ n ≤ 4096) : Calls Try.prog 10 #[.int .i64 n] w fun e w' => ∃ p, e = .returned (.tuple #[.pointer (some ⟨p, 0, none⟩), .int .i64 0]) ∧ ∃ gl gm v, SS w0 w' p gl gm v (zeros n) [] ∧ Below w.heap.size w w' := by
  refine (b_New n hn).mono ?_
  rintro e w' ⟨p, rfl, F, ⟨gl, gm, v, h, rfl⟩, hm⟩
  have hb2 := hm.below (Below.refl _ _) (Nat.le_refl _) (fun _ h => h.elim)
  exact ⟨p, rfl, gl, gm, v, ⟨h.lower hb.size, below_step hb hb2⟩, hb2⟩
theorem SS.mv {F' : Nat → Prop} (h : SS w0 w p gl gm v L W) (hm : Mv (foot p gl gm v) F' w w') : Below w0.heap.size w0 w' := hm.below h.b h.b.size (fun k hk => h.s.base hk)
/-- A journal is opened: what it finds, and what the store is behind it. -/
theorem C_open (h : SS w0 w p gl gm v L W) (hok : okS L W) {rs : List (List Int)} (hr : recs L W = rs) {L2 : List (Bk × Bool)} {W2 : List (Int × Bk)} (hw : wipeR L W (usum rs) = (0, L2, W2)) :
    Calls Try.prog 12 #[.pointer (some ⟨p, 0, none⟩)] w fun e w' => ∃ pj lv v', e = .returned (.tuple #[.pointer (some ⟨pj, 0, none⟩), .int .i64 0]) ∧ LS w0 w' p gl gm v' L2 W2 pj lv rs ∧ Mv (foot p gl gm v) (fun k => foot p gl gm v' k ∨ jf pj lv k) w w' ∧ RB w' w.heap.size (fun k => w.heap.size ≤ k) lv rs ∧ w.heap.size ≤ pj := by
  subst hr
  refine (j_Open h.s (rd_ok hok)).mono ?_
  rintro e w' ⟨pj, lv, v', rfl, hs, hj, hR, hpj, hm⟩
  rw [hw] at hs ⊢
  have hsz := h.b.size
  exact ⟨pj, lv, v', by rw [if_pos rfl], ⟨⟨hs, h.mv hm⟩, hj, Kd.R_mono (Kd.R_lower hR hsz) (fun k hk => Nat.le_trans hsz hk), Nat.le_trans hsz hpj⟩, hm, hR, hpj⟩
theorem C_openG (h : SS w0 w p gl gm v L W) (hok : okS L W) (g : GJ L W rs) :
    Calls Try.prog 12 #[.pointer (some ⟨p, 0, none⟩)] w fun e w' => ∃ pj lv v', e = .returned (.tuple #[.pointer (some ⟨pj, 0, none⟩), .int .i64 0]) ∧ LS w0 w' p gl gm v' L W pj lv rs ∧ Mv (foot p gl gm v) (fun k => foot p gl gm v' k ∨ jf pj lv k) w w' ∧ RB w' w.heap.size (fun k => w.heap.size ≤ k) lv rs ∧ w.heap.size ≤ pj := C_open h hok g.recs g.wipe
/-- What adding answers, and leaves. -/
def apC (L : List (Bk × Bool)) (rs : List (List Int)) (b : List Int) : Int := if 13515 < b.length then 2 else if fits L (usum rs) b.length = false then 10 else 0
def apW (L : List (Bk × Bool)) (W : List (Int × Bk)) (rs : List (List Int)) (b : List Int) : List (Int × Bk) := if apC L rs b = 0 then W ++ wrL (usum rs) (rs.length + 1) b 0 (pn b.length) else W
def apR (L : List (Bk × Bool)) (rs : List (List Int)) (b : List Int) : List (List Int) := if apC L rs b = 0 then rs ++ [b] else rs
theorem apC_fits {b : List Int} (h : apC L rs b = 0) : b.length ≤ 13515 ∧ usum rs + pn b.length ≤ L.length := by
  unfold apC at h
  by_cases h1 : 13515 < b.length
  · rw [if_pos h1] at h; cases h
  rw [if_neg h1] at h
  by_cases h2 : fits L (usum rs) b.length = false
  · rw [if_pos h2] at h; cases h
  have h2 : fits L (usum rs) b.length = true := by simpa using h2
  unfold fits at h2
  simp at h2
  omega
theorem appR_of (g : GJ L W rs) (b : List Int) : appR L W (usum rs) (rs.length + 1) b = (apC L rs b, apW L W rs b) := by
  unfold appR
  by_cases h1 : 13515 < b.length
  · have e : apC L rs b = 2 := by unfold apC; rw [if_pos h1]
    unfold apW
    rw [if_pos h1, e, if_neg (by decide)]
  by_cases h2 : fits L (usum rs) b.length = false
  · have e : apC L rs b = 10 := by unfold apC; rw [if_neg h1, if_pos h2]
    unfold apW
    rw [if_neg h1, if_pos h2, e, if_neg (by decide)]
  have e : apC L rs b = 0 := by unfold apC; rw [if_neg h1, if_neg h2]
  have hf := apC_fits e
  have hw := g.hw
  have hl := g.hl
  unfold apW
  rw [if_neg h1, if_neg h2, e, if_pos rfl, wrS_ok _ _ _ (by omega) (by omega)]
theorem GJ.app (g : GJ L W rs) {b : List Int} (hb : ∀ x ∈ b, 0 ≤ x ∧ x < 256) : GJ L (apW L W rs b) (apR L rs b) := by
  unfold apW apR
  by_cases e : apC L rs b = 0
  · rw [if_pos e, if_pos e]
    have hf := apC_fits e
    exact (g.snoc ⟨hb, hf.1⟩ hf.2).2
  · rw [if_neg e, if_neg e]; exact g
theorem CJ.app {k : Nat} (g : CJ L W rs k) {b : List Int} (hb : ∀ x ∈ b, 0 ≤ x ∧ x < 256) : CJ L (apW L W rs b) (apR L rs b) k := by
  unfold apW apR
  by_cases e : apC L rs b = 0
  · rw [if_pos e, if_pos e]
    have hf := apC_fits e
    exact g.snoc ⟨hb, hf.1⟩ hf.2
  · rw [if_neg e, if_neg e]; exact g
theorem okS_app (g : GJ L W rs) (h : okS L W) {b : List Int} (hb : ∀ x ∈ b, 0 ≤ x ∧ x < 256) : okS L (apW L W rs b) := by
  unfold apW
  by_cases e : apC L rs b = 0
  · rw [if_pos e]
    have hf := apC_fits e
    have := usum_len rs
    have := g.hu
    have := g.hl
    exact okS_wrL ⟨hb, hf.1⟩ (by omega) h
  · rw [if_neg e]; exact h
theorem C_app (h : LS w0 w p gl gm v L W pj lv rs) (g : GJ L W rs) {A : Option Addr} {c : Nat} {b : List Int} (hC : Kd.C (Kd.int .u8) w A b.length b) (hc : b.length ≤ c) (hA : 0 < b.length → ∀ ad, A = some ad → ¬ foot p gl gm v ad.block) :
    Calls Try.prog 14 #[.pointer (some ⟨pj, 0, none⟩), .slice A b.length c] w fun e w' => e = .returned (.int .i64 (apC L rs b)) ∧ ∃ v' lv', LS w0 w' p gl gm v' L (apW L W rs b) pj lv' (apR L rs b) ∧ Mv (fun k => foot p gl gm v k ∨ jf pj lv k) (fun k => foot p gl gm v' k ∨ jf pj lv' k) w w' := by
  have hus := usum_len rs
  have hu := g.hu
  have hl := g.hl
  refine (j_Append h.s.s h.j h.r h.s.b.size (fun k hk => Nat.le_trans h.s.b.size hk) g.hu (by omega) hC hc hA (appR_of g b).symm).mono ?_
  rintro e w' ⟨rfl, v', lv', hs, hj, hr, hm⟩
  refine ⟨rfl, v', lv', ⟨⟨hs, hm.below h.s.b h.s.b.size (fun k hk => hk.elim h.s.s.base h.jf)⟩, ?_, hr, h.p⟩, hm⟩
  have e : usum (apR L rs b) = if apC L rs b = 0 then usum rs + pn b.length else usum rs := by
    unfold apR
    split
    · rw [usum_append]; rfl
    · rfl
  rw [e]
  exact hj
theorem C_sync (h : LS w0 w p gl gm v L W pj lv rs) : Calls Try.prog 16 #[.pointer (some ⟨pj, 0, none⟩)] w fun e w' => e = .returned (.int .i64 0) ∧ LS w0 w' p gl gm (.slice none 0 0) (setl (fun _ => 1) 0 W L) [] pj lv rs ∧ Mv (foot p gl gm v) (foot p gl gm (.slice none 0 0)) w w' := by
  refine (j_Sync h.s.s h.j).mono ?_
  rintro e w' ⟨rfl, hs, hm⟩
  exact ⟨rfl, ⟨⟨hs, h.s.mv hm⟩, h.j.mv hm (h.s.s.not_j h.j), RB.mv h.r hm h.s.s.rb, h.p⟩, hm⟩
theorem C_crash (h : SS w0 w p gl gm v L W) {A : Option Addr} {c : Nat} {l : List Int} (hC : Kd.C (Kd.int .u8) w A l.length l) (hA : 0 < l.length → ∀ ad, A = some ad → ¬ foot p gl gm v ad.block) : Calls Try.prog 18 #[.pointer (some ⟨p, 0, none⟩), .slice A l.length c] w fun e w' => e = .returned (.int .i64 0) ∧ SS w0 w' p gl gm (.slice none 0 0) (setl (fateOf l) 0 W L) [] ∧ Mv (foot p gl gm v) (foot p gl gm (.slice none 0 0)) w w' := by
  refine (b_Crash h.s hC hA).mono ?_
  rintro e w' ⟨rfl, hs, hm⟩
  exact ⟨rfl, ⟨hs, h.mv hm⟩, hm⟩
theorem LS.mv {F' : Nat → Prop} (h : LS w0 w p gl gm v L W pj lv rs) (hm : Mv (foot p gl gm v) F' w w') : JBk w' pj p lv (usum rs) ∧ RB w' w0.heap.size (fun k => w0.heap.size ≤ k) lv rs := ⟨h.j.mv hm (h.s.s.not_j h.j), RB.mv h.r hm h.s.s.rb⟩
theorem C_records (hj : JBk w pj p lv u) {B0 : Nat} {ok : Nat → Prop} (hr : RB w B0 ok lv rs) (g : ∀ r ∈ rs, okR r) (hn : rs.length ≤ 5000) : Calls Try.prog 25 #[.pointer (some ⟨pj, 0, none⟩)] w fun e w' => ∃ A c, e = .returned (.slice A rs.length c) ∧ RB w' w.heap.size (fun k => w.heap.size ≤ k) (.slice A rs.length c) rs ∧ Below w.heap.size w w' := by
  refine (j_Records hj hr (fun r h => (g r h).2) (by omega)).mono ?_
  rintro e w' ⟨v1, rfl, hR, hb⟩
  obtain ⟨A, c, hv⟩ := Kd.R_slice hR
  subst hv
  exact ⟨A, c, rfl, hR, hb⟩
theorem GJ.len (g : GJ L W rs) : rs.length ≤ 5000 := by have := usum_len rs; have := g.hu; have := g.hl; omega
/-- What lies under every block of the store's is none of them. -/
theorem arg_far {l : List Int} {A : Option Addr} {F : Nat → Prop} (hC : Kd.C (Kd.int .u8) w0 A l.length l) (hF : ∀ k, F k → w0.heap.size ≤ k) : 0 < l.length → ∀ ad, A = some ad → ¬ F ad.block := by
  intro hl ad e hf
  obtain ⟨ad', e', hc⟩ := hC.2.2 hl
  rw [e] at e'
  cases e'
  obtain ⟨c, h1, h2, h3⟩ := hc 0 _ (List.getElem?_eq_getElem hl)
  have hlt : (ad.add (0 * (Kd.int .u8).sz + 0)).block < w0.heap.size := by
    cases c with
    | nil => cases h1
    | cons u t => exact World.block_lt_of_cell? w0 _ (h3 0 u rfl)
  have e2 : (ad.add (0 * (Kd.int .u8).sz + 0)).block = ad.block := by unfold Addr.add; split <;> rfl
  have := hF _ hf
  omega
theorem SS.arg (h : SS w0 w p gl gm v L W) {l : List Int} {A : Option Addr} (hC : Kd.C (Kd.int .u8) w0 A l.length l) : 0 < l.length → ∀ ad, A = some ad → ¬ foot p gl gm v ad.block := arg_far hC (fun k hk => h.s.base hk)
theorem nil_C {w : World} : Kd.C (Kd.int .u8) w none ([] : List Int).length [] := ⟨rfl, by simp, fun h => absurd h (by simp)⟩
end
section
variable {w : World}
def b60 : List Int := List.replicate 60 0
theorem b60_len : b60.length = 60 := List.length_replicate
theorem b60_ok : ∀ x ∈ b60, 0 ≤ x ∧ x < 256 := fun x hx => by have := List.eq_of_mem_replicate hx; omega
theorem al_c : apC (zeros 20) [] b60 = 0 := by
  unfold apC
  rw [b60_len, if_neg (by omega), if_neg]
  simp [fits, zeros_len, usum, pn]
theorem al_w : apW (zeros 20) [] [] b60 = [((0 : Int), blk 1 b60 0), (1, blk 1 b60 1)] := by
  unfold apW
  rw [if_pos al_c]
  have : pn b60.length = 2 := by rw [b60_len]; rfl
  rw [this]
  rfl
theorem al_r : apR (zeros 20) [] b60 = [b60] := by unfold apR; rw [if_pos al_c]; rfl
theorem mk_run (m : Nat) (hm : m ≤ 1000000) : ∀ W : World, (Instr.makeSlice 38 (.int .i64 (m : Int)) (.int .i64 (m : Int))).run Try.prog W = .ok (.slice (some ⟨W.heap.size, 0, none⟩) m m) (W.alloc (.cells (madeCells #[.int .u8 0] m) 5)) := print_make 38 5 .u8 1 by_und' u_info (by omega) m (by omega)
theorem mk_R (W : World) (m : Nat) (hm : m ≤ 1000000) : Kd.R (Kd.int .u8) 5 (W.alloc (.cells (madeCells #[.int .u8 0] m) 5)) W.heap.size (fun _ => True) (.slice (some ⟨W.heap.size, 0, none⟩) m m) (List.replicate m 0) := by
  have h := own_made W W.heap.size 5 .u8 m (Nat.le_refl _) (by omega)
  have h2 : (W.alloc (.cells (madeCells #[.int .u8 0] m) 5)).ownsRow W.heap.size 5 1 (.slice (some ⟨W.heap.size, 0, none⟩) m m) (List.replicate m (0 : Int)).length (nums .u8 (List.replicate m 0)) := by rw [List.length_replicate]; exact h
  exact Kd.R_of_own h2 (fun _ _ => trivial)
theorem lit_C (W : World) (xs : List Int) (hl : xs.length ≤ 1000000) : Kd.C (Kd.int .u8) (W.alloc (.cells (nums .u8 xs).toArray 5)) (some ⟨W.heap.size, 0, none⟩) xs.length xs :=
  (Kd.R_reads' (Kd.R_of_own (ok := fun _ => True) (own_lit W W.heap.size 5 .u8 xs (Nat.le_refl _) (by omega)) (fun _ _ => trivial))).2.2
theorem new_far {p gl gm : Nat} {v : Value} {L : List (Bk × Bool)} {W : List (Int × Bk)} {B : Nat} (h : SA B w p gl gm v L W) : ¬ foot p gl gm v w.heap.size := fun hf => Nat.lt_irrefl _ (h.lt hf)
def alL : List (Bk × Bool) := (zeros 20).set 0 (blk 1 b60 0, false)
theorem al_s : setl (fateOf [1, 0]) 0 [((0 : Int), blk 1 b60 0), (1, blk 1 b60 1)] (zeros 20) = alL := by
  have f0 : fateOf [1, 0] 0 = 1 := by decide
  have f1 : fateOf [1, 0] (0 + 1) = 0 := by decide
  rw [setl, setl, setl, f0, f1, put1, put1, if_pos rfl, if_neg (by decide), if_neg (by decide)]
  rfl
theorem al_len : alL.length = 20 := by simp [alL, zeros_len]
theorem al_ok : okS alL [] := by rw [← al_s]; exact okS_setl _ _ _ _ (by rw [← al_w]; exact okS_app (GJ.new 20 (by omega)) (okS_zeros 20) b60_ok)
theorem al_recs : recs alL [] = [] := by
  have h0 : rd alL [] ((0 : Nat) : Int) = (blk 1 b60 0, 0) := by
    rw [rd_at (b := blk 1 b60 0) (t := false) (by unfold alL; rw [List.getElem?_set_self (by rw [zeros_len]; omega)]), if_neg (by simp)]
  have h1 : rd alL [] ((1 : Nat) : Int) = (Bk.z, 0) := by
    rw [rd_at (b := Bk.z) (t := false) (by unfold alL; rw [List.getElem?_set_ne (by omega)]; simp [zeros]), if_neg (by simp)]
  have hp : pn b60.length = 2 := by rw [b60_len]; rfl
  have hn : recP (fAt alL [] 0) 1 = none := by
    refine recP_bad (b := b60) (i0 := 1) (fun i hi => ?_) (by rw [hp]; omega) ?_
    · rw [hp] at hi
      have : i = 0 ∨ i = 1 := by omega
      rcases this with rfl | rfl
      · left; unfold fAt; exact h0
      · right; unfold fAt; right; rw [h1]
    · unfold fAt; right; rw [h1]
  unfold recs
  rw [scan, hn]
set_option maxHeartbeats 16000000 in
set_option maxRecDepth 100000 in
theorem j_alive : Calls Try.prog 8 #[] w fun e w' => e = .returned (.bool true) ∧ Below w.heap.size w w' := by
  go_enter Try.func8, Try.ntmps8
  go_wp2_with fail
  refine (C_new (w0 := w) (Below.refl _ _) 20 (by omega)).mono ?_
  rintro e w1 ⟨p, rfl, gl, gm, v, hs, _⟩
  have HS := Aside0.mk hs
  clear hs
  go_wp2_with fail
  refine (C_openG HS.out (okS_zeros 20) (GJ.new 20 (by omega))).mono ?_
  rintro e w2 ⟨pj, lv, v1, rfl, hl, _, _, _⟩
  have HL := Aside0.mk hl
  clear hl HS
  have hmk := mk_run 60 (by omega)
  rw [show ((60 : Nat) : Int) = 60 from rfl] at hmk
  go_wp2_with fail
  have hb3 := below_alloc (Below.refl w2.heap.size w2) (.cells (madeCells #[.int .u8 0] 60) 5)
  have hC := (Kd.R_reads' (mk_R w2 60 (by omega))).2.2
  have hfar := new_far HL.out.s.s
  have HL3 := Aside0.mk (HL.out.below hb3)
  clear HL hmk
  generalize hw3 : w2.alloc (.cells (madeCells #[.int .u8 0] 60) 5) = w3 at hC HL3
  have hap := C_app (c := 60) HL3.out (GJ.new 20 (by omega)) (b := b60) hC (by rw [b60_len]; omega) (fun _ ad e => by cases e; exact hfar)
  rw [b60_len, al_c, al_w, al_r] at hap
  replace hap := Aside0.mk hap
  clear hb3 hC hfar
  refine hap.out.mono ?_
  rintro e w4 ⟨rfl, v2, lv2, hl, _⟩
  have HL4 := Aside0.mk hl
  clear hl hap HL3 hw3
  have hus : usum [b60] = 2 := by simp [usum, b60_len, pn]
  have HU := Aside0.mk (j_Used HL4.out.j)
  rw [hus] at HU
  clear hus
  go_wp2_with fail
  refine HU.out.mono ?_
  rintro e w5 ⟨rfl, hb⟩
  have HL5 := Aside0.mk (HL4.out.below hb)
  clear hb HL4 HU
  go_wp2_with fail
  have hb6 := below_alloc (Below.refl w5.heap.size w5) (.cells (nums .u8 [1, 0]).toArray 5)
  have HC6 := Aside0.mk (lit_C w5 [1, 0] (by simp))
  have hfar := new_far HL5.out.s.s
  have HS6 := Aside0.mk (HL5.out.s.below hb6)
  clear HL5 hb6
  change Calls _ _ _ (w5.alloc (.cells (nums .u8 [1, 0]).toArray 5)) _
  generalize hw6 : w5.alloc (.cells (nums .u8 [1, 0]).toArray 5) = w6 at HC6 HS6
  refine (C_crash (l := [1, 0]) HS6.out HC6.out (fun _ ad e => by cases e; exact hfar)).mono ?_
  rintro e w7 ⟨rfl, hs, _⟩
  rw [al_s] at hs
  have HS7 := Aside0.mk hs
  clear hs HS6 HC6 hfar hw6
  go_wp2_with fail
  obtain ⟨L2, hw2, _, _, _, _⟩ := wipe0 (L := alL) (u := 0) (by rw [al_len]; omega) (Nat.zero_le _) al_ok
  refine (C_open HS7.out al_ok al_recs hw2).mono ?_
  rintro e w8 ⟨pk, lk, v8, rfl, hl, _, _, _⟩
  have HL8 := Aside0.mk hl
  clear hl HS7
  go_wp2_with fail
  refine (C_records HL8.out.j HL8.out.r (fun r h => by simp at h) (by simp)).mono ?_
  rintro e w9 ⟨A9, c9, rfl, _, hb⟩
  have HB9 := Aside0.mk (HL8.out.below hb).s.b
  clear hb HL8
  go_wp2_with fail
  refine j_Sync_nil.mono ?_
  rintro e w10 ⟨rfl, hb⟩
  have HB10 := Aside0.mk (below_step HB9.out hb)
  clear hb HB9
  go_wp2_with fail
  go_ret
  exact ⟨rfl, HB10.out⟩
end
end Go.Proofs.Ytniadlnbjgodnaa.Print
