/- A journal's small functions: how many parts, a number's bytes. A byte row's check sum, as the program finds it. A record's part as a block. Rows of bytes, copied. Rows of bytes, one behind the other. What comes of places from one on, up to the first where nothing does. -/
import Derived.Test.YtniadlnbjgodnaaProg
import Derived.Below
import Derived.Deep.Draws
import Derived.Deep.AppendLies
import Derived.Maps.AppendAt
import Derived.OwnWalk
import Derived.Laws.BytesArg
import Derived.Laws.MakeOwn
import Derived.Laws.OwnMore
import Derived.Deep.OwnRows
import Derived.Tactics
import Derived.Lib.ConvBytes
import Derived.Laws.Slices
import Derived.WalkKit
import Derived.KernelRfl
import Derived.RowKit3
import Derived.Deep.LoopGhost
import Derived.Deep.QuietTactic
import Derived.BigQuiet
import Derived.WideLaws
import Derived.Deep.DeepCutAuto
import Derived.Deep.CutBlock
import Derived.Deep.RegionHeld3
import Derived.Laws.Rows
import Derived.Lib.AppendStr
import Derived.ArgAppend
import Derived.Laws.IdiomCopy
import Derived.OrdersHeld
import Derived.Laws.BitsLemmas
import Derived.RowKit
import Derived.LoopN
import Derived.Handy
import Derived.Laws.EntriesVeiled
import Derived.MapKept
import Derived.Laws.Externs
import Derived.ChangeKeysEq
import Derived.Deep.WholeRow
import Derived.Test.YtniadlnbjgodnaaWWords
import Derived.Test.YtniadlnbjgodnaaWLast
import Derived.Test.YtniadlnbjgodnaaWTab
import Derived.Test.YtniadlnbjgodnaaWFour
import Derived.Test.YtniadlnbjgodnaaWQPut
import Derived.Test.YtniadlnbjgodnaaWApart
import Derived.Test.YtniadlnbjgodnaaWArr
import Derived.Test.YtniadlnbjgodnaaWZeros
import Derived.Test.YtniadlnbjgodnaaWFoot
import Derived.Test.YtniadlnbjgodnaaWKept
import Derived.Test.YtniadlnbjgodnaaWShare
import Derived.Test.YtniadlnbjgodnaaWN
import Derived.Test.YtniadlnbjgodnaaWFootNe
import Derived.Test.YtniadlnbjgodnaaWAt
import Derived.Test.YtniadlnbjgodnaaWEqStruct
import Derived.Test.YtniadlnbjgodnaaWRepsOne
import Derived.Test.YtniadlnbjgodnaaWInv
import Derived.Test.YtniadlnbjgodnaaWInvWords
import Derived.Test.YtniadlnbjgodnaaWGuard
import Derived.Test.YtniadlnbjgodnaaWNEv
import Derived.Test.YtniadlnbjgodnaaWMore
import Derived.Test.YtniadlnbjgodnaaBlkA
namespace Go.Proofs.Ytniadlnbjgodnaa.Print
open Go.RowKit Go.Proofs.YtniadlnbjgodnaaW.PrintWords Go.Proofs.YtniadlnbjgodnaaW.PrintLast Go.Proofs.YtniadlnbjgodnaaW.PrintMore
attribute [local go_sem] max2_int min2_int max_two min_two max_three min_three max_four min_four
set_option linter.unusedVariables false
set_option linter.unusedSimpArgs false
section
variable {w : World}
/-- How many parts so many bytes have. -/
def pn (n : Nat) : Nat := max 1 ((n + 52) / 53)
theorem pn_pos (n : Nat) : 1 ≤ pn n := by unfold pn; omega
set_option maxHeartbeats 4000000 in
set_option maxRecDepth 100000 in
theorem j_parts (n : Nat) (hn : n ≤ 1000000000000) : Calls Try.prog 36 #[.int .i64 n] w fun e w' => e = .returned (.int .i64 (pn n)) ∧ Below w.heap.size w w' := by
  go_enter Try.func36, Try.ntmps36
  go_wp2_with fail
  · skip
    go_ret
    refine ⟨?_, Below.refl _ _⟩
    have : (pn n : Int) = ((n : Int) + 53 - 1) / 53 := by unfold pn; omega
    rw [this]
    rfl
  · skip
    go_ret
    refine ⟨?_, Below.refl _ _⟩
    have : (pn n : Int) = 1 := by unfold pn; omega
    rw [this]
    rfl
def set4 (cs : Array Value) (off : Nat) (x : Int) : Array Value :=
  (((cs.setIfInBounds off (.int .u8 (x % 256))).setIfInBounds (off + 1) (.int .u8 (x / 256 % 256))).setIfInBounds (off + 2) (.int .u8 (x / 65536 % 256))).setIfInBounds (off + 3) (.int .u8 (x / 16777216))
theorem add_off (g off k : Nat) : (⟨g, off, none⟩ : Addr).add k = ⟨g, off + k, none⟩ := by unfold Addr.add; split <;> simp_all
theorem put_step {g t i : Nat} {cs : Array Value} (hg : w.heap[g]? = some (.cells cs t (0, 0))) (v : Value) : w.setCell ⟨g, i, none⟩ v = w.setRow g (cs.setIfInBounds i v) := setCell_eq_setRow w g i cs t (0, 0) v hg
theorem blk_some {g t i : Nat} {cs : Array Value} (hg : w.heap[g]? = some (.cells cs t (0, 0))) (hi : i < cs.size) : ∃ v, w.cell? ⟨g, i, none⟩ = some v := ⟨cs[i], by rw [blk_cell hg]; simp [hi]⟩
set_option maxHeartbeats 4000000 in
set_option maxRecDepth 100000 in
theorem j_number {g off n cap t : Nat} {cs : Array Value} (hg : w.heap[g]? = some (.cells cs t (0, 0))) (hoff : off + 4 ≤ cs.size) (hn : 4 ≤ n) (x : Int) (hx : 0 ≤ x ∧ x < 4294967296) :
    Calls Try.prog 51 #[.slice (some ⟨g, off, none⟩) n cap, .int .u32 x] w fun e w' => e = .returned (.tuple #[]) ∧ w' = w.setRow g (set4 cs off x) := by
  go_enter Try.func51, Try.ntmps51
  go_wp2_with fail
  refine wp_loop_rounds 5 ?_
  obtain ⟨v0, hc⟩ := blk_some (i := off) hg (by (repeat rw [Array.size_setIfInBounds]); omega)
  have hf := blk_frozen hg (off)
  rw [rounds_succ]
  go_wp2_with fail
  rw [put_step hg]
  have h1 := setRow_heap w g cs ((cs).setIfInBounds (off) (.int .u8 (x % 256))) t (0, 0) hg
  clear hc hf
  obtain ⟨v1, hc⟩ := blk_some (i := off + 1) h1 (by (repeat rw [Array.size_setIfInBounds]); omega)
  have hf := blk_frozen h1 (off + 1)
  rw [rounds_succ]
  go_wp2_with fail
  rw [put_step h1, setRow_setRow]
  have h2 := setRow_heap w g cs (((cs).setIfInBounds (off) (.int .u8 (x % 256))).setIfInBounds (off + 1) (.int .u8 (x / 256 % 256))) t (0, 0) hg
  clear hc hf
  obtain ⟨v2, hc⟩ := blk_some (i := off + 2) h2 (by (repeat rw [Array.size_setIfInBounds]); omega)
  have hf := blk_frozen h2 (off + 2)
  rw [rounds_succ]
  go_wp2_with fail
  rw [put_step h2, setRow_setRow]
  have h3 := setRow_heap w g cs ((((cs).setIfInBounds (off) (.int .u8 (x % 256))).setIfInBounds (off + 1) (.int .u8 (x / 256 % 256))).setIfInBounds (off + 2) (.int .u8 (x / 65536 % 256))) t (0, 0) hg
  clear hc hf
  obtain ⟨v3, hc⟩ := blk_some (i := off + 3) h3 (by (repeat rw [Array.size_setIfInBounds]); omega)
  have hf := blk_frozen h3 (off + 3)
  rw [rounds_succ]
  go_wp2_with fail
  rw [put_step h3, setRow_setRow]
  have h4 := setRow_heap w g cs (((((cs).setIfInBounds (off) (.int .u8 (x % 256))).setIfInBounds (off + 1) (.int .u8 (x / 256 % 256))).setIfInBounds (off + 2) (.int .u8 (x / 65536 % 256))).setIfInBounds (off + 3) (.int .u8 (x / 16777216))) t (0, 0) hg
  clear hc hf
  rw [rounds_succ]
  go_wp2_with fail
  go_end0
  exact ⟨rfl, rfl⟩
end
/-! ### rows that lie in a known block (by this session) -/
theorem R_blk {α : Type} {d : Kd α} {w : World} {base e g : Nat} {xs : List α} {inner : List Value} (hg : w.heap[g]? = some (.cells inner.toArray e (0, 0))) (hb : base ≤ g) (hrep : ∀ ok, Reps (d.M w base ok) d.sz xs inner) (hm : xs.length ≤ 9223372036854775807) :
    d.R e w base (fun _ => True) (.slice (some ⟨g, 0, none⟩) xs.length xs.length) xs := by
  have hl := (hrep (fun _ => True)).1
  exact ⟨fun _ _ => trivial, inner, ⟨hl, .inr ⟨g, xs.length, inner.toArray, rfl, hb, hg, Nat.le_refl _, by unfold maxLen; omega, by simpa using hl, by simp [← hl]⟩⟩, hrep _⟩
theorem setRow_same {w : World} {g : Nat} {t : TypeId} {cs : Array Value} {fr : Nat × Nat} (hg : w.heap[g]? = some (.cells cs t fr)) : w.setRow g cs = w := by
  have hv : w.heap[g]'(Array.getElem?_eq_some_iff.1 hg).1 = .cells cs t fr := (Array.getElem?_eq_some_iff.1 hg).2
  unfold World.setRow
  cases w with
  | mk heap tape drawn os output =>
    congr 1
    apply Array.ext
    · simp
    · intro k h1 h2
      simp only [Array.getElem_modify]
      split
      · rename_i hk; subst hk; simp at hv; simp [hv]
      · rfl
/-- '[]byte' of a constant: the block made last is marked, and reads as it did. -/
theorem run_strish_new {P : Program} {t e : TypeId} (ht : P.underlying t = some (.slice e)) (he : P.underlying e = some (.int .u8)) (W : World) (cs : Array Value) (n c : Nat) :
    (Go.convert t t (.slice (some ⟨W.heap.size, 0, none⟩) n c)).run P (W.alloc (.cells cs e)) = .ok (.slice (some ⟨W.heap.size, 0, none⟩) n c) (W.alloc (.cells cs e (cs.size, cs.size + 1))) := by
  have hb : (W.alloc (.cells cs e)).heap[W.heap.size]? = some (.cells cs e (0, 0)) := heap_alloc_new W _
  have hsh : (W.alloc (.cells cs e)).shape? W.heap.size = some (e, cs.size) := by
    unfold World.shape?; rw [hb]
  have hfr : (W.alloc (.cells cs e)).freeze ⟨W.heap.size, cs.size, none⟩ 1 = W.alloc (.cells cs e (cs.size, cs.size + 1)) := by
    unfold World.freeze
    rw [if_neg (by decide)]
    show ({ heap := _, tape := _, drawn := _, os := _, output := _ } : World) = { heap := _, tape := _, drawn := _, os := _, output := _ }
    congr 1
    apply Array.ext_getElem?
    intro k
    rw [Array.getElem?_modify]
    by_cases h : W.heap.size = k
    · subst h
      rw [if_pos rfl, hb]
      exact (heap_alloc_new W (.cells cs e (cs.size, cs.size + 1))).symm
    · rw [if_neg h]
      show (W.heap.push _)[k]? = (W.heap.push _)[k]?
      rw [Array.getElem?_push, Array.getElem?_push, if_neg (fun z => h z.symm), if_neg (fun z => h z.symm)]
  unfold Go.convert
  simp [Sem.run_bind, run_underlying ht, run_underlying he, markStringish, hsh, hfr, Result.andThen]
/-- A row of bytes that lies whole in a block, marked or not, can be read. -/
theorem C_lit {w : World} {g e : Nat} {fr : Nat × Nat} (xs : List Int) (hb : w.heap[g]? = some (.cells (xs.map (Value.int .u8)).toArray e fr)) (hm : xs.length ≤ 9223372036854775807) : Kd.C (Kd.int .u8) w (some ⟨g, 0, none⟩) xs.length xs := by
  refine ⟨rfl, hm, fun _ => ⟨⟨g, 0, none⟩, rfl, fun j p hj => ?_⟩⟩
  refine ⟨[.int .u8 p], rfl, rfl, fun i u hi => ?_⟩
  have hi0 : i = 0 := by
    cases i with
    | zero => rfl
    | succ i => simp at hi
  subst hi0
  have hu : u = .int .u8 p := by simpa using hi.symm
  subst hu
  have hj' := (List.getElem?_eq_some_iff.1 hj)
  have hadd : (⟨g, 0, none⟩ : Addr).add (j * (Kd.int .u8).sz + 0) = ⟨g, j, none⟩ := by
    have : (Kd.int .u8).sz = 1 := rfl
    rw [this]; unfold Addr.add; split <;> simp_all
  rw [hadd, cell_of_row w g j _ e fr hb]
  simp [hj]
def batch_table.step (n : Int) : Int := Go.bits .xor .u32 (n / 2) ((3988292384 * (Go.bits .and .u32 n 1)) % 4294967296)
def batch_table.n8 : Nat → Int → Int
  | 0, n => n
  | k + 1, n => batch_table.step (batch_table.n8 k n)
def batch_table.T (n : Int) : Int := batch_table.n8 8 n
def batch_table.cs (i : Nat) : Array Value := ((List.range 256).map fun j => Value.int .u32 (if j < i then batch_table.T j else 0)).toArray
theorem batch_table.cs0 : batch_table.cs 0 = Array.replicate 256 (.int .u32 0) := by
  unfold batch_table.cs
  apply Array.ext
  · simp
  · intro i h1 h2; simp
theorem batch_table.cs_at (i j : Nat) : (batch_table.cs i)[j]? = if j < 256 then some (Value.int .u32 (if j < i then batch_table.T j else 0)) else none := by
  unfold batch_table.cs
  rw [List.getElem?_toArray, List.getElem?_map]
  by_cases c : j < 256
  · rw [List.getElem?_range c, if_pos c]; rfl
  · rw [List.getElem?_eq_none (by simp; omega), if_neg c]; rfl
theorem batch_table.cs_next (i : Nat) (h : i < 256) : (batch_table.cs i).setIfInBounds i (.int .u32 (batch_table.T i)) = batch_table.cs (i + 1) := by
  apply Array.ext_getElem?
  intro j
  rw [Array.getElem?_setIfInBounds, batch_table.cs_at, batch_table.cs_at]
  have hs : (batch_table.cs i).size = 256 := by unfold batch_table.cs; simp
  rw [hs]
  by_cases c : i = j
  · subst c; simp [h]
  · by_cases d : j < 256
    · rw [if_neg c, if_pos d, if_pos d]
      by_cases e : j < i
      · rw [if_pos e, if_pos (by omega)]
      · rw [if_neg e, if_neg (by omega)]
    · rw [if_neg c, if_neg d, if_neg d]
def batch_table.P (w : World) (e : Ending) (w' : World) : Prop := e = .returned (.agg (batch_table.cs 256)) ∧ Below w.heap.size w w'
set_option maxHeartbeats 4000000 in
set_option maxRecDepth 100000 in
theorem batch_table.calls (w : World) : Calls Try.prog 59 #[] w (batch_table.P w) := by
  have hz : ∀ W, (zeroValue 115).run Try.prog W = .ok (.agg (Array.replicate 256 (.int .u32 0))) W := fun _ => by kernel_rfl
  go_enter Try.func59, Try.ntmps59
  go_wp2
  go_loopw [3] (fun v wr => ∃ i : Nat, i ≤ 256 ∧ v = .int .i64 i ∧ wr.heap[w.heap.size]? = some (.cells (batch_table.cs i) 115 (0, 0)) ∧ Aside0 (Below w.heap.size w wr)) (fun v _ => 256 - (intOf v).toNat)
  case atStart => exact ⟨0, Nat.zero_le _, rfl, by rw [batch_table.cs0]; exact (MapKept.heap_alloc w _).1, ⟨below_alloc (Below.refl _ _) _⟩⟩
  case round =>
    obtain ⟨i, hi, rfl, hblk, HB⟩ := hrel
    have HBLK := Aside0.mk hblk
    clear hblk
    by_cases hlt : i < 256
    · go_wp2
      go_loopw [2, 8] (fun v u wq => ∃ j : Nat, j ≤ 8 ∧ v = .int .u32 (batch_table.n8 j i) ∧ u = .int .i64 j ∧ wq.heap[w.heap.size]? = some (.cells (batch_table.cs i) 115 (0, 0)) ∧ Aside0 (Below w.heap.size w wq)) (fun _ u _ => 8 - (intOf u).toNat)
      case atStart => exact ⟨0, Nat.zero_le _, rfl, rfl, HBLK.out, HB⟩
      case round =>
        clear HBLK HB
        obtain ⟨j, hj, rfl, rfl, hblk, HB⟩ := hrel
        by_cases hlt2 : j < 8
        · have HBLK := Aside0.mk hblk
          clear hblk
          go_wp2
          go_roundw
          case rel => exact ⟨j + 1, by omega, rfl, by go_num, HBLK.out, HB⟩
          case measure => simp [intOf]; omega
        · obtain rfl : j = 8 := by omega
          have hc : wr.cell? ⟨w.heap.size, i, none⟩ = some (.int .u32 0) := (blk_cell hblk i).trans (by rw [batch_table.cs_at, if_pos hlt, if_neg (Nat.lt_irrefl _)])
          have hf := blk_frozen hblk i
          have HBLK := Aside0.mk hblk
          clear hblk
          go_wp2
          go_roundw
          case rel => exact ⟨i + 1, by omega, by go_num, blk_put HBLK.out i _ (batch_table.cs_next i hlt), ⟨below_set HB.out (Nat.le_refl _)⟩⟩
          case measure => simp [intOf]; omega
    · obtain rfl : i = 256 := by omega
      have hsz : (batch_table.cs 256).size = 256 := by unfold batch_table.cs; simp
      have hi : (Try.prog.info? 115).map (·.size) = some (batch_table.cs 256).size := by rw [hsz]; kernel_rfl
      have hall : (batch_table.cs 256).all (·.oneCell') = true := by
        rw [Array.all_eq_true]
        intro j hj
        have := batch_table.cs_at 256 j
        rw [Array.getElem?_eq_getElem hj, if_pos (by omega)] at this
        rw [Option.some.inj this]; rfl
      go_wp2
      refine wp_load_row 115 (.tmp 0) rfl w.heap.size rfl 115 _ (0, 0) _ HBLK.out Try.underlying115 rfl hi ?_
      have hst : (storeCells ⟨w.heap.size, 0, none⟩ (batch_table.cs 256).toList).run Try.prog wr = .ok () wr := by
        have := run_storeCells_from (P := Try.prog) w.heap.size 115 (batch_table.cs 256).toList 0 (batch_table.cs 256) wr HBLK.out (by simp) (fun v hv => (Array.all_eq_true_iff_forall_mem.1 hall) v (by simpa using hv))
        rw [List.take_zero, List.nil_append, Array.toArray_toList, setRow_same HBLK.out] at this
        exact this
      go_wp2
      refine bodyPost_ret (results_single rfl (.cell w.heap.size 115 (batch_table.cs 256) (0, 0) _ rfl HBLK.out Try.underlying115 rfl hi .nil)) rfl ⟨rfl, HB.out⟩

def batch_Sum.one (n c : Int) : Int := Go.bits .xor .u32 (n / 256) (batch_table.T (Go.bits .xor .u8 (n % 256) c))
def batch_Sum.go (l : List Int) (n : Int) : Int := l.foldl batch_Sum.one n
def batch_Sum.f (l0 : List Int) : Option Int := if l0.length ≤ 1000000000000 then some (Go.bits .xor .u32 IntKind.u32.max (batch_Sum.go l0 4294967295)) else none
theorem batch_Sum.go_next (l : List Int) (i : Nat) (h : i < l.length) : batch_Sum.go (l.take (i + 1)) 4294967295 = batch_Sum.one (batch_Sum.go (l.take i) 4294967295) l[i] := by
  unfold batch_Sum.go
  rw [List.take_succ_eq_append_getElem h, List.foldl_append]
  rfl
set_option maxHeartbeats 4000000 in
set_option maxRecDepth 100000 in
theorem batch_Sum.walk (A0 : Option Addr) (c0 : Nat) (l0 : List Int) (w : World) (hr0 : Kd.C (Kd.int .u8) w A0 l0.length l0) (hc0 : l0.length ≤ c0) (hlen : l0.length ≤ 1000000000000) : Calls Try.prog 52 #[.slice A0 l0.length c0] w fun e w' => e = .returned (.int .u32 (Go.bits .xor .u32 IntKind.u32.max (batch_Sum.go l0 4294967295))) ∧ Below w.heap.size w w' := by
  have hz : ∀ W, (zeroValue 115).run Try.prog W = .ok (.agg (Array.replicate 256 (.int .u32 0))) W := fun _ => by kernel_rfl
  have hsz : (batch_table.cs 256).size = 256 := by unfold batch_table.cs; simp
  have hi : (Try.prog.info? 115).map (·.size) = some (batch_table.cs 256).size := by rw [hsz]; kernel_rfl
  have hall : (batch_table.cs 256).all (·.oneCell') = true := by
    rw [Array.all_eq_true]
    intro j hj
    have := batch_table.cs_at 256 j
    rw [Array.getElem?_eq_getElem hj, if_pos (by omega)] at this
    rw [Option.some.inj this]; rfl
  have hst : ∀ w1 : World, (storeCells ⟨w1.heap.size, 0, none⟩ (batch_table.cs 256).toList).run Try.prog (w1.alloc (.cells (Array.replicate 256 (.int .u32 0)) 115)) = .ok () (w1.alloc (.cells (batch_table.cs 256) 115)) := fun w1 => Go.run_storeCells_new (P := Try.prog) w1 115 (Array.replicate 256 (.int .u32 0)) (batch_table.cs 256) hi (by rw [hsz]; simp) hall
  have HR := Aside0.mk hr0
  clear hr0
  go_enter Try.func52, Try.ntmps52
  go_wp2_with (go_at_call 59; refine (batch_table.calls _).mono ?_; rintro e w1 ⟨rfl, hb⟩; have HB1 := Aside0.mk hb; clear hb)
  go_loopw [4, 10] (fun v u wr => ∃ i : Nat, i ≤ l0.length ∧ v = .int .u32 (batch_Sum.go (l0.take i) 4294967295) ∧ u = .int .i64 i ∧ Aside0 (wr.heap[w1.heap.size]? = some (.cells (batch_table.cs 256) 115 (0, 0))) ∧ Aside0 (Below w.heap.size w wr)) (fun _ u _ => l0.length - (intOf u).toNat)
  case atStart => exact ⟨0, Nat.zero_le _, rfl, rfl, ⟨(MapKept.heap_alloc w1 _).1⟩, ⟨below_alloc HB1.out _⟩⟩
  case round =>
    obtain ⟨i, hi, rfl, rfl, HBLK, HB⟩ := hrel
    by_cases hlt : i < l0.length
    · obtain ⟨ad, rfl, hx0⟩ := Kd.at_int HR.out (i : Int) (by omega) (by omega)
      replace hx0 := (HB.out.cell (World.block_lt_of_cell? w _ hx0)).trans hx0
      rw [Int.toNat_natCast] at hx0
      have hnext := batch_Sum.go_next l0 i hlt
      have hrd : Go.Proofs.YtniadlnbjgodnaaW.PrintWords.rd l0 (i : Int) = l0[i] := by simp [Go.Proofs.YtniadlnbjgodnaaW.PrintWords.rd, List.getElem?_eq_getElem hlt]
      rw [← hrd] at hnext
      have HNX := Aside0.mk hnext
      clear hnext hrd
      generalize Go.Proofs.YtniadlnbjgodnaaW.PrintWords.rd l0 (i : Int) = c at hx0 HNX
      generalize batch_Sum.go (l0.take i) 4294967295 = n at HNX ⊢
      obtain ⟨q, hq, hqe⟩ : ∃ q : Nat, q < 256 ∧ Go.bits .xor .u8 (n % 256) c = (q : Int) := by
        have h1 := bits_lo_u8 .xor (n % 256) c
        have h2 := bits_hi_u8 .xor (n % 256) c
        exact ⟨(Go.bits .xor .u8 (n % 256) c).toNat, by omega, by omega⟩
      have hcell : wr.cell? ⟨w1.heap.size, q, none⟩ = some (.int .u32 (batch_table.T q)) := (blk_cell HBLK.out q).trans (by rw [batch_table.cs_at, if_pos hq, if_pos hq])
      have HNX2 : Aside0 (batch_Sum.go (l0.take (i + 1)) 4294967295 = Go.bits .xor .u32 (n / 256) (batch_table.T q)) := ⟨by rw [HNX.out]; unfold batch_Sum.one; rw [hqe]⟩
      clear HNX
      go_wp2
      go_roundw
      case rel => exact ⟨i + 1, by omega, by rw [HNX2.out], by go_num, HBLK, HB⟩
      case measure => simp [intOf]; omega
    · obtain rfl : i = l0.length := by omega
      rw [List.take_length]
      go_wp2
      go_ret
      exact ⟨rfl, HB.out⟩
section
/-- The check sum of bytes, as the program finds it. -/
def sumF (l : List Int) : Int := Go.bits .xor .u32 IntKind.u32.max (batch_Sum.go l 4294967295)
def num4 (x : Int) : List Int := [x % 256, x / 256 % 256, x / 65536 % 256, x / 16777216]
def lay7 (n i N : Int) (len : Nat) : List Int := num4 n ++ [i, N, (len : Int)]
def lay60 (n i N : Int) (b : List Int) : List Int := lay7 n i N b.length ++ b ++ List.replicate (53 - b.length) 0
/-- A record's part. -/
def lay (n i N : Int) (b : List Int) : Bk := ofB (lay60 n i N b ++ num4 (sumF (lay60 n i N b)))
theorem lay60_len (n i N : Int) (b : List Int) (hb : b.length ≤ 53) : (lay60 n i N b).length = 60 := by simp [lay60, lay7, num4]; omega
theorem ofB_l {l : List Int} (h : l.length = 64) : (ofB l).l = l := by
  rw [ofB]
  show List.take 64 l ++ List.replicate (64 - (List.take 64 l).length) 0 = l
  rw [List.take_of_length_le (by omega), h]
  simp
theorem lay_l (n i N : Int) (b : List Int) (hb : b.length ≤ 53) : (lay n i N b).l = lay60 n i N b ++ num4 (sumF (lay60 n i N b)) := ofB_l (by rw [List.length_append, lay60_len n i N b hb]; rfl)
def bcs (l : List Int) : Array Value := (l.map (Value.int .u8)).toArray
theorem bcs_size (l : List Int) : (bcs l).size = l.length := by simp [bcs]
theorem bcs_set (l : List Int) (i : Nat) (x : Int) : (bcs l).setIfInBounds i (.int .u8 x) = bcs (l.set i x) := by simp [bcs, List.map_set]
theorem bcs_all (l : List Int) : (bcs l).all (·.oneCell') = true := by
  rw [Array.all_eq_true_iff_forall_mem]
  intro x hx
  obtain ⟨y, _, rfl⟩ : ∃ y, y ∈ l ∧ Value.int .u8 y = x := by simpa [bcs] using hx
  rfl
theorem bk_bcs (b : Bk) : b.cs.toArray = bcs b.l := rfl
def lset4 (l : List Int) (off : Nat) (x : Int) : List Int := (((l.set off (x % 256)).set (off + 1) (x / 256 % 256)).set (off + 2) (x / 65536 % 256)).set (off + 3) (x / 16777216)
theorem set4_bcs (l : List Int) (off : Nat) (x : Int) : set4 (bcs l) off x = bcs (lset4 l off x) := by simp only [set4, bcs_set, lset4]
theorem lset4_start (x : Int) : lset4 Bk.z.l 0 x = num4 x ++ List.replicate 60 0 := rfl
theorem lset4_end (p : List Int) (hp : p.length = 60) (a b c d x : Int) : lset4 (p ++ [a, b, c, d]) 60 x = p ++ num4 x := by
  simp only [lset4]
  rw [List.set_append_right _ _ (by omega), hp, List.set_append_right _ _ (by omega), hp, List.set_append_right _ _ (by omega), hp, List.set_append_right _ _ (by omega), hp]
  rfl
theorem run_copy_row {P : Program} (w : World) (dT sT ty elem t : TypeId) (g o dLen dCap : Nat) (a : Addr) (sLen sCap : Nat) (cur : Array Value) (cs : List Value)
    (hg : w.heap[g]? = some (.cells cur t (0, 0))) (hu : P.underlying dT = some (.slice elem)) (hs : (P.info? elem).map (·.size) = some 1) (hn : cs.length = Nat.min sLen dLen)
    (hsrc : ∀ j v, cs[j]? = some v → w.cell? (a.add j) = some v) (ho : o + cs.length ≤ cur.size) (h1 : ∀ v ∈ cs, v.oneCell' = true) :
    (Builtin.copy_ #[dT, sT] ty #[.slice (some ⟨g, o, none⟩) dLen dCap, .slice (some a) sLen sCap]).run P w = .ok (goInt cs.length) (w.setRow g (cur.toList.take o ++ cs ++ cur.toList.drop (o + cs.length)).toArray) := by
  have hl := run_loadCells_list (P := P) w a cs hsrc
  have hst := run_storeCells_mid (P := P) g t cs o cur w hg ho h1
  have e := storeCells_shift g o cs 0
  rw [Nat.add_zero] at e
  rw [← e] at hst
  cases hq : P.info? elem with
  | none => simp [hq] at hs
  | some i =>
    have hi : i.size = 1 := by simpa [hq] using hs
    simp [Builtin.copy_, run_underlying hu, Builtin.lenOf, Builtin.firstCells, sizeOf, typeInfo, hq, hi, ← hn, hl, hst]
theorem copy_exec {P : Program} {o : Oper} {ev : Operand → Value} {w w' : World} {t1 t2 : TypeId} {x y : Operand} {v1 v2 : Value} {n : Value} (ho : o.op = .call { callee := .builtin .copy, args := #[x, y], argTypes := #[t1, t2] }) (hx : ev x = v1) (hy : ev y = v2)
    (h : ∀ ty, (Builtin.copy_ #[t1, t2] ty #[v1, v2]).run P w = .ok n w') : (execOp ev o).run P w = .ok (.value n) w' := by
  unfold execOp
  simp [ho, resolve, invoke, builtin, hx, hy, h, Result.andThen]
theorem below_eq {B : Nat} {w w1 w2 : World} (h : Below B w w1) (e : w1 = w2) : Below B w w2 := e ▸ h
theorem u8_one : (Try.prog.info? 5).map (·.size) = some 1 := by kernel_rfl
theorem by_und : Try.prog.underlying 38 = some (.slice 5) := by kernel_rfl
/-- The bytes of a block from o on, read. -/
theorem bcs_C {w : World} {g t o n : Nat} {l : List Int} (h : w.heap[g]? = some (.cells (bcs l) t (0, 0))) (hn : o + n ≤ l.length) (h64 : n ≤ 64) : Kd.C (Kd.int .u8) w (some ⟨g, o, none⟩) ((l.drop o).take n).length ((l.drop o).take n) := by
  refine ⟨rfl, by rw [List.length_take, List.length_drop]; omega, fun _ => ⟨⟨g, o, none⟩, rfl, fun j p hj => ?_⟩⟩
  refine ⟨[.int .u8 p], rfl, rfl, fun i u hi => ?_⟩
  have hj2 : j < n ∧ l[o + j]? = some p := by
    rw [List.getElem?_take] at hj
    by_cases c : j < n
    · rw [if_pos c, List.getElem?_drop] at hj; exact ⟨c, hj⟩
    · rw [if_neg c] at hj; cases hj
  have hi0 : i = 0 := by
    cases i with
    | zero => rfl
    | succ i => simp at hi
  subst hi0
  have hu : u = .int .u8 p := by simpa using hi.symm
  subst hu
  have e : (Kd.int .u8).sz = 1 := rfl
  rw [e, Nat.mul_one, Nat.add_zero, add_off, blk_cell h]
  simp [bcs, hj2.2]
theorem C_cells {w : World} {A : Option Addr} {l : List Int} (h : Kd.C (Kd.int .u8) w A l.length l) (hl : 0 < l.length) : ∃ ad, A = some ad ∧ ∀ j v, (l.map (Value.int .u8))[j]? = some v → w.cell? (ad.add j) = some v := by
  obtain ⟨ad, e, hc⟩ := h.2.2 hl
  refine ⟨ad, e, fun j v hj => ?_⟩
  rw [List.getElem?_map] at hj
  obtain ⟨p, hp, rfl⟩ := Option.map_eq_some_iff.1 hj
  obtain ⟨c, h1, h2, h3⟩ := hc j p hp
  have h2 : c = [.int .u8 p] := h2
  subst h2
  have := h3 0 (.int .u8 p) rfl
  rwa [show j * (Kd.int .u8).sz + 0 = j from by show j * 1 + 0 = j; omega] at this
variable {w : World}
theorem j_Sum {A : Option Addr} {c : Nat} {l : List Int} (hC : Kd.C (Kd.int .u8) w A l.length l) (hc : l.length ≤ c) (hl : l.length ≤ 1000000000000) : Calls Try.prog 52 #[.slice A l.length c] w fun e w' => e = .returned (.int .u32 (sumF l)) ∧ Below w.heap.size w w' := batch_Sum.walk A c l w hC hc hl
theorem sumF_lo (l : List Int) : 0 ≤ sumF l ∧ sumF l < 4294967296 := by
  unfold sumF
  have e1 := bits_lo_u32 .xor IntKind.u32.max (batch_Sum.go l 4294967295)
  have e2 := bits_hi_u32 .xor IntKind.u32.max (batch_Sum.go l 4294967295)
  omega
theorem j_Sum60 {g t n : Nat} {l p : List Int} (h : w.heap[g]? = some (.cells (bcs l) t (0, 0))) (hp : l.take 60 = p) (hl : l.length = 64) (hn : n = 60) : Calls Try.prog 52 #[.slice (some ⟨g, 0, none⟩) n 64] w fun e w' => e = .returned (.int .u32 (sumF p)) ∧ Below w.heap.size w w' := by
  have := bcs_C (o := 0) (n := 60) h (by omega) (by omega)
  rw [List.drop_zero, hp] at this
  have e : p.length = 60 := by rw [← hp, List.length_take]; omega
  subst hn
  rw [← e]
  exact j_Sum this (by omega) (by omega)
theorem j_copy {g t c : Nat} {p b : List Int} {A : Option Addr} (h : w.heap[g]? = some (.cells (bcs (p ++ List.replicate 57 0)) t (0, 0))) (hp : p.length = 7) (hC : Kd.C (Kd.int .u8) w A b.length b) (hb : b.length ≤ 53) (ty : TypeId) :
    (Builtin.copy_ #[38, 38] ty #[.slice (some ⟨g, 7, none⟩) 57 57, .slice A b.length c]).run Try.prog w = .ok (goInt b.length) (w.setRow g (bcs (p ++ b ++ List.replicate (57 - b.length) 0))) := by
  by_cases h0 : b = []
  · subst h0
    rw [run_copy_none w 38 38 ty 5 _ _ _ _ _ _ by_und u8_one (by simp)]
    simp only [List.append_nil, List.length_nil, Nat.sub_zero]
    rw [setRow_same h]
    rfl
  · obtain ⟨ad, rfl, hc⟩ := C_cells hC (by cases b <;> simp_all)
    rw [run_copy_row (cs := b.map (Value.int .u8)) w 38 38 ty 5 t g 7 57 57 ad b.length c _ h by_und u8_one (by rw [List.length_map]; exact (Nat.min_eq_left (by omega)).symm) hc (by rw [bcs_size, List.length_map, List.length_append, hp, List.length_replicate]; omega) (fun v hv => by obtain ⟨x, _, rfl⟩ := List.mem_map.1 hv; rfl)]
    rw [List.length_map]
    congr 2
    have e : (p ++ List.replicate 57 (0 : Int)).drop (7 + b.length) = List.replicate (57 - b.length) 0 := by
      rw [List.drop_append, List.drop_of_length_le (by omega), hp, List.drop_replicate, List.nil_append]
      congr 1
      omega
    have e2 : (p ++ List.replicate 57 (0 : Int)).take 7 = p := by rw [List.take_append_of_le_length (by omega), List.take_of_length_le (by omega)]
    simp only [bcs]
    rw [← List.map_take, ← List.map_drop, e2, e, ← List.map_append, ← List.map_append]
theorem lay_full (n i N : Int) (b : List Int) (hb : b.length ≤ 53) : lay7 n i N b.length ++ b ++ List.replicate (57 - b.length) 0 = lay60 n i N b ++ [0, 0, 0, 0] := by
  rw [lay60, List.append_assoc _ (List.replicate _ _)]
  congr 1
  rw [show 57 - b.length = (53 - b.length) + 4 by omega, ← List.replicate_append_replicate]
  rfl
theorem num_end {w1 : World} {g t : Nat} {q : List Int} {s : Int} (h : w.heap[g]? = some (.cells (bcs (q ++ [0, 0, 0, 0])) t (0, 0))) (hq : q.length = 60) (e : w1 = w.setRow g (set4 (bcs (q ++ [0, 0, 0, 0])) 60 s)) : w1.heap[g]? = some (.cells (bcs (q ++ num4 s)) t (0, 0)) := by
  rw [e, set4_bcs, lset4_end q hq]
  exact setRow_heap _ _ _ _ _ _ h
theorem j_sum_end {w0 : World} {p : Nat} (tmps : Array Value) (b : Bk) (hp : tmps.getD 8 undef = .pointer (some ⟨p, 0, none⟩)) (h : Below w0.heap.size w0 w) (hk : w.heap[p]? = some (.cells b.cs.toArray 46 (0, 0))) :
    bodyPost Try.prog Try.f40 (fun e w' => e = .returned b.v ∧ Below w0.heap.size w0 w') .ret { tmps := tmps, defers := [] } w :=
  bodyPost_ret (results_single rfl (.cell p 46 b.cs.toArray (0, 0) _ hp hk bk_und rfl (by rw [bk_info, bk_sz]) .nil)) rfl ⟨rfl, h⟩
set_option maxHeartbeats 8000000 in
set_option maxRecDepth 100000 in
theorem j_laid {A : Option Addr} {c : Nat} {b : List Int} (hC : Kd.C (Kd.int .u8) w A b.length b) (hb : b.length ≤ 53) (n i N : Int) (hn : 0 ≤ n ∧ n < 4294967296) (hi : 0 ≤ i ∧ i < 256) (hN : 0 ≤ N ∧ N < 256) :
    Calls Try.prog 40 #[.int .i64 n, .int .i64 i, .int .i64 N, .slice A b.length c] w fun e w' => e = .returned (lay n i N b).v ∧ Below w.heap.size w w' := by
  have hb0 := below_alloc (Below.refl w.heap.size w) (.cells Bk.z.cs.toArray 46)
  have hk0 := blk_new w (.cells Bk.z.cs.toArray 46)
  have hC0 := Kd.C_below hC hb0
  go_enter Try.func40, Try.ntmps40
  go_wp2_with fail
  change Calls _ _ _ (w.alloc (.cells Bk.z.cs.toArray 46)) _
  generalize w.alloc (.cells Bk.z.cs.toArray 46) = w1 at hb0 hk0 hC0 ⊢
  refine (j_number (g := w.heap.size) (off := 0) (n := 64) (t := 46) hk0 (by rw [bk_sz]; omega) (by omega) n hn).mono ?_
  rintro e w2 ⟨rfl, hw⟩
  have hk1 := setRow_heap w1 w.heap.size Bk.z.cs.toArray (set4 Bk.z.cs.toArray 0 n) 46 (0, 0) hk0
  have hb1 := row_below hb0 (Nat.le_refl _) (set4 Bk.z.cs.toArray 0 n)
  rw [bk_bcs, set4_bcs, lset4_start] at hk1 hb1 hw
  have HC := Aside0.mk hC
  rw [← hw] at hk1 hb1
  have HB := Aside0.mk hb1
  have HK := Aside0.mk hk1
  clear hk0 hb0 hC0 hC hk1 hb1 hw w1
  have c4 : w2.cell? ⟨w.heap.size, 4, none⟩ = some (.int .u8 0) := (blk_cell HK.out 4).trans rfl
  have c5 : w2.cell? ⟨w.heap.size, 5, none⟩ = some (.int .u8 0) := (blk_cell HK.out 5).trans rfl
  have c6 : w2.cell? ⟨w.heap.size, 6, none⟩ = some (.int .u8 0) := (blk_cell HK.out 6).trans rfl
  have f4 := blk_frozen HK.out 4
  have f5 := blk_frozen HK.out 5
  have f6 := blk_frozen HK.out 6
  go_wp2_with ((with_reducible refine gate_builtin (b := .copy) (xs := #[.tmp 23, .tmp 24]) rfl ?_); refine Shut.out ?_)
  unfold Shut
  rw [put_step HK.out]
  have hk1 := setRow_heap w2 w.heap.size _ ((bcs (num4 n ++ List.replicate 60 0)).setIfInBounds 4 (.int .u8 i)) 46 (0, 0) HK.out
  rw [put_step hk1, setRow_setRow]
  have hk2 := setRow_heap w2 w.heap.size _ (((bcs (num4 n ++ List.replicate 60 0)).setIfInBounds 4 (.int .u8 i)).setIfInBounds 5 (.int .u8 N)) 46 (0, 0) HK.out
  rw [put_step hk2, setRow_setRow]
  have e3 : ((((bcs (num4 n ++ List.replicate 60 0)).setIfInBounds 4 (.int .u8 i)).setIfInBounds 5 (.int .u8 N)).setIfInBounds 6 (.int .u8 b.length)) = bcs (lay7 n i N b.length ++ List.replicate 57 0) := by
    rw [bcs_set, bcs_set, bcs_set]
    rfl
  rw [e3]
  have hk3 := setRow_heap w2 w.heap.size _ (bcs (lay7 n i N b.length ++ List.replicate 57 0)) 46 (0, 0) HK.out
  have hb3 := row_below HB.out (Nat.le_refl _) (bcs (lay7 n i N b.length ++ List.replicate 57 0))
  have HC3 := Kd.C_below HC.out hb3
  refine wpl_value rfl (copy_exec rfl rfl rfl (fun ty => j_copy hk3 rfl HC3 hb ty)) ?_
  rw [setRow_setRow, lay_full n i N b hb]
  have BK8 := Aside0.mk (setRow_heap w2 w.heap.size _ (bcs (lay60 n i N b ++ [0, 0, 0, 0])) 46 (0, 0) HK.out)
  have HB' := Aside0.mk (row_below HB.out (Nat.le_refl _) (bcs (lay60 n i N b ++ [0, 0, 0, 0])))
  clear c4 c5 c6 f4 f5 f6 hk1 hk2 e3 hk3 hb3 HC3 HC HB HK
  generalize w2.setRow w.heap.size (bcs (lay60 n i N b ++ [0, 0, 0, 0])) = w3 at BK8 HB' ⊢
  have HB := HB'
  clear HB'
  have l60 := lay60_len n i N b hb
  obtain ⟨q, hq⟩ : ∃ q, q = lay60 n i N b := ⟨_, rfl⟩
  have hlay := lay_l n i N b hb
  rw [← hq] at BK8 l60 hlay
  go_wp2_with fail
  have n_HB := Aside0.mk (below_step HB.out (below_drew (Below.refl _ _)))
  have n_BK8 := Aside0.mk (blk_below BK8.out (below_drew (Below.refl _ _)))
  clear HB
  have HB := n_HB
  clear n_HB
  clear BK8
  have BK8 := n_BK8
  clear n_BK8
  refine start_ (n := 4) (S := fun w' => True) (ds := []) #[false, false, false, false] (by kernel_rfl) rfl rfl trivial (fun hHeld => ?_)
  generalize w3.drew = w4 at HB BK8 hHeld ⊢
  refine pure_ (i := 0) (N := some 26) (v := ?_) (a' := ?_) #[true, false, false, false] rfl rfl (by kernel_rfl) (fun _ _ _ h => h) (Or.inl ⟨by rfl, ?_⟩) ?_ ?_
  rotate_left
  · intro w'
    go_simp
    with_reducible rfl
  rotate_left
  · simp only [Act.put, List.setIfInBounds_toArray, List.set_cons_zero, List.set_cons_succ, i64_w, i32_w]
    rfl
  refine pure_ (i := 1) (N := some 27) (v := ?_) (a' := ?_) #[true, true, false, false] rfl rfl (by kernel_rfl) (fun _ _ _ h => h) (Or.inl ⟨by rfl, ?_⟩) ?_ ?_
  rotate_left
  · intro w'
    go_simp
    with_reducible rfl
  rotate_left
  · simp only [Act.put, List.setIfInBounds_toArray, List.set_cons_zero, List.set_cons_succ, i64_w, i32_w]
    rfl
  refine one_ (i := 2) (N := some 28) #[true, true, true, false] rfl rfl (by kernel_rfl) (by decide) (fun K hK => ?_)
  refine goes_ Try.func52 (by kernel_rfl) rfl #[.slice (some ⟨w.heap.size, 0, none⟩) 60 64] (by rfl) rfl rfl (by (try simp only [List.map_toArray, List.map_cons, List.map_nil]); first | done | rfl) ?_
  with_reducible refine (j_Sum60 BK8.out (List.take_left' l60) (by simp [l60]) rfl).mono ?_
  rintro e y1_ ⟨rfl, hb⟩
  refine ⟨_, rfl, ?_⟩
  have n_HB := Aside0.mk (below_step HB.out hb)
  have n_BK8 := Aside0.mk (blk_below BK8.out hb)
  clear HB
  have HB := n_HB
  clear n_HB
  clear BK8
  have BK8 := n_BK8
  clear n_BK8
  clear hb
  refine hK.out _ _ trivial (fun hHeld => ?_)
  clear hK K
  refine norm_ (a' := ?_) ?_ ?_
  rotate_left
  · show Act.put _ (some 28) _ = _
    simp only [Act.put, List.setIfInBounds_toArray, List.set_cons_zero, List.set_cons_succ, i64_w, i32_w]
    rfl
  refine one_ (i := 3) (N := some 29) #[true, true, true, true] rfl rfl (by kernel_rfl) (by decide) (fun K hK => ?_)
  refine goes_ Try.func51 (by kernel_rfl) rfl #[.slice (some ⟨w.heap.size, 60, none⟩) 4 4, .int .u32 (sumF q)] (by rfl) rfl rfl (by (try simp only [List.map_toArray, List.map_cons, List.map_nil]); first | done | rfl) ?_
  with_reducible refine (j_number (off := 60) BK8.out (by simp [bcs_size, l60]) (by omega) (sumF q) (sumF_lo q)).mono ?_
  rintro e y2_ ⟨rfl, hb⟩
  refine ⟨_, rfl, ?_⟩
  have m_HB := Aside0.mk (below_eq (row_below HB.out (Nat.le_refl _) _) hb.symm)
  have m_BK8 := Aside0.mk (num_end BK8.out l60 hb)
  clear hb
  clear HB
  clear BK8
  have HB := m_HB
  clear m_HB
  have BK8 := m_BK8
  clear m_BK8
  refine hK.out _ _ trivial (fun hHeld => ?_)
  clear hK K
  refine norm_ (a' := ?_) ?_ ?_
  rotate_left
  · show Act.put _ (some 29) _ = _
    simp only [Act.put, List.setIfInBounds_toArray, List.set_cons_zero, List.set_cons_succ, i64_w, i32_w]
    rfl
  refine done_ (by kernel_rfl) ?_
  have hbk : (bcs (q ++ num4 (sumF q))) = (lay n i N b).cs.toArray := by rw [← hlay]; rfl
  rw [hbk] at BK8
  clear hHeld
  go_wp2_with (first | ((with_reducible refine gate_dst (N := 30) rfl ?_); refine wpl_ldbk 46 _ w.heap.size (lay n i N b) 46 (0, 0) _ _ rfl rfl rfl BK8.out bk_und bk_info ?_) | ((with_reducible refine gate_store (t := 46) (p := 8) (v := .tmp 30) rfl ?_); refine wpl_stbk 46 _ _ w.heap.size (lay n i N b) 46 (lay n i N b) rfl rfl rfl rfl rfl BK8.out bk_info ?_))
  exact j_sum_end _ _ rfl (row_below HB.out (Nat.le_refl _) _) (setRow_heap _ _ _ _ _ _ BK8.out)
end
section
variable {w : World}
theorem lit0_R (W : World) (B : Nat) (hB : B ≤ W.heap.size) : Kd.R (Kd.int .u8) 5 (W.alloc (.cells #[] 5)) B (fun _ => True) (.slice (some ⟨W.heap.size, 0, none⟩) 0 0) [] := by
  refine Kd.R_of_own ?_ (fun _ _ => trivial)
  exact own_lit W B 5 .u8 [] hB (by simp)
theorem nil_eq (A : Option Addr) (l c : Nat) (W : World) : (binOp .eql 38 (.slice A l c) (.slice none 0 0)).run Try.prog W = .ok (.bool A.isNone) W := by
  have h : Try.prog.underlying 38 = some (.slice 5) := by kernel_rfl
  have h3 : ∀ d : Nat, (Op.equalIn (d + 1) 38 (.slice A l c) (.slice none 0 0)).run Try.prog W = .ok A.isNone W := fun d => by cases A <;> simp [Op.equalIn, run_underlying h]
  have h2 := h3 9999
  simp only [binOp]
  simp [Op.equal, Op.maxDepth, h2]
theorem u_info : (Try.prog.info? 5).map (fun i => (i.zero, i.size, i.bytes)) = some (some (.int .u8 0), 1, 1) := by kernel_rfl
theorem by_und' : Try.prog.underlying 38 = some (.slice 5) := by kernel_rfl
set_option maxHeartbeats 8000000 in
set_option maxRecDepth 100000 in
theorem s_Clone {A : Option Addr} {c : Nat} {b : List Int} (hC : Kd.C (Kd.int .u8) w A b.length b) (hc : b.length ≤ c) (hl : b.length ≤ 1000000000) :
    Calls Try.prog 57 #[.slice A b.length c] w fun e w' => ∃ v, e = .returned v ∧ Kd.R (Kd.int .u8) 5 w' w.heap.size (fun _ => True) v b ∧ Below w.heap.size w w' := by
  cases A with
  | none =>
    have h0 : b = [] := by
      cases b with
      | nil => rfl
      | cons x b => obtain ⟨ad, e, _⟩ := hC.2.2 (by simp); cases e
    subst h0
    have hq := fun W => nil_eq none 0 c W
    go_enter Try.func57, Try.ntmps57
    go_wp2_with fail
    go_ret
    exact ⟨_, rfl, Kd.R_nil _ _ _ _ _, Below.refl _ _⟩
  | some ad =>
    have hq := fun W => nil_eq (some ad) b.length c W
    have HC := Aside0.mk (Kd.C_below hC (below_alloc (Below.refl w.heap.size w) (.cells #[] 5)))
    have HB := Aside0.mk (below_alloc (Below.refl w.heap.size w) (.cells #[] 5))
    have HR := Aside0.mk (lit0_R w w.heap.size (Nat.le_refl _))
    clear hC
    go_enter Try.func57, Try.ntmps57
    go_wp2_with ((with_reducible refine gate_builtin (b := .append) (xs := #[.tmp 5, .tmp 6]) rfl ?_); refine Shut.out ?_)
    unfold Shut
    refine Kd.R_append_row (w0 := w) (Value.int .u8) 0 w.heap.size rfl (.tmp 5) (.tmp 6) 38 5 (.int .u8 0) 1 rfl by_und' u_info rfl (by omega) (.slice (some ⟨w.heap.size, 0, none⟩) 0 0) [] b (some ad) b.length c (fun _ => True) rfl rfl (fun _ _ => trivial) HR.out HC.out HB.out (by simp) (by simp; omega) ?_
    intro v1 w1 hR hb _ _
    have HR' := Aside0.mk hR
    have HB' := Aside0.mk hb
    clear hR hb HR HB HC
    go_wp2_with fail
    go_ret
    exact ⟨_, rfl, HR'.out, HB'.out⟩
set_option maxHeartbeats 8000000 in
set_option maxRecDepth 100000 in
theorem b_Clone {A : Option Addr} {c : Nat} {b : List Int} (hC : Kd.C (Kd.int .u8) w A b.length b) (hc : b.length ≤ c) (hl : b.length ≤ 1000000000) :
    Calls Try.prog 41 #[.slice A b.length c] w fun e w' => ∃ v, e = .returned v ∧ Kd.R (Kd.int .u8) 5 w' w.heap.size (fun _ => True) v b ∧ Below w.heap.size w w' := by
  cases A with
  | none =>
    have h0 : b = [] := by
      cases b with
      | nil => rfl
      | cons x b => obtain ⟨ad, e, _⟩ := hC.2.2 (by simp); cases e
    subst h0
    have hq := fun W => nil_eq none 0 c W
    go_enter Try.func41, Try.ntmps41
    go_wp2_with fail
    go_ret
    exact ⟨_, rfl, Kd.R_nil _ _ _ _ _, Below.refl _ _⟩
  | some ad =>
    have hq := fun W => nil_eq (some ad) b.length c W
    have HC := Aside0.mk (Kd.C_below hC (below_alloc (Below.refl w.heap.size w) (.cells #[] 5)))
    have HB := Aside0.mk (below_alloc (Below.refl w.heap.size w) (.cells #[] 5))
    have HR := Aside0.mk (lit0_R w w.heap.size (Nat.le_refl _))
    clear hC
    go_enter Try.func41, Try.ntmps41
    go_wp2_with ((with_reducible refine gate_builtin (b := .append) (xs := #[.tmp 5, .tmp 6]) rfl ?_); refine Shut.out ?_)
    unfold Shut
    refine Kd.R_append_row (w0 := w) (Value.int .u8) 0 w.heap.size rfl (.tmp 5) (.tmp 6) 38 5 (.int .u8 0) 1 rfl by_und' u_info rfl (by omega) (.slice (some ⟨w.heap.size, 0, none⟩) 0 0) [] b (some ad) b.length c (fun _ => True) rfl rfl (fun _ _ => trivial) HR.out HC.out HB.out (by simp) (by simp; omega) ?_
    intro v1 w1 hR hb _ _
    have HR' := Aside0.mk hR
    have HB' := Aside0.mk hb
    clear hR hb HR HB HC
    go_wp2_with fail
    go_ret
    exact ⟨_, rfl, HR'.out, HB'.out⟩
set_option maxHeartbeats 8000000 in
set_option maxRecDepth 100000 in
theorem s_Grow (n : Nat) (hl : n ≤ 1000000000) : Calls Try.prog 58 #[.slice none 0 0, .int .i64 n] w fun e w' => ∃ v, e = .returned v ∧ Kd.R (Kd.int .u8) 5 w' w.heap.size (fun _ => True) v [] ∧ Below w.heap.size w w' := by
  by_cases h0 : n = 0
  · subst h0
    go_enter Try.func58, Try.ntmps58
    go_wp2_with fail
    go_ret
    exact ⟨_, rfl, Kd.R_nil _ _ _ _ _, Below.refl _ _⟩
  · have h1 : 0 < n := by omega
    have h0' : ¬ ((n : Int) < 0) := by omega
    go_enter Try.func58, Try.ntmps58
    go_wp2_with ((with_reducible refine gate_builtin (b := .append) (xs := #[.tmp 20, .tmp 21]) rfl ?_); refine Shut.out ?_)
    unfold Shut
    refine Kd.R_append_zeros (w0 := w) (Kd.int .u8) w.heap.size rfl (.tmp 20) (.tmp 21) 38 3 5 (.int .u8 0) 1 rfl by_und' (k := .i64) (by kernel_rfl) u_info rfl (by show 0 < 1; omega) (by omega) (.slice none 0 0) [] 0 (n : Int) (fun _ => True) rfl rfl rfl (fun _ _ => trivial) (Kd.R_nil _ _ _ _ _) (by omega) (Below.refl _ _) (Nat.le_refl _) (by simp; omega) ?_
    intro v1 w1 hR hb _ _
    have HR := Aside0.mk hR
    have HB := Aside0.mk hb
    obtain ⟨A, c, hv⟩ := Kd.R_slice hR
    subst hv
    rw [List.nil_append, List.length_replicate, Int.toNat_natCast] at HR ⊢
    clear hR hb
    have hcap := (Kd.R_reads' HR.out).2.1
    go_wp2_with fail
    go_ret
    exact ⟨_, rfl, by simpa using Kd.R_take HR.out (m := 0) (Nat.zero_le _), HB.out⟩
end
section
variable {w : World}
theorem jat {w : World} {A : Option Addr} {n : Nat} {xs : List (List Int)} (h : Kd.C (Kd.slice 5 (Kd.int .u8)) w A n xs) (i : Nat) (h1 : i < xs.length) : ∃ ad A0 c0, A = some ad ∧ w.cell? (ad.add i) = some (.slice A0 xs[i].length c0) ∧ xs[i].length ≤ c0 ∧ (Kd.int .u8).C w A0 xs[i].length xs[i] := by
  obtain ⟨ad, c, e, _, hK, hc0⟩ := Kd.C_get h ([] : List Int) (i : Int) (by omega) (by have := h.1; omega)
  have hc : ∀ j u, c[j]? = some u → w.cell? (ad.add (i * 1 + j)) = some u := hc0
  obtain ⟨A0, c0, rfl, l0, g0⟩ := hK
  have e2 : rdOf ([] : List Int) xs (i : Int) = xs[i] := by simp [rdOf, List.getD, h1]
  have e3 : xs.getD (Int.toNat (i : Int)) [] = xs[i] := by simp [List.getD, h1]
  rw [e3] at hc l0 g0
  exact ⟨ad, A0, c0, e, by have hq := hc 0 _ rfl; rwa [Nat.mul_one, Nat.add_zero] at hq, l0, g0⟩
def tot (l : List (List Int)) : Nat := l.flatten.length
theorem tot_step (l : List (List Int)) (i : Nat) (hi : i < l.length) : tot (l.take (i + 1)) = tot (l.take i) + l[i].length := by
  rw [tot, tot, List.take_succ_eq_append_getElem hi, List.flatten_append, List.length_append]
  simp
theorem tot_le (l : List (List Int)) (i : Nat) : tot (l.take i) ≤ tot l := by
  have : l.flatten = (l.take i).flatten ++ (l.drop i).flatten := by rw [← List.flatten_append, List.take_append_drop]
  rw [tot, tot, this, List.length_append]
  omega
set_option maxHeartbeats 8000000 in
set_option maxRecDepth 100000 in
theorem s_Concat {A : Option Addr} {c : Nat} {l : List (List Int)} (hC : Kd.C (Kd.slice 5 (Kd.int .u8)) w A l.length l) (hc : l.length ≤ c) (hl : tot l ≤ 1000000000) (hn : l.length ≤ 1000000000) :
    Calls Try.prog 50 #[.slice A l.length c] w fun e w' => ∃ v, e = .returned v ∧ Kd.R (Kd.int .u8) 5 w' w.heap.size (fun _ => True) v l.flatten ∧ Below w.heap.size w w' := by
  have hC := Aside0.mk hC
  go_enter Try.func50, Try.ntmps50
  go_wp2_with fail
  go_loopw [3, 11] (fun v u wr => ∃ i : Nat, i ≤ l.length ∧ v = .int .i64 (tot (l.take i)) ∧ u = .int .i64 i ∧ w = wr) (fun _ u _ => l.length - (intOf u).toNat)
  case atStart => exact ⟨0, Nat.zero_le _, rfl, rfl, rfl⟩
  case round =>
    obtain ⟨i, hi, rfl, rfl, rfl⟩ := hrel
    by_cases hlt : i < l.length
    · obtain ⟨ad, A0, c0, rfl, hx, _, _⟩ := jat hC.out i hlt
      have hs := tot_step l i hlt
      have ht := tot_le l (i + 1)
      have hs2 : ((tot (l.take (i + 1)) : Nat) : Int) = (tot (l.take i) : Int) + (l[i].length : Int) := by omega
      replace hs := Aside0.mk hs
      have hneg : ¬ ((tot (l.take i) : Int) + (l[i].length : Int) < 0) := by omega
      have hbig : (tot (l.take i) : Int) + (l[i].length : Int) ≤ 1000000000 := by omega
      replace hs2 := Aside0.mk hs2
      generalize l[i].length = m at hx hneg hbig hs hs2
      go_wp2_with fail
      go_roundw
      case rel => exact ⟨i + 1, by omega, by rw [hs2.out], by go_num, by first | trivial | rfl⟩
      case measure => simp [intOf]; omega
    · obtain rfl : i = l.length := by omega
      rw [List.take_length]
      go_wp2_with fail
      refine (s_Grow (tot l) hl).mono ?_
      rintro e w1 ⟨v, rfl, hR, hb⟩
      have HR := Aside0.mk hR
      have HB := Aside0.mk hb
      clear hR hb
      go_wp2_with fail
      go_loopw [6, 27] (fun v u wr => ∃ i : Nat, i ≤ l.length ∧ Aside0 (Kd.R (Kd.int .u8) 5 wr w.heap.size (fun _ => True) v (l.take i).flatten) ∧ u = .int .i64 i ∧ Aside0 (Below w.heap.size w wr)) (fun _ u _ => l.length - (intOf u).toNat)
      case atStart => exact ⟨0, Nat.zero_le _, ⟨by simpa using HR.out⟩, rfl, HB⟩
      case round =>
        clear HR HB
        obtain ⟨i, hi, HR, rfl, HB⟩ := hrel
        by_cases hlt : i < l.length
        · obtain ⟨ad, A0, c0, hA, hx, hle, hC0⟩ := jat (Kd.C_below hC.out HB.out) i hlt
          subst hA
          have HC0 := Aside0.mk hC0
          clear hC0
          go_wp2_with ((with_reducible refine gate_builtin (b := .append) (xs := #[.tmp 31, .tmp 32]) rfl ?_); refine Shut.out ?_)
          unfold Shut
          have ht := tot_le l (i + 1)
          rw [tot_step l i hlt] at ht
          unfold tot at ht hl
          refine Kd.R_append_row (w0 := w) (Value.int .u8) 0 w.heap.size rfl (.tmp 31) (.tmp 32) 38 5 (.int .u8 0) 1 rfl by_und' u_info rfl (by omega) _ _ l[i] A0 l[i].length c0 (fun _ => True) rfl rfl (fun _ _ => trivial) HR.out HC0.out HB.out HB.out.size (by omega) ?_
          intro v1 w2 hR hb _ _
          have HR' := Aside0.mk hR
          have HB' := Aside0.mk hb
          clear hR hb HR HB HC0 hx
          go_wp2_with fail
          go_roundw
          case rel => exact ⟨i + 1, by omega, ⟨by rw [List.take_succ_eq_append_getElem hlt, List.flatten_append, List.flatten_singleton]; exact HR'.out⟩, by go_num, HB'⟩
          case measure => simp [intOf]; omega
        · obtain rfl : i = l.length := by omega
          rw [List.take_length] at HR
          go_wp2_with fail
          go_ret
          exact ⟨_, rfl, HR.out, HB.out⟩
end
section
variable {w : World}
theorem Mv.grown_new {F : Nat → Prop} {w w' w1 : World} {row : Option Nat} (h : Mv F F w w') (hg : w'.grownBy w1 row) (hr : ∀ k, row = some k → w.heap.size ≤ k) : Mv F F w w1 :=
  ⟨hg.os.trans h.os, hg.tape.trans h.tape, hg.output.trans h.output, Nat.le_trans h.size hg.size, fun k hk hF => (hg.block k (Nat.lt_of_lt_of_le hk h.size) (fun e => by have := hr k e.symm; omega)).trans (h.block k hk hF), fun k hk => .inl hk⟩
theorem lb_und : Try.prog.underlying 50 = some (.slice 38) := by kernel_rfl
theorem by_info : (Try.prog.info? 38).map (fun i => (i.zero, i.size, i.bytes)) = some (some (.slice none 0 0), 1, 24) := by kernel_rfl
/-- A row of rows of bytes, of its own. -/
def RB (w : World) (B : Nat) (ok : Nat → Prop) (v : Value) (l : List (List Int)) : Prop := Kd.R (Kd.slice 5 (Kd.int .u8)) 38 w B ok v l
set_option maxHeartbeats 8000000 in
set_option maxRecDepth 100000 in
theorem j_while {n start : Nat} {caps : Array Value} (hn : FnOk Try.prog n) (rows : List (List Int)) (hst : start + rows.length ≤ 1000000) (F : Nat → Prop) (hF : ∀ k, F k → k < w.heap.size) (I : Nat → World → Prop) (h0 : I 0 w)
    (hkeep : ∀ (i : Nat) w' w'', I i w' → (∀ k, k < w.heap.size → w''.heap[k]? = w'.heap[k]?) → I i w'')
    (hI : ∀ (i : Nat) w', i ≤ rows.length → Mv F F w w' → I i w' → Calls Try.prog n (#[.int .i64 ((start + i : Nat) : Int)] ++ caps) w' fun e w'' => ∃ v, e = .returned (.tuple #[v, .bool (decide (i < rows.length))]) ∧ (∀ h : i < rows.length, Kd.R (Kd.int .u8) 5 w'' w'.heap.size (fun _ => True) v rows[i]) ∧ Mv F F w' w'' ∧ I (i + 1) w'') :
    Calls Try.prog 33 #[.int .i64 start, .func (.func n) #[] caps] w fun e w' => ∃ v, e = .returned v ∧ RB w' w.heap.size (fun k => w.heap.size ≤ k) v rows ∧ Mv F F w w' ∧ I (rows.length + 1) w' := by
  replace h0 := Aside0.mk h0
  replace hI := Aside0.mk hI
  replace hkeep := Aside0.mk hkeep
  replace hF := Aside0.mk hF
  go_enter Try.func33, Try.ntmps33
  go_wp2_with fail
  go_loopw [0, 4] (fun u v wr => ∃ i : Nat, i ≤ rows.length ∧ u = .int .i64 ((start + i : Nat) : Int) ∧ Aside0 (RB wr w.heap.size (fun k => w.heap.size ≤ k) v (rows.take i)) ∧ Aside0 (Mv F F w wr) ∧ Aside0 (I i wr)) (fun u _ _ => rows.length + start - (intOf u).toNat)
  case atStart => exact ⟨0, Nat.zero_le _, rfl, ⟨Kd.R_nil _ _ _ _ _⟩, ⟨Mv.refl _ _⟩, h0⟩
  case round =>
    obtain ⟨i, hi, rfl, HR, HM, HI⟩ := hrel
    go_wp2_with ((with_reducible refine gate_dst (N := 10) rfl ?_); refine wpl_callv (.tmp 8) #[.tmp 9] _ rfl rfl n hn caps rfl _ rfl ?_)
    refine (hI.out i wr hi HM.out HI.out).mono ?_
    rintro e w2 ⟨vx, rfl, hx, hm, hi2⟩
    have HX := Aside0.mk hx
    have HR2 := Aside0.mk (Kd.R_step HR.out (fun k hk hlt => hm.block k hlt (fun hf => by have := hF.out k hf; omega)) : RB w2 w.heap.size (fun k => w.heap.size ≤ k) _ (rows.take i))
    have HM2 := Aside0.mk (HM.out.trans hm)
    have HI2 := Aside0.mk hi2
    have hsz := hm.size
    have hsz0 := HM.out.size
    obtain ⟨A, c, hA⟩ := Kd.R_slice HR.out
    subst hA
    have hne : ∀ k, (Value.slice A (rows.take i).length c).ownBlock = some k → k < wr.heap.size := fun k hk => by obtain ⟨inner, ho⟩ := Kd.R_own HR.out; exact own_lt ho k hk
    clear hx hm hi2 HR HM HI
    by_cases hlt : i < rows.length
    case neg =>
      obtain rfl : i = rows.length := by omega
      rw [List.take_length] at HR2
      rw [List.take_length] at *
      have hd : decide (rows.length < rows.length) = false := by simp
      rw [hd]
      refine ⟨_, rfl, ?_⟩
      go_wp2_with fail
      go_ret
      exact ⟨_, rfl, HR2.out, HM2.out, HI2.out⟩
    have hd : decide (i < rows.length) = true := by simpa using hlt
    have HX2 := Aside0.mk (HX.out hlt)
    rw [hd]
    obtain ⟨A2, c2, hv2⟩ := Kd.R_slice HX2.out
    subst hv2
    generalize hr : rows[i] = row at HX2
    clear hd HX
    refine ⟨_, rfl, ?_⟩
    go_wp2_with ((with_reducible refine gate_builtin (b := .append) (xs := #[.tmp 16, .tmp 18]) rfl ?_); refine Shut.out ?_)
    unfold Shut
    change wpList _ _ _ _ _ (w2.alloc (.cells [Value.slice A2 row.length c2].toArray 38))
    refine Kd.R_append (w0 := w2) (Kd.slice 5 (Kd.int .u8)) w.heap.size rfl (.tmp 16) (.tmp 18) 50 38 (.slice none 0 0) 24 rfl lb_und by_info rfl (by show 0 < 1; omega) (by omega) _ (rows.take i) row [Value.slice A2 row.length c2] (fun k => w.heap.size ≤ k) (fun k => wr.heap.size ≤ k) rfl rfl ?_ ?_ (fun k hk => by have := HM2.out.size; omega) HR2.out ?_ (by have := HM2.out.size; omega) ?_ ?_
    · exact ⟨_, rfl, Kd.R_lower (Kd.R_mono (Kd.R_bound HX2.out) (fun k hk => hk.2.1)) hsz0⟩
    · exact fun k hk => ⟨by omega, fun e => by have := hne k e.symm; omega⟩
    · exact Below.refl _ _
    · rw [List.length_take, Nat.min_eq_left hi]; omega
    intro v1 w3 hR hb hg hat
    have HR3 := Aside0.mk hR
    have HM3 := Aside0.mk (HM2.out.grown_new hg (fun k hk => by obtain ⟨inner, ho⟩ := Kd.R_own HR2.out; exact own_base ho k hk))
    have HI3 := Aside0.mk (hkeep.out (i + 1) w2 w3 HI2.out (fun k hk => hg.block k (by have := HM2.out.size; omega) (fun e => by obtain ⟨inner, ho⟩ := Kd.R_own HR2.out; have := own_base ho k e.symm; omega)))
    clear hR hb hg hat HR2 HM2 HI2 HX2
    rw [← hr] at HR3
    have HR4 := Aside0.mk (show RB w3 w.heap.size (fun k => w.heap.size ≤ k) v1 (rows.take (i + 1)) by rw [List.take_succ_eq_append_getElem hlt]; exact HR3.out)
    clear HR3
    go_wp2_with fail
    go_roundw
    case rel => exact ⟨i + 1, by omega, by go_num, HR4, HM3, HI3⟩
    case measure => simp [intOf]; omega
end
end Go.Proofs.Ytniadlnbjgodnaa.Print
