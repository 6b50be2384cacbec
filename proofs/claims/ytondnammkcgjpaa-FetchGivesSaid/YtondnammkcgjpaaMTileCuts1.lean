/- Here is proved: what tile.levels' function does, round by round, and what tile.Count answers. Conditions: none. -/
import Derived.RangeFuncNested
import Derived.RangeFuncBound
import Derived.RangeFuncCalls
import Derived.RangeFuncLeaves
import Derived.Shelf.Abstract
import Derived.Shelf.RegionOpen
import Derived.WalkKit
import Derived.OwnWalkIn
import Derived.TacticsInMore
import Derived.LoopNIn
import Derived.LoopIn
import Derived.Lib.Hide
import Derived.Test.YtondnammkcgjpaaMRangesOf2
import Derived.Test.YtondnammkcgjpaaProg
import Derived.Test.YtondnammkcgjpaaMRangesRoots1
import Derived.Deep.Slices
import Derived.ChangeSame
import Derived.OpenShut
import Derived.Test.YtondnammkcgjpaaWMore
import Derived.Test.YtondnammkcgjpaaWArr
import Derived.Test.YtondnammkcgjpaaRows
import Derived.ProofKit
import Derived.ShutString
import Derived.ChangeOld
import Derived.Below
import Derived.SizedLaws
namespace Go.Proofs.Ytondnammkcgjpaa.Til
open Go Go.Proofs Go.RowKit Go.Shelf
attribute [local go_sem] Oper.semAt_some

/-- the number on the k-th level -/
def qv (m : Int) : Nat → Int
  | 0 => m
  | k + 1 => qv m k / 4
/-- how many levels there are -/
def ln (m : Int) : Nat := if m ≤ 0 then 0 else if m < 4 then 1 else if m < 16 then 2 else if m < 64 then 3 else 4
/-- a level and how many hashes it has -/
abbrev Lv := { p : Int × Int // 0 ≤ p.1 ∧ p.1 ≤ 4 ∧ 0 ≤ p.2 ∧ p.2 ≤ 64 }
def mkLv (i : Nat) (q : Int) : Lv := ⟨(min (i : Int) 4, max 0 (min q 64)), by simp only; omega⟩
theorem mkLv_1 (i : Nat) (q : Int) (h : i ≤ 4) : (mkLv i q).1.1 = i := by show min (i : Int) 4 = i; omega
theorem mkLv_2 (i : Nat) (q : Int) (h0 : 0 ≤ q) (h1 : q ≤ 64) : (mkLv i q).1.2 = q := by show max 0 (min q 64) = q; omega
def lvs (m : Int) (k : Nat) : List Lv := (List.range k).map fun (i : Nat) => mkLv i (qv m i)
theorem lvs_succ (m : Int) (k : Nat) : lvs m (k + 1) = lvs m k ++ [mkLv k (qv m k)] := by simp [lvs, List.range_succ]
theorem lvs_len (m : Int) (k : Nat) : (lvs m k).length = k := by simp [lvs]
theorem ln_le (m : Int) : ln m ≤ 4 := by unfold ln; (repeat' split) <;> omega
theorem qv_in (m : Int) (h0 : 0 ≤ m) (h1 : m ≤ 64) (k : Nat) : 0 ≤ qv m k ∧ qv m k ≤ 64 := by
  induction k with
  | zero => exact ⟨h0, h1⟩
  | succ k ih => simp only [qv]; omega
theorem qv_pos (m : Int) (h0 : 0 ≤ m) (h1 : m ≤ 64) (k : Nat) (hk : k ≤ 4) : 0 < qv m k ↔ k < ln m := by
  unfold ln
  match k, hk with
  | 0, _ => simp only [qv]; (repeat' split) <;> omega
  | 1, _ => simp only [qv]; (repeat' split) <;> omega
  | 2, _ => simp only [qv]; (repeat' split) <;> omega
  | 3, _ => simp only [qv]; (repeat' split) <;> omega
  | 4, _ => simp only [qv]; (repeat' split) <;> omega

abbrev enc2 (x : Lv) : Array Value := #[.int .i64 x.1.1, .int .i64 x.1.2]
def Keep1 (Bn : Nat) (A B : World) : Prop := ∀ v, Boxed A Bn 3 v → Boxed B Bn 3 v

set_option maxRecDepth 100000 in
set_option maxHeartbeats 1000000 in
theorem levels1 (F : Fence) (n : Nat) (hf : F.fn 100) (hro : F.round = none) (hn : 1 ≤ n) (Bn : Nat) (m : Int) (h0 : 0 ≤ m) (h1 : m ≤ 64) (w : World) (hBn : Bn < w.heap.size) (hc : Boxed w Bn 3 (.int .i64 m)) :
    CellSeq F n Try.prog 100 #[.pointer (some ⟨Bn, 0, none⟩)] enc2 Bn (Keep1 Bn) (fun xs => xs = lvs m (ln m)) (fun pre => ∃ k, k < ln m ∧ pre = lvs m (k + 1)) 4 w := fun l J Jx W hW hJc _ _ hY hJ0 => by
  have hcW : Boxed W Bn 3 (.int .i64 m) := (hW.block Bn hBn).trans hc
  refine callsIn_of_wp Try.func100 rfl hf ?_ hro
  simp only [Try.ntmps100, List.size_toArray, List.length_cons, List.length_nil, Nat.reduceAdd, Nat.reduceSub, Array.replicate_succ, Array.replicate_zero, List.push_toArray, List.append_toArray, List.nil_append, List.cons_append]
  gi_wp2
  gi_loopw [3] (fun p wr => ∃ k : Nat, p = .int .i64 k ∧ k ≤ ln m ∧ Boxed wr Bn 3 (.int .i64 (qv m k)) ∧ J (lvs m k) wr) (fun p _ => 4 - (intOf p).toNat)
  case atStart => exact ⟨0, rfl, Nat.zero_le _, hcW, hJ0⟩
  case round =>
    obtain ⟨k, rfl, hk, hb, hJ⟩ := hrel
    have hl := ln_le m
    have hq := qv_in m h0 h1 k
    have hp := qv_pos m h0 h1 k (by omega)
    have hce := hb.cell
    by_cases hlt : k < ln m
    · have hpos : 0 < qv m k := hp.2 hlt
      obtain ⟨fn, tmps, assign, body, hy, hR⟩ := hY (lvs m k) (mkLv k (qv m k)) wr hJ (by rw [lvs_len]; omega)
      simp only [enc2, mkLv_1 k _ (Nat.le_of_lt (Nat.lt_of_lt_of_le hlt hl)), mkLv_2 k _ hq.1 hq.2] at hy
      gi_wp2
      refine hR.mono ?_
      rintro e W3 (⟨rfl, hJ3, hk3⟩ | ⟨rfl, hx3⟩)
      · have hb3 := hk3 _ hb
        have hc3 := hb3.cell
        have hf3 := hb3.frozen
        gi_wp2
        go_roundw
        case rel => exact ⟨k + 1, by go_num, by omega, hb3.set _, by rw [lvs_succ]; exact hJc _ _ _ hJ3⟩
        case measure => simp [intOf]; omega
      · gi_wp2
        refine bodyPost_ret (results_none rfl _ _ _) rfl ?_
        exact ⟨⟨_, rfl⟩, .inr ⟨_, ⟨k, hlt, (lvs_succ m k).symm⟩, hx3⟩⟩
    · have hz : qv m k ≤ 0 := by have := hp.1; omega
      obtain rfl : k = ln m := by omega
      gi_wp2
      go_end0
      exact ⟨⟨_, rfl⟩, .inl ⟨_, rfl, hJ⟩⟩

/-- what tile.in answers -/
def inB (n : Int) : Bool := decide (0 ≤ n ∧ n ≤ 64)
theorem in_c (n : Int) (b : Bool) (hb : inB n = b) (w : World) : Calls Try.prog 73 #[.int .i64 n] w fun e w' => e = .returned (.bool b) ∧ w = w' := by
  subst hb
  by_cases h0 : 0 ≤ n
  · by_cases h1 : n ≤ 64
    · go_enter Try.func73, Try.ntmps73
      go_wp2
      go_ret
      exact ⟨by simp [inB, h0, h1], rfl⟩
    · have h1' : 64 < n := by omega
      go_enter Try.func73, Try.ntmps73
      go_wp2
      go_ret
      exact ⟨by simp [inB, h0, h1], rfl⟩
  · have h0' : n < 0 := by omega
    go_enter Try.func73, Try.ntmps73
    go_wp2
    go_ret
    exact ⟨by simp [inB]; omega, rfl⟩
/-- tile.levels: the number is boxed, the function value bears the box -/
theorem levels_c (n : Int) (w : World) : Calls Try.prog 74 #[.int .i64 n] w fun e w' => e = .returned (.func (.func 100) #[] #[.pointer (some ⟨w.heap.size, 0, none⟩)]) ∧ w' = w.alloc (.cells #[.int .i64 n] 3) := by
  go_enter Try.func74, Try.ntmps74
  go_wp2
  go_ret
  exact ⟨rfl, rfl⟩

theorem own_boxed (B : Nat) (t : TypeId) (v : Value) : Own (fun (_ : List Lv) W => Boxed W B t v) := by
  intro s A A2 row hs hg hr
  exact hs.kept hg (fun e => by obtain ⟨o, ho, hc⟩ := hr B e.symm; rw [show A.heap[B]? = _ from hs] at ho; cases ho; cases hc)

def cntv (n k : Int) : Int := if 0 ≤ n ∧ n ≤ 64 ∧ 0 ≤ k ∧ k.toNat < ln n then qv n k.toNat else 0

theorem keep1_t {Bn : Nat} {A B C : World} (h : Keep1 Bn A B) (k : Keep1 Bn B C) : Keep1 Bn A C := fun v hv => k v (h v hv)
theorem keep1_b {Bn B0 : Nat} (hB : Bn < B0) (W : World) (l : Nat) (o o2 : Obj) (hl : B0 ≤ l) (_ : W.heap[l]? = some o) (_ : o.isCells = false) : Keep1 Bn W (W.putObj l o2) :=
  fun _ hv => (World.putObj_heap_other (by omega)).trans hv

set_option maxRecDepth 100000 in
set_option maxHeartbeats 2000000 in
theorem count_in (n k : Int) (h0 : 0 ≤ n) (h1 : n ≤ 64) (w : World) : CallsIn Fence.wide 3 Try.prog 45 #[.int .i64 n, .int .i64 k] w fun e w' => e = .returned (.int .i64 (cntv n k)) ∧ Below w.heap.size w w' := by
  have hin : inB n = true := by simp [inB, h0, h1]
  refine callsIn_of_wp_marks Try.func45 rfl trivial ?_ rfl
  simp only [Try.ntmps45, List.size_toArray, List.length_cons, List.length_nil, Nat.reduceAdd, Nat.reduceSub, Array.replicate_succ, Array.replicate_zero, List.push_toArray, List.append_toArray, List.nil_append, List.cons_append]
  have hpo := fun W => in_c n true hin W
  have HPO := Lib.hid hpo
  have HL := Lib.hid (levels_c n)
  clear hin hpo
  gi_wp2_with (first | (refine ⟨trivial, ?_⟩; gi_at_call 73; refine (callsIn_wide.2 (HPO.out _)).mono ?_; rintro e w' ⟨rfl, rfl⟩) | (refine ⟨trivial, ?_⟩; gi_at_call 74; refine (callsIn_wide.2 (HL.out _)).mono ?_; rintro e w' ⟨rfl, rfl⟩))
  have bK := Boxed.new w 3 (.int .i64 k)
  have bR := Boxed.new (w.alloc (.cells #[.int .i64 k] 3)) 3 (.int .i64 0)
  have bN := Boxed.new ((w.alloc (.cells #[.int .i64 k] 3)).alloc (.cells #[.int .i64 0] 3)) 3 (.int .i64 n)
  rw [World.size_alloc] at bR
  rw [World.size_alloc, World.size_alloc] at bN
  have hB0 : Below w.heap.size w (((w.alloc (.cells #[.int .i64 k] 3)).alloc (.cells #[.int .i64 0] 3)).alloc (.cells #[.int .i64 n] 3)) := (((Below.refl _ w).alloc (Nat.le_refl _) _).alloc (by simp) _).alloc (by simp; omega) _
  have bK2 := (bK.alloc (.cells #[.int .i64 0] 3)).alloc (.cells #[.int .i64 n] 3)
  have bR2 := bR.alloc (.cells #[.int .i64 n] 3)
  have hsz : (((w.alloc (.cells #[.int .i64 k] 3)).alloc (.cells #[.int .i64 0] 3)).alloc (.cells #[.int .i64 n] 3)).heap.size = w.heap.size + 3 := by simp
  obtain ⟨W0, hW0⟩ : ∃ W0, ((w.alloc (.cells #[.int .i64 k] 3)).alloc (.cells #[.int .i64 0] 3)).alloc (.cells #[.int .i64 n] 3) = W0 := ⟨_, rfl⟩
  rw [hW0] at hB0 bK2 bR2 hsz bN ⊢
  clear hW0 bK bR
  refine range_cell (α := Lv) (encs := enc2) (N := 4) (Bn := w.heap.size + 1 + 1) (Kp := Keep1 (w.heap.size + 1 + 1)) rfl (Nat.le_add_left 1 2) (gf := 100) (lb := #[.pointer (some ⟨w.heap.size + 1 + 1, 0, none⟩)]) rfl trivial (enters_of Try.func100 (by kernel_rfl) rfl)
    (levels1 Fence.wide 2 trivial rfl (by omega) (w.heap.size + 1 + 1) n h0 h1 W0 (by rw [hsz]; omega) bN) keep1_t
    (fun V l o o2 hl h hc => keep1_b (Bn := w.heap.size + 1 + 1) (B0 := w.heap.size + 3) (by omega) V l o o2 (by rw [hsz] at hl; exact hl) h hc) (Below.refl _ _) (fun _ => rfl)
    (fun (pre : List Lv) W => (Boxed W w.heap.size 3 (.int .i64 k) ∧ Boxed W (w.heap.size + 1) 3 (.int .i64 0) ∧ ∀ x : Lv, x ∈ pre → x.1.1 ≠ k) ∧ Below w.heap.size w W)
    (fun c (pre : List Lv) W => (c = .ret ∧ ∃ (x : Lv) (ys : List Lv), pre = ys ++ [x] ∧ x.1.1 = k ∧ Boxed W (w.heap.size + 1) 3 (.int .i64 x.1.2)) ∧ Below w.heap.size w W)
    (OwnFrom.and (Own.from (fun s A A2 row hs hg hr => ⟨own_boxed _ _ _ s A A2 row hs.1 hg hr, own_boxed _ _ _ s A A2 row hs.2.1 hg hr, hs.2.2⟩) _) (ownFrom_below (Nat.le_refl _) (by rw [hsz]; omega)))
    (fun c => OwnFrom.and (Own.from (fun s A A2 row hs hg hr => by obtain ⟨hc, x, ys, e1, e2, hb⟩ := hs; exact ⟨hc, x, ys, e1, e2, own_boxed _ _ _ s A A2 row hb hg hr⟩) _) (ownFrom_below (Nat.le_refl _) (by rw [hsz]; omega)))
    (fun s A v hs => ⟨⟨hs.1.1.other (by omega) v, hs.1.2.1.other (by omega) v, hs.1.2.2⟩, hs.2.setCell (p := ⟨w.heap.size + 1 + 1, 0, none⟩) (by show w.heap.size ≤ w.heap.size + 1 + 1; omega) v⟩)
    ⟨⟨bK2, bR2, fun x hx => by cases hx⟩, hB0⟩
    (fun x => { tmps := #[.int .i64 n, .int .i64 k, undef, .pointer (some ⟨w.heap.size, 0, none⟩), .pointer (some ⟨w.heap.size + 1, 0, none⟩), .int .i64 x.1.1, .int .i64 x.1.2, .int .i64 n, .bool true, .int .i64 n, .func (.func 100) #[] #[.pointer (some ⟨w.heap.size + 1 + 1, 0, none⟩)], .int .i64 x.1.1, .int .i64 x.1.2, undef, undef, undef, undef], defers := [] }) ?assign ?body ?done ?stop
  case assign =>
    intro l x W K hK
    gi_wp2
    exact hK
  case body =>
    rintro l pre x W ⟨⟨b1, b2, hne⟩, hB⟩ _
    have hc1 := b1.cell
    have hc2 := b2.cell
    have hf2 := b2.frozen
    by_cases hx : x.1.1 = k
    · have hx2 : (x.1.1 == k) = true := by simp [hx]
      gi_wp2
      exact ⟨(KeepsOthers.setCell _ _ _).from _, ⟨rfl, x, pre, rfl, hx, b2.set _⟩, hB.setCell (p := ⟨w.heap.size + 1, 0, none⟩) (by show w.heap.size ≤ w.heap.size + 1; omega) _⟩
    · have hx2 : (x.1.1 == k) = false := by simp [hx]
      gi_wp2
      exact ⟨KeepsFrom.refl _ _, fun v hv => hv, ⟨b1, b2, fun y hy => by rcases List.mem_append.1 hy with h | h; exact hne y h; rw [List.mem_singleton.1 h]; exact hx⟩, hB⟩
  case done =>
    rintro D xs W hD rfl ⟨⟨b1, b2, hne⟩, hB⟩ hK
    have hc2 := b2.cell
    have hf2 := b2.frozen
    have hv : cntv n k = 0 := by
      unfold cntv
      split
      · rename_i h
        have := hne (mkLv k.toNat (qv n k.toNat)) (List.mem_map.2 ⟨k.toNat, List.mem_range.2 h.2.2.2, rfl⟩)
        have hl := ln_le n
        exact absurd (by rw [mkLv_1 _ _ (by omega)]; omega) this
      · rfl
    have HV := Lib.hid hv
    clear hv
    gi_wp2
    have hK2 := (KeepsOthers.setCell W ⟨w.heap.size + 1, 0, none⟩ (.int .i64 0)).same D _ hK rfl
    have b4 : Boxed ((W.setCell ⟨w.heap.size + 1, 0, none⟩ (.int .i64 0)).putObj D (.deferred none)) (w.heap.size + 1) 3 (.int .i64 0) := (World.putObj_heap_other (by rw [hsz] at hD; omega)).trans (b2.set _)
    refine ⟨by simp, .inl ⟨_, _, rfl, run_takeDeferred hK2, ?_⟩⟩
    refine ⟨.int .i64 0, ?_, by rw [HV.out], ?_⟩
    · have hc5 := b4.cell
      simp [results, Try.f45, go_sem, hc5]
    · exact (hB.setCell (p := ⟨w.heap.size + 1, 0, none⟩) (by show w.heap.size ≤ w.heap.size + 1; omega) _).trans (belowK_b (w := w) (Nat.le_refl _) _ D _ _ (by rw [hsz] at hD; omega) hK2 rfl rfl)
  case stop =>
    rintro D c pre W hD ⟨j, hj, rfl⟩ ⟨⟨rfl, x, ys, hp, hx, b2⟩, hB⟩ hK
    have hv : cntv n k = x.1.2 := by
      have hl := ln_le n
      have hq := qv_in n h0 h1 j
      rw [lvs_succ] at hp
      obtain ⟨_, e⟩ := List.append_inj' hp rfl
      obtain rfl := List.singleton_inj.1 e
      have hk : k = (j : Int) := by rw [← hx, mkLv_1 _ _ (by omega)]
      rw [mkLv_2 _ _ hq.1 hq.2]
      unfold cntv
      rw [if_pos ⟨h0, h1, by omega, by omega⟩]
      show qv n k.toNat = qv n j
      congr 1; omega
    have HV := Lib.hid hv
    clear hv hp
    have b4 : Boxed (W.putObj D (.deferred none)) (w.heap.size + 1) 3 (.int .i64 x.1.2) := (World.putObj_heap_other (by rw [hsz] at hD; omega)).trans b2
    gi_wp2
    refine ⟨by simp, .inl ⟨_, _, rfl, run_takeDeferred hK, ?_⟩⟩
    refine ⟨.int .i64 x.1.2, ?_, by rw [HV.out], ?_⟩
    · have hc5 := b4.cell
      simp [results, Try.f45, go_sem, hc5]
    · exact hB.trans (belowK_b (w := w) (Nat.le_refl _) _ D _ _ (by rw [hsz] at hD; omega) hK rfl rfl)

theorem count_c (n k : Int) (r : Int) (hr : cntv n k = r) (w : World) : Calls Try.prog 45 #[.int .i64 n, .int .i64 k] w fun e w' => e = .returned (.int .i64 r) ∧ Below w.heap.size w w' := by
  subst hr
  by_cases h : 0 ≤ n ∧ n ≤ 64
  · exact callsIn_wide.1 (count_in n k h.1 h.2 w)
  · have HV := Lib.hid (show cntv n k = 0 from if_neg (fun hh => h ⟨hh.1, hh.2.1⟩))
    have HPO := Lib.hid (fun W => in_c n false (by simp [inB]; omega) W)
    clear h
    go_enter Try.func45, Try.ntmps45
    go_wp2_with (go_at_call 73; refine (HPO.out _).mono ?_; rintro e w' ⟨rfl, rfl⟩)
    exact bodyPost_ret (v := .int .i64 0) (by simp [results, Try.f45, go_sem]) rfl ⟨by rw [HV.out], ((Below.refl _ w).alloc (Nat.le_refl _) _).alloc (by simp) _⟩
end Go.Proofs.Ytondnammkcgjpaa.Til
namespace Go.Proofs.Ytondnammkcgjpaa.Til
open Go Go.RowKit Go.Shelf Go.Proofs.YtondnammkcgjpaaW.PrintWords Go.Proofs.YtondnammkcgjpaaW.PrintLast Go.Proofs.YtondnammkcgjpaaW.PrintMore
open Go.Proofs.Ytondnammkcgjpaa.ShaP Go.Proofs.Ytondnammkcgjpaa.Mk
set_option linter.unusedVariables false
set_option linter.unusedSimpArgs false
theorem cntv_in (n l : Int) : 0 ≤ cntv n l ∧ cntv n l ≤ 64 := by
  unfold cntv
  split
  · rename_i h; exact qv_in n h.1 h.2.1 _
  · omega
theorem cntv_out (n l : Int) (h : n < 0 ∨ 64 < n ∨ l < 0 ∨ 3 < l) : cntv n l = 0 := by
  unfold cntv
  have hl := ln_le n
  rw [if_neg]
  rintro ⟨h1, h2, h3, h4⟩
  omega
theorem cnt_pow : ∀ n : Nat, n < 65 → ∀ k : Nat, k < 4 → cntv n k = ((n / 4 ^ k : Nat) : Int) := by decide +kernel
/-- how many of the first i lie in a tile -/
def inTile (x i : Int) : Int := if x < 0 then 0 else max 0 (min (i - 4 * x) 4)
theorem inTile_in (x i : Int) : 0 ≤ inTile x i ∧ inTile x i ≤ 4 := by unfold inTile; split <;> omega
theorem inTile_step (x i : Int) (hi : 0 ≤ i) : inTile x (i + 1) = if i / 4 = x then inTile x i + 1 else inTile x i := by
  unfold inTile; split <;> split <;> omega
theorem power_c (k : Nat) (hk : k < 4) (w : World) : Calls Try.prog 57 #[.int .i64 (k : Int)] w fun e w' => e = .returned (.int .i64 ((4 ^ k : Nat) : Int)) ∧ w = w' := by
  have HK := Aside0.mk hk
  have hki : (k : Int) < 4 := by omega
  clear hk
  go_enter Try.func57, Try.ntmps57
  go_wp2
  go_loop [3, 4] (fun v3 v4 => ∃ i p : Nat, v4 = .int .i64 i ∧ v3 = .int .i64 p ∧ i ≤ k ∧ Aside0 (p = 4 ^ i)) (fun _ v4 => k - (intOf v4).toNat)
  case atStart => exact ⟨0, 1, rfl, rfl, Nat.zero_le _, ⟨rfl⟩⟩
  case round =>
    obtain ⟨i, p, rfl, rfl, hi, HP⟩ := hrel
    by_cases h1 : i < k
    · have h1i : (i : Int) < (k : Int) := by omega
      have HP2 : Aside0 (p * 4 = 4 ^ (i + 1)) := ⟨by rw [HP.out, Nat.pow_succ]⟩
      have hp : p ≤ 64 := by
        rw [HP.out]
        have := HK.out
        exact Nat.le_trans (Nat.pow_le_pow_right (by omega) (by omega : i ≤ 3)) (by decide)
      have hpi : (p : Int) * 4 ≤ 256 := by omega
      have hp0 : (0 : Int) ≤ (p : Int) * 4 := by omega
      clear HP hp
      go_wp2
      go_round
      case rel => exact ⟨i + 1, p * 4, by go_num, by go_num, by omega, HP2⟩
      case measure => simp [intOf]; omega
    · have h1i : ¬ (i : Int) < (k : Int) := by omega
      obtain rfl : i = k := by omega
      go_wp2
      go_ret
      exact ⟨by rw [HP.out]; rfl, rfl⟩
theorem rcount_c (n l : Int) (w : World) : Calls Try.prog 56 #[.int .i64 n, .int .i64 l] w fun e w' => e = .returned (.int .i64 (cntv n l)) ∧ w = w' := by
  by_cases h0 : n < 0
  · have HV := Aside0.mk (cntv_out n l (by omega))
    go_enter Try.func56, Try.ntmps56
    go_wp2
    go_ret
    exact ⟨by rw [HV.out]; rfl, rfl⟩
  by_cases h1 : 64 < n
  · have HV := Aside0.mk (cntv_out n l (by omega))
    go_enter Try.func56, Try.ntmps56
    go_wp2
    go_ret
    exact ⟨by rw [HV.out]; rfl, rfl⟩
  by_cases h2 : l < 0
  · have HV := Aside0.mk (cntv_out n l (by omega))
    go_enter Try.func56, Try.ntmps56
    go_wp2
    go_ret
    exact ⟨by rw [HV.out]; rfl, rfl⟩
  by_cases h3 : 3 < l
  · have HV := Aside0.mk (cntv_out n l (by omega))
    go_enter Try.func56, Try.ntmps56
    go_wp2
    go_ret
    exact ⟨by rw [HV.out]; rfl, rfl⟩
  obtain ⟨m, rfl⟩ : ∃ m : Nat, n = m := ⟨n.toNat, by omega⟩
  obtain ⟨k, rfl⟩ : ∃ k : Nat, l = k := ⟨l.toNat, by omega⟩
  have HV := Aside0.mk (cnt_pow m (by omega) k (by omega))
  have HPW := Aside0.mk (fun W => power_c k (by omega) W)
  have hp : 0 < 4 ^ k := Nat.pow_pos (by omega)
  obtain ⟨p, hpe⟩ : ∃ p, 4 ^ k = p := ⟨_, rfl⟩
  rw [hpe] at HPW HV hp
  have hq : Int.tdiv (m : Int) (p : Int) = ((m / p : Nat) : Int) := Int.ofNat_tdiv m p
  have hq2 : (m : Int) / (p : Int) = ((m / p : Nat) : Int) := rfl
  have hle := Nat.div_le_self m p
  obtain ⟨q, hqe⟩ : ∃ q, m / p = q := ⟨_, rfl⟩
  rw [hqe] at hq hq2 hle HV
  have hp0 : ¬ (p : Int) = 0 := by omega
  have hw : wrap64 (q : Int) = (q : Int) := by unfold wrap64; omega
  clear hpe hp hqe
  go_enter Try.func56, Try.ntmps56
  go_wp2_with (go_at_call 57; (with_reducible refine (HPW.out _).mono ?_); rintro e w_ ⟨rfl, rfl⟩)
  go_ret
  exact ⟨by rw [HV.out]; first | rfl | (rw [← hq2]; rfl) | (rw [← hw]; rfl) | (rw [← hw, ← hq2]; rfl), rfl⟩
theorem rwidth_c (n l x : Int) (w : World) : Calls Try.prog 25 #[.int .i64 n, .int .i64 l, .int .i64 x] w fun e w' => e = .returned (.int .i64 (inTile x (cntv n l))) ∧ w = w' := by
  obtain ⟨c, hc⟩ : ∃ c : Nat, cntv n l = c := ⟨(cntv n l).toNat, by have := cntv_in n l; omega⟩
  have hcl : (c : Int) ≤ 64 := by have := cntv_in n l; omega
  have HC := Aside0.mk (fun W => rcount_c n l W)
  rw [hc] at HC ⊢
  clear hc
  have z0 : inTile x 0 = 0 := by unfold inTile; split <;> omega
  have HZ := Aside0.mk z0
  clear z0
  go_enter Try.func25, Try.ntmps25
  go_wp2_with (go_at_call 56; (with_reducible refine (HC.out _).mono ?_); rintro e w_ ⟨rfl, rfl⟩)
  go_loop [8, 9] (fun v8 v9 => ∃ (i : Nat) (q : Int), v9 = .int .i64 i ∧ v8 = .int .i64 q ∧ i ≤ c ∧ 0 ≤ q ∧ q ≤ 64 ∧ Aside0 (q = inTile x i)) (fun _ v9 => c - (intOf v9).toNat)
  case atStart => exact ⟨0, 0, rfl, rfl, Nat.zero_le _, by omega, by omega, ⟨HZ.out.symm⟩⟩
  case round =>
    obtain ⟨i, q, rfl, rfl, hi, hq0, hq1, HQ⟩ := hrel
    by_cases h1 : i < c
    · have h1i : (i : Int) < (c : Int) := by omega
      have HS := Aside0.mk (inTile_step x (i : Int) (by omega))
      have HB := Aside0.mk (inTile_in x ((i : Int) + 1))
      by_cases h2 : (i : Int) / 4 = x
      · have HS2 : Aside0 (inTile x ((i : Int) + 1) = q + 1) := ⟨by rw [HS.out, if_pos h2, HQ.out]⟩
        have hq2 : q + 1 ≤ 64 := by have := HB.out; have := HS2.out; omega
        clear HS HB HQ
        go_wp2
        go_round
        case rel => exact ⟨i + 1, q + 1, by go_num, rfl, by omega, by omega, by omega, ⟨by rw [← HS2.out]; rfl⟩⟩
        case measure => simp [intOf]; omega
      · have HS2 : Aside0 (inTile x ((i : Int) + 1) = q) := ⟨by rw [HS.out, if_neg h2, HQ.out]⟩
        clear HS HB HQ
        go_wp2
        go_round
        case rel => exact ⟨i + 1, q, by go_num, rfl, by omega, by omega, by omega, ⟨HS2.out.symm⟩⟩
        case measure => simp [intOf]; omega
    · have h1i : ¬ (i : Int) < (c : Int) := by omega
      obtain rfl : i = c := by omega
      go_wp2
      go_ret
      exact ⟨by rw [← HQ.out]; rfl, rfl⟩
set_option maxRecDepth 100000 in
set_option maxHeartbeats 4000000 in
theorem width_c (n l x : Int) (w : World) : Calls Try.prog 50 #[.int .i64 n, .agg #[.int .i64 l, .int .i64 x]] w fun e w' => e = .returned (.int .i64 (inTile x (cntv n l))) ∧ Below w.heap.size w w' := by
  have OW := Aside0.mk (Mem.Own.nil w)
  have hci := cntv_in n l
  obtain ⟨c, hc⟩ : ∃ c, cntv n l = c := ⟨_, rfl⟩
  rw [hc] at hci ⊢
  obtain ⟨hc0, hc1⟩ := hci
  have HC := Aside0.mk (fun W => count_c n l c hc W)
  clear hc
  by_cases h0 : x < 0
  · have HV := Aside0.mk (show inTile x c = 0 from by unfold inTile; rw [if_pos h0])
    go_enter Try.func50, Try.ntmps50
    go_wp2_with ((with_reducible refine gate_dst (N := 3) rfl ?_); refine box_event ?hg (N := 3) ?hd (cs := #[.int .i64 l, .int .i64 x]) (t := 24) ?hr ?_; (case hd => rfl); (case hg => rfl); (case hr => first | (go_simp; done) | (go_simp; rfl)); intro gI hg W_ hb hbb; have x1 := (blk_cell hb 1).trans rfl; have n_ : Aside0 (Mem.Own w W_ [(gI, #[.int .i64 l, .int .i64 x], 24)]) := ⟨OW.out.new hg hb hbb⟩; clear OW hb hbb hg; have OW := n_; clear n_)
    go_ret
    exact ⟨by rw [HV.out]; rfl, OW.out.below⟩
  by_cases h1 : 64 < x
  · have HV := Aside0.mk (show inTile x c = 0 from by unfold inTile; rw [if_neg h0]; omega)
    go_enter Try.func50, Try.ntmps50
    go_wp2_with ((with_reducible refine gate_dst (N := 3) rfl ?_); refine box_event ?hg (N := 3) ?hd (cs := #[.int .i64 l, .int .i64 x]) (t := 24) ?hr ?_; (case hd => rfl); (case hg => rfl); (case hr => first | (go_simp; done) | (go_simp; rfl)); intro gI hg W_ hb hbb; have x1 := (blk_cell hb 1).trans rfl; have n_ : Aside0 (Mem.Own w W_ [(gI, #[.int .i64 l, .int .i64 x], 24)]) := ⟨OW.out.new hg hb hbb⟩; clear OW hb hbb hg; have OW := n_; clear n_)
    go_ret
    exact ⟨by rw [HV.out]; rfl, OW.out.below⟩
  have hv : inTile x c = max 0 (min (c - 4 * x) 4) := by unfold inTile; rw [if_neg h0]
  obtain ⟨x4, hx4⟩ : ∃ q, x * 4 = q := ⟨_, rfl⟩
  obtain ⟨d, hd⟩ : ∃ q, c - x4 = q := ⟨_, rfl⟩
  have hw4 : IntKind.i64.wrap x4 = x4 := by rw [i64_w]; unfold wrap64; omega
  have hwd : IntKind.i64.wrap d = d := by rw [i64_w]; unfold wrap64; omega
  have hw4' : wrap64 x4 = x4 := by unfold wrap64; omega
  have hwd' : wrap64 d = d := by unfold wrap64; omega
  have HV : Aside0 (inTile x c = min (max d 0) 4) := ⟨by rw [hv]; omega⟩
  clear hv
  go_enter Try.func50, Try.ntmps50
  go_wp2_with ((with_reducible refine gate_dst (N := 3) rfl ?_); refine box_event ?hg (N := 3) ?hd (cs := #[.int .i64 l, .int .i64 x]) (t := 24) ?hr ?_; (case hd => rfl); (case hg => rfl); (case hr => first | (go_simp; done) | (go_simp; rfl)); intro gI hg W_ hb hbb; have x0 := (blk_cell hb 0).trans rfl; have x1 := (blk_cell hb 1).trans rfl; have n_ : Aside0 (Mem.Own w W_ [(gI, #[.int .i64 l, .int .i64 x], 24)]) := ⟨OW.out.new hg hb hbb⟩; clear OW hb hbb hg; have OW := n_; clear n_)
  have OD := Aside0.mk OW.out.drew
  have c0 : W_.drew.cell? ⟨gI, 0, none⟩ = some (.int .i64 l) := (OD.out.cell 0 rfl 0).trans rfl
  have c1 : W_.drew.cell? ⟨gI, 1, none⟩ = some (.int .i64 x) := (OD.out.cell 0 rfl 1).trans rfl
  clear x0 x1 OW
  refine start_ (n := 11) (S := fun w' => Below (W_).drew.heap.size (W_).drew w') (ds := []) #[false, false, false, false, false, false, false, false, false, false, false] (by kernel_rfl) rfl rfl (Below.refl _ _) (fun hHeld => ?_)
  generalize (W_).drew = W0 at *
  refine pure_ (i := 0) (N := (some 13)) (v := ?_) (a' := ?_) #[true, false, false, false, false, false, false, false, false, false, false] rfl rfl (by kernel_rfl) (fun _ _ _ h => h) (Or.inl ⟨by rfl, ?_⟩) ?_ ?_
  rotate_left
  · intro w'
    go_simp
    first | done | with_reducible rfl
  rotate_left
  · simp only [Act.put, List.setIfInBounds_toArray, List.set_cons_zero, List.set_cons_succ, i64_w, i32_w]
    rfl
  refine pure_ (i := 1) (N := (some 14)) (v := ?_) (a' := ?_) #[true, true, false, false, false, false, false, false, false, false, false] rfl rfl (by kernel_rfl) (fun _ _ _ h => h) (Or.inl ⟨by rfl, ?_⟩) ?_ ?_
  rotate_left
  · intro w'
    go_simp
    first | done | with_reducible rfl
  rotate_left
  · simp only [Act.put, List.setIfInBounds_toArray, List.set_cons_zero, List.set_cons_succ, i64_w, i32_w]
    rfl
  refine take_ (i := 2) (N := (some 15)) (v := ?_) (a' := ?_) #[true, true, true, false, false, false, false, false, false, false, false] rfl rfl (by kernel_rfl) (fun _ _ _ h => h) (Or.inl ⟨by rfl, ?_⟩) hHeld ?_ ?_
  rotate_left
  · intro w' hS
    have s0 := pw_cell_below hS c0
    go_simp
    first | done | with_reducible rfl
  rotate_left
  · simp only [Act.put, List.setIfInBounds_toArray, List.set_cons_zero, List.set_cons_succ, i64_w, i32_w]
    rfl
  refine pure_ (i := 4) (N := (some 17)) (v := ?_) (a' := ?_) #[true, true, true, false, true, false, false, false, false, false, false] rfl rfl (by kernel_rfl) (fun _ _ _ h => h) (Or.inl ⟨by rfl, ?_⟩) ?_ ?_
  rotate_left
  · intro w'
    go_simp
    first | done | with_reducible rfl
  rotate_left
  · simp only [Act.put, List.setIfInBounds_toArray, List.set_cons_zero, List.set_cons_succ, i64_w, i32_w]
    rfl
  refine take_ (i := 5) (N := (some 18)) (v := ?_) (a' := ?_) #[true, true, true, false, true, true, false, false, false, false, false] rfl rfl (by kernel_rfl) (fun _ _ _ h => h) (Or.inl ⟨by rfl, ?_⟩) hHeld ?_ ?_
  rotate_left
  · intro w' hS
    have s0 := pw_cell_below hS c1
    go_simp
    first | done | with_reducible rfl
  rotate_left
  · simp only [Act.put, List.setIfInBounds_toArray, List.set_cons_zero, List.set_cons_succ, i64_w, i32_w]
    rfl
  refine pure_ (i := 6) (N := (some 19)) (v := ?_) (a' := ?_) #[true, true, true, false, true, true, true, false, false, false, false] rfl rfl (by kernel_rfl) (fun _ _ _ h => h) (Or.inl ⟨by rfl, ?_⟩) ?_ ?_
  rotate_left
  · intro w'
    go_simp
    first | done | with_reducible rfl
  rotate_left
  · simp only [Act.put, List.setIfInBounds_toArray, List.set_cons_zero, List.set_cons_succ, i64_w, i32_w]
    rfl
  refine one_ (i := 3) (N := (some 16)) #[true, true, true, true, true, true, true, false, false, false, false] rfl rfl (by kernel_rfl) (by decide) (fun K hK => ?_)
  refine goes_ Try.func45 (by kernel_rfl) rfl #[.int .i64 n, .int .i64 l] (by rfl) rfl rfl (by (try simp only [List.map_toArray, List.map_cons, List.map_nil]); first | done | rfl) ?_
  (with_reducible refine (HC.out _).mono ?_)
  rintro e wz ⟨rfl, hB⟩
  refine ⟨_, rfl, ?_⟩
  have hS2 : Below W0.heap.size W0 wz := below_step hHeld hB
  clear hB hHeld
  refine hK.out _ _ hS2 (fun hHeld => ?_)
  clear hK K
  refine norm_ (a' := ?_) ?_ ?_
  rotate_left
  · show Act.put _ (some 16) _ = _
    simp only [Act.put, List.setIfInBounds_toArray, List.set_cons_zero, List.set_cons_succ, i64_w, i32_w]
    rfl
  refine pure_ (i := 7) (N := (some 20)) (v := ?_) (a' := ?_) #[true, true, true, true, true, true, true, true, false, false, false] rfl rfl (by kernel_rfl) (fun _ _ _ h => h) (Or.inl ⟨by rfl, ?_⟩) ?_ ?_
  rotate_left
  · intro w'
    go_simp
    first | done | with_reducible rfl
  rotate_left
  · simp only [Act.put, List.setIfInBounds_toArray, List.set_cons_zero, List.set_cons_succ, i64_w, i32_w]
    rfl
  refine pure_ (i := 8) (N := (some 21)) (v := ?_) (a' := ?_) #[true, true, true, true, true, true, true, true, true, false, false] rfl rfl (by kernel_rfl) (fun _ _ _ h => h) (Or.inl ⟨by rfl, ?_⟩) ?_ ?_
  rotate_left
  · intro w'
    skip
    go_simp
    first | done | with_reducible rfl
  rotate_left
  · simp only [Act.put, List.setIfInBounds_toArray, List.set_cons_zero, List.set_cons_succ, i64_w, i32_w]
    rfl
  refine pure_ (i := 9) (N := (some 22)) (v := ?_) (a' := ?_) #[true, true, true, true, true, true, true, true, true, true, false] rfl rfl (by kernel_rfl) (fun _ _ _ h => h) (Or.inl ⟨by rfl, ?_⟩) ?_ ?_
  rotate_left
  · intro w'
    skip
    go_simp
    first | done | with_reducible rfl
  rotate_left
  · simp only [Act.put, List.setIfInBounds_toArray, List.set_cons_zero, List.set_cons_succ, i64_w, i32_w]
    rfl
  refine pure_ (i := 10) (N := (some 4)) (v := ?_) (a' := ?_) #[true, true, true, true, true, true, true, true, true, true, true] rfl rfl (by kernel_rfl) (fun _ _ _ h => h) (Or.inl ⟨by rfl, ?_⟩) ?_ ?_
  rotate_left
  · intro w'
    go_simp
    first | done | with_reducible rfl
  rotate_left
  · simp only [Act.put, List.setIfInBounds_toArray, List.set_cons_zero, List.set_cons_succ, i64_w, i32_w]
    rfl
  refine done_ (by kernel_rfl) ?_
  all_goals
    have OB := (OD.out.step hHeld).below
    go_wp2_with fail
    go_ret
    exact ⟨by rw [HV.out]; first | rfl | (simp only [mn, mx]; rfl), OB⟩
end Go.Proofs.Ytondnammkcgjpaa.Til
namespace Go.Proofs.Ytondnammkcgjpaa
open Go Go.RowKit
variable {F : Fence} {n : Nat} {P : Program}
/-- what an iterator with a cell of its own (block Bn, one cell) does: J is carried on by the rounds, and by the iterator's own stores into that cell -/
def CellSeqD {α : Type} (F : Fence) (n : Nat) (P : Program) (g : Nat) (lb : Array Value) (encs : α → Array Value) (Bn : Nat) (Kp : World → World → Prop) (S Sp : List α → Prop) (Nx : List α → α → Prop) (w : World) : Prop :=
  ∀ (l : Nat) (J Jx : List α → World → Prop) (W : World), Below w.heap.size w W →
    (∀ s A v, J s A → J s (A.setCell ⟨Bn, 0, none⟩ v)) →
    (∀ s A o, J s A → J s (A.alloc o)) → (∀ s A o, Jx s A → Jx s (A.alloc o)) → (∀ s A, J s A → J s A.drew) →
    (∀ pre x W1, J pre W1 → Nx pre x → YieldAt F (n - 1) P l (encs x) W1 fun e W2 =>
      (e = .returned (.bool true) ∧ J (pre ++ [x]) W2 ∧ Kp W1 W2) ∨ (e = .returned (.bool false) ∧ Jx (pre ++ [x]) W2)) →
    J [] W →
    CallsIn F n P g (#[.func (.yield l) #[] #[]] ++ lb) W fun e W2 => (∃ v, e = .returned v) ∧ ((∃ xs, S xs ∧ J xs W2) ∨ (∃ pre, Sp pre ∧ Jx pre W2))

theorem range_cellD {α : Type} {g : Operand} {ps : Array Tmp} {assign body : Code} {Q : Exit → Act → World → Prop} {a : Act} {w : World}
    (hro : F.round = none) (h1 : 1 ≤ n) {gf : Nat} {lb : Array Value} (hg : a.eval g = .func (.func gf) #[] lb) (hF : F.fn gf) (eg : ∀ args w, (callFunc gf args).run P w = .ok (.enter gf args) w)
    {encs : α → Array Value} {Bn : Nat} {Kp : World → World → Prop} {S Sp : List α → Prop} {Nx : List α → α → Prop} {w0 : World} (hseq : CellSeqD F (n - 1) P gf lb encs Bn Kp S Sp Nx w0)
    (hKt : ∀ {A B C : World}, Kp A B → Kp B C → Kp A C)
    (hKb : ∀ (W : World) (l : Nat) (o o2 : Obj), w.heap.size ≤ l → W.heap[l]? = some o → o.isCells = false → Kp W (W.putObj l o2))
    (hb0 : Below w0.heap.size w0 w) (hps : ∀ x, (encs x).size = ps.size)
    (I : List α → World → Prop) (Ix : Code → List α → World → Prop) (hI : OwnFrom w.heap.size I) (hIx : ∀ c, OwnFrom w.heap.size (Ix c))
    (hIc : ∀ s A v, I s A → I s (A.setCell ⟨Bn, 0, none⟩ v)) (h0 : I [] w) (a1 : α → Act)
    (hassign : ∀ (l : Nat) (x : α) (W : World) (K : Act → World → Prop), K (a1 x) W →
      assign.wpIn (F.inRound l) (n - 1 - 1) P (Exit.then K (fun _ _ _ => False)) { tmps := (ps.zip (encs x)).foldl (fun t (p, v) => t.setIfInBounds p v) a.tmps, defers := [] } W)
    (hbody : ∀ (l : Nat) (pre : List α) (x : α) (W : World), I pre W → Nx pre x → body.wpIn (F.inRound l) (n - 1 - 1) P (bodyWay w.heap.size Kp I Ix (pre ++ [x]) W) (a1 x) W)
    (hdone : ∀ (D : Nat) (xs : List α) (W : World), w.heap.size ≤ D → S xs → I xs W → W.heap[D]? = some (.deferred (some [])) → Q .normal { a with defers := { target := .collected D, args := #[] } :: a.defers } W)
    (hstop : ∀ (D : Nat) (c : Code) (pre : List α) (W : World), w.heap.size ≤ D → Sp pre → Ix c pre W → W.heap[D]? = some (.deferred (some [])) → c.wpIn F n P Q { a with defers := { target := .collected D, args := #[] } :: a.defers } W) :
    (Code.rangeFunc g ps assign body).wpIn F n P Q a w := by
  refine wpIn_rangeFunc fun fn hfn => ?_
  rw [hro]
  obtain ⟨rec, hrec⟩ : ∃ r : LoopState → Option Code → Loop, r = fun st pe => { state := st, pending := pe, fn, tmps := a.tmps, params := ps, assign, body, defers := w.heap.size } := ⟨_, rfl⟩
  obtain ⟨V, hV⟩ : ∃ V, (w.alloc (.deferred (some []))).alloc (.loop (rec .ready none)) = V := ⟨_, rfl⟩
  have hD : V.heap[w.heap.size]? = some (.deferred (some [])) := by rw [← hV]; exact at_alloc _ (World.alloc_heap_new w _)
  have hR : V.heap[w.heap.size + 1]? = some (.loop (rec .ready none)) := by
    rw [← hV]; have h := World.alloc_heap_new (w.alloc (.deferred (some []))) (.loop (rec .ready none)); rwa [World.size_alloc] at h
  have hI0 : I [] V := by rw [← hV]; exact hI.alloc _ (hI.alloc _ h0)
  have hBV : Below w0.heap.size w0 V := by rw [← hV]; exact hb0.trans ((((Below.refl _ w).alloc (Nat.le_refl _) _).alloc (by simp) _).mono hb0.size)
  refine ⟨w.heap.size + 1, [{ target := .collected w.heap.size, args := #[] }], V, { target := .fn (.func gf) lb, args := #[.func (.yield (w.heap.size + 1)) #[] #[]] }, V, gf,
    #[.func (.yield (w.heap.size + 1)) #[] #[]] ++ lb, V, ?_, ?_, ?_, ?_, fun _ => h1, ?_⟩
  · rw [← hV, hrec]; exact run_enterLoop_outer _ _ _ _ _
  · simp only [resolve, hg]; simp [go_sem]
  · intro f2 h2; simp [Target.leads] at h2; subst h2; exact hF
  · simp [invoke, go_sem, eg]
  have hround : ∀ pre x W1, (I pre W1 ∧ W1.heap[w.heap.size + 1]? = some (.loop (rec .ready none)) ∧ W1.heap[w.heap.size]? = some (.deferred (some []))) → Nx pre x →
      YieldAt F (n - 1 - 1) P (w.heap.size + 1) (encs x) W1 fun e W2 =>
        (e = .returned (.bool true) ∧ (I (pre ++ [x]) W2 ∧ W2.heap[w.heap.size + 1]? = some (.loop (rec .ready none)) ∧ W2.heap[w.heap.size]? = some (.deferred (some []))) ∧ Kp W1 W2) ∨
        (e = .returned (.bool false) ∧ ∃ c, Ix c (pre ++ [x]) W2 ∧ W2.heap[w.heap.size + 1]? = some (.loop (rec .done (some c))) ∧ W2.heap[w.heap.size]? = some (.deferred (some []))) := by
    rintro pre x W1 ⟨hi, hl, hd⟩ hlen
    have hlt := (Array.getElem?_eq_some_iff.1 hl).1
    have hy := run_yield (P := P) (args := encs x) hl (by rw [hrec]; exact hps x)
    rw [hrec] at hy
    refine ⟨fn, _, assign, body, hy, roundIn_of_wpIn hfn (hassign _ x W1 _ ⟨_, run_beginRound hl (by rw [hrec]), ?_⟩)⟩
    generalize hW3 : W1.putObj (w.heap.size + 1) (.loop { rec .ready none with state := .busy }) = W3
    have hl3 : W3.heap[w.heap.size + 1]? = some (.loop { rec .ready none with state := .busy }) := by rw [← hW3]; exact World.putObj_heap_same hlt
    have hd3 : W3.heap[w.heap.size]? = some (.deferred (some [])) := by rw [← hW3]; exact (World.putObj_heap_other (by omega)).trans hd
    have hk3 : Kp W1 W3 := by rw [← hW3]; exact hKb _ _ _ _ (by omega) hl rfl
    have hi3 : I pre W3 := by rw [← hW3]; exact own_put hI hi (by omega) hl rfl
    have last : ∀ (j : Option Code) (W4 : World), KeepsFrom w.heap.size W3 W4 → ∃ W5, (Instr.endRound (w.heap.size + 1) j).run P W4 = .ok (.bool j.isNone) W5 ∧ W5 = W4.putObj (w.heap.size + 1) (.loop (rec (if j.isNone then .ready else .done) j)) ∧
        W4.heap[w.heap.size + 1]? = some (.loop { rec .ready none with state := .busy }) ∧
        W5.heap[w.heap.size + 1]? = some (.loop (rec (if j.isNone then .ready else .done) j)) ∧ W5.heap[w.heap.size]? = some (.deferred (some [])) := fun j W4 h4 => by
      have hl4 := h4.same _ _ (by omega) hl3 rfl
      have hd4 := h4.same _ _ (Nat.le_refl _) hd3 rfl
      have he := run_endRound (P := P) j hl4
      refine ⟨_, he, ?_, hl4, ?_, ?_⟩
      · rw [hrec]
      · rw [World.putObj_heap_same (Array.getElem?_eq_some_iff.1 hl4).1, hrec]
      · exact (World.putObj_heap_other (by omega)).trans hd4
    refine wpIn_mono (hbody _ pre x _ hi3 hlen) ?_
    rintro e a4 W4 hp
    cases e with
    | normal =>
      obtain ⟨h4, hk4, hi4⟩ := hp
      obtain ⟨W5, he, e5, hl4, hl5, hd5⟩ := last none W4 h4
      exact ⟨_, _, he, .inl ⟨rfl, ⟨by rw [e5]; exact own_put hI hi4 (by omega) hl4 rfl, hl5, hd5⟩, by rw [e5]; exact hKt (hKt hk3 hk4) (hKb _ _ _ _ (by omega) hl4 rfl)⟩⟩
    | ret =>
      obtain ⟨h4, hi4⟩ := hp
      obtain ⟨W5, he, e5, hl4, hl5, hd5⟩ := last (some .ret) W4 h4
      exact ⟨_, _, he, .inr ⟨rfl, .ret, by rw [e5]; exact own_put (hIx _) hi4 (by omega) hl4 rfl, hl5, hd5⟩⟩
    | exit i =>
      obtain ⟨h4, hi4⟩ := hp
      obtain ⟨W5, he, e5, hl4, hl5, hd5⟩ := last (some (.exit i)) W4 h4
      exact ⟨_, _, he, .inr ⟨rfl, .exit i, by rw [e5]; exact own_put (hIx _) hi4 (by omega) hl4 rfl, hl5, hd5⟩⟩
    | goto t =>
      obtain ⟨h4, hi4⟩ := hp
      obtain ⟨W5, he, e5, hl4, hl5, hd5⟩ := last (some (.goto t)) W4 h4
      exact ⟨_, _, he, .inr ⟨rfl, .goto t, by rw [e5]; exact own_put (hIx _) hi4 (by omega) hl4 rfl, hl5, hd5⟩⟩
    | panic ch => exact hp.elim
    | outgrown => exact hp.elim
  refine (hseq (w.heap.size + 1)
    (fun pre W => I pre W ∧ W.heap[w.heap.size + 1]? = some (.loop (rec .ready none)) ∧ W.heap[w.heap.size]? = some (.deferred (some [])))
    (fun pre W => ∃ c, Ix c pre W ∧ W.heap[w.heap.size + 1]? = some (.loop (rec .done (some c))) ∧ W.heap[w.heap.size]? = some (.deferred (some [])))
    V hBV (fun s A v h => ⟨hIc s A v h.1, at_other v h.2.1 rfl, at_other v h.2.2 rfl⟩)
    (fun s A o h => ⟨hI.alloc o h.1, at_alloc o h.2.1, at_alloc o h.2.2⟩)
    (fun s A o h => by obtain ⟨c, hc, hl, hd⟩ := h; exact ⟨c, (hIx c).alloc o hc, at_alloc o hl, at_alloc o hd⟩)
    (fun s A h => ⟨hI s A A.drew none h.1 ⟨rfl, rfl, rfl, Nat.le_refl _, fun _ _ _ => rfl⟩ (fun r e => by cases e), h.2.1, h.2.2⟩)
    hround ⟨hI0, hR, hD⟩).mono ?_
  rintro e W2 ⟨⟨v, rfl⟩, (⟨xs, hS, hi, hl, hd⟩ | ⟨pre, hSp, c, hi, hl, hd⟩)⟩
  · refine ⟨none, _, by have h := run_endLoop (P := P) hl (by rw [hrec]; simp); rw [hrec] at h; exact h, ?_⟩
    exact hdone _ xs _ (Nat.le_refl _) hS (own_put hI hi (by omega) hl rfl) ((World.putObj_heap_other (by omega)).trans hd)
  · refine ⟨some c, _, by have h := run_endLoop (P := P) hl (by rw [hrec]; simp); rw [hrec] at h; exact h, ?_⟩
    exact hstop _ c pre _ (Nat.le_refl _) hSp (own_put (hIx c) hi (by omega) hl rfl) ((World.putObj_heap_other (by omega)).trans hd)

end Go.Proofs.Ytondnammkcgjpaa
namespace Go.Proofs.Ytondnammkcgjpaa.Til
open Go Go.RowKit Go.Shelf Go.Proofs.YtondnammkcgjpaaW.PrintWords Go.Proofs.YtondnammkcgjpaaW.PrintLast Go.Proofs.YtondnammkcgjpaaW.PrintMore
open Go.Proofs.Ytondnammkcgjpaa.ShaP Go.Proofs.Ytondnammkcgjpaa.Mk Go.Proofs.Ytondnammkcgjpaa.Rg Go.Proofs.Ytondnammkcgjpaa.Rng Go.Proofs.Ytondnammkcgjpaa.Fun
set_option linter.unusedVariables false
set_option linter.unusedSimpArgs false
attribute [local go_sem] Oper.semAt_some
theorem cut_full (A : Option Addr) (c : Nat) (l : List ByteArray) (a b : Nat) (hab : a < b) (hb : b ≤ l.length) (hc : l.length ≤ c) :
    (∀ W : World, (Instr.slice 22 (.slice A l.length c) (some (.int .i64 (a : Int))) (some (.int .i64 (b : Int))) (some (.int .i64 (b : Int)))).run Try.prog W = .ok (.slice (A.map (·.add a)) ((l.take b).drop a).length ((l.take b).drop a).length) W) ∧
      (∀ w : World, Kd.C Kd.string w A l.length l → Kd.C Kd.string w (A.map (·.add a)) ((l.take b).drop a).length ((l.take b).drop a)) := by
  obtain ⟨i0, hi0, _, hsz, _⟩ := info_parts info_str
  have hl : ((l.take b).drop a).length = b - a := by rw [List.length_drop, List.length_take]; omega
  have ht := Try.underlying22
  refine ⟨fun W => ?_, fun w h => ?_⟩
  · have hel : Try.prog.elem 22 = 9 := by simp [Program.elem, ht]
    have hu : Try.prog.underlying 22 = some (.slice (Try.prog.elem 22)) := by rw [hel]; exact ht
    rw [run_slice_lhm W 22 A l.length c hu .i64 .i64 .i64 (a : Int) (b : Int) (b : Int) (by omega) (by omega) (by omega) (by omega), hel, hl]
    have hne : ¬ b = a := by omega
    simp [sizeOf, typeInfo, hi0, hsz, sliced, Result.andThen, hne]
  · have h1 := Kd.reads_of_C (enc := Value.string) (d := ByteArray.empty) (h1 := fun _ => rfl) h
    have h2 := (h1.take_ b (by omega)).drop_ (c := b) a (by omega) (by omega)
    rw [if_neg (by omega)] at h2
    rw [hl]
    exact Kd.C_of_reads (enc := Value.string) (d := ByteArray.empty) (h1 := fun _ => rfl) h2
/-- the pieces of four, each with its place -/
def chN (A : Option Addr) (l : List ByteArray) : Nat → Nat → List (Option Addr × List ByteArray)
  | 0, _ => []
  | f + 1, i => if i < l.length then (A.map (·.add i), (l.take (min (i + 4) l.length)).drop i) :: chN A l f (i + 4) else []
abbrev encC (x : Option Addr × List ByteArray) : Array Value := #[.slice x.1 x.2.length x.2.length]
/-- what a round must leave as it was -/
def KpC (Bn : Nat) (A : Option Addr) (n c : Nat) (V W : World) : Prop :=
  (Boxed V Bn 22 (.slice A n c) ∧ Boxed V (Bn + 1) 3 (.int .i64 4)) → (Boxed W Bn 22 (.slice A n c) ∧ Boxed W (Bn + 1) 3 (.int .i64 4))
theorem kpC_t {Bn : Nat} {A : Option Addr} {n c : Nat} {U V W : World} (h : KpC Bn A n c U V) (k : KpC Bn A n c V W) : KpC Bn A n c U W := fun q => k (h q)
theorem kpC_b {Bn : Nat} {A : Option Addr} {n c : Nat} (W : World) (D : Nat) (o o2 : Obj) (hd : W.heap[D]? = some o) (hc : o.isCells = false) : KpC Bn A n c W (W.putObj D o2) := fun ⟨h1, h2⟩ =>
  ⟨(World.putObj_heap_other (fun e => by
    unfold Boxed at h1
    rw [e] at h1
    exact not_cells hd hc h1)).trans h1, (World.putObj_heap_other (fun e => by
    unfold Boxed at h2
    rw [e] at h2
    exact not_cells hd hc h2)).trans h2⟩
set_option maxRecDepth 100000 in
set_option maxHeartbeats 1000000 in
theorem chunk_c (A : Option Addr) (n c : Nat) (w : World) : Calls Try.prog 80 #[.slice A n c, .int .i64 4] w fun e w2 => e = .returned (.func (.func 101) #[] #[.pointer (some ⟨w.heap.size, 0, none⟩), .pointer (some ⟨w.heap.size + 1, 0, none⟩)]) ∧ w2 = (w.alloc (.cells #[.slice A n c] 22)).alloc (.cells #[.int .i64 4] 3) := by
  go_enter Try.func80, Try.ntmps80
  go_wp2
  go_ret
  exact ⟨by simp, rfl⟩
set_option maxRecDepth 100000 in
set_option maxHeartbeats 2000000 in
theorem chunkN (n : Nat) (hn : 1 ≤ n) (Bn : Nat) (A : Option Addr) (c : Nat) (l : List ByteArray) (w : World) (hl : l.length ≤ 1000000) (hc : l.length ≤ c) (hBn : Bn + 1 < w.heap.size) (hb : Boxed w Bn 22 (.slice A l.length c)) (hb2 : Boxed w (Bn + 1) 3 (.int .i64 4)) :
    CellSeqD Fence.wide n Try.prog 101 #[.pointer (some ⟨Bn, 0, none⟩), .pointer (some ⟨Bn + 1, 0, none⟩)] encC Bn (KpC Bn A l.length c) (fun xs => xs = chN A l l.length 0) (fun pre => pre <+: chN A l l.length 0) (fun pre x => pre ++ [x] <+: chN A l l.length 0) w := fun lp J Jx W hW hJc _ _ hJd hY hJ0 => by
  have hbW : Boxed W Bn 22 (.slice A l.length c) := (hW.block Bn (by omega)).trans hb
  have hbW2 : Boxed W (Bn + 1) 3 (.int .i64 4) := (hW.block (Bn + 1) hBn).trans hb2
  have HBW := Aside0.mk (show Boxed W Bn 22 (.slice A l.length c) ∧ Boxed W (Bn + 1) 3 (.int .i64 4) from ⟨hbW, hbW2⟩)
  have hll : (l.length : Int) ≤ 1000000 := by omega
  have HL := Aside0.mk (show l.length ≤ 1000000 ∧ l.length ≤ c from ⟨hl, hc⟩)
  clear hb hb2 hbW hbW2 hBn hW hl hc
  refine callsIn_of_wp Try.func101 rfl trivial ?_ rfl
  simp only [Try.ntmps101, List.size_toArray, List.length_cons, List.length_nil, Nat.reduceAdd, Nat.reduceSub, Array.replicate_succ, Array.replicate_zero, List.push_toArray, List.append_toArray, List.nil_append, List.cons_append]
  gi_wp2
  gi_loopw [4, 5] (fun v4 _ wr => ∃ (i f : Nat) (pre : List (Option Addr × List ByteArray)), v4 = .int .i64 i ∧ i ≤ l.length + 4 ∧ Aside0 (l.length ≤ i + f) ∧ Hid (pre ++ chN A l f i = chN A l l.length 0) ∧ Aside0 (Boxed wr Bn 22 (.slice A l.length c) ∧ Boxed wr (Bn + 1) 3 (.int .i64 4)) ∧ J pre wr) (fun v4 _ _ => l.length - (intOf v4).toNat)
  case atStart => exact ⟨0, l.length, [], rfl, by omega, ⟨by omega⟩, rfl, HBW, hJ0⟩
  case round =>
    clear HBW
    obtain ⟨i, f, pre, rfl, hi, HF, HP, HB, hJ⟩ := hrel
    have hce := HB.out.1.cell
    have hce2 := HB.out.2.cell
    by_cases h1 : i < l.length
    · have h1i : (i : Int) < (l.length : Int) := by omega
      obtain ⟨f, rfl⟩ : ∃ g, f = g + 1 := ⟨f - 1, by have := HF.out; omega⟩
      obtain ⟨b, hb⟩ : ∃ b, min (i + 4) l.length = b := ⟨_, rfl⟩
      have hcf := (cut_full A c l i b (by omega) (by omega) HL.out.2).1
      have hnx : pre ++ [(A.map (·.add i), (l.take b).drop i)] <+: chN A l l.length 0 := by
        have h6 := HP.out
        rw [chN, if_pos h1, hb] at h6
        exact ⟨chN A l f (i + 4), by rw [← h6]; simp⟩
      have HP2 := Lib.hid (show (pre ++ [(A.map (·.add i), (l.take b).drop i)]) ++ chN A l f (i + 4) = chN A l l.length 0 by have h6 := HP.out; rw [chN, if_pos h1, hb] at h6; rw [← h6]; simp)
      have hsl : ((l.take b).drop i).length = b - i := by rw [List.length_drop, List.length_take]; omega
      have HBD := Aside0.mk (show Boxed wr.drew Bn 22 (.slice A l.length c) ∧ Boxed wr.drew (Bn + 1) 3 (.int .i64 4) from HB.out)
      obtain ⟨fn, tmps, assign, body, hy, hR⟩ := hY pre (A.map (·.add i), (l.take b).drop i) wr.drew (hJd _ _ hJ) hnx
      have HNX := Aside0.mk hnx
      obtain ⟨A0, hcd, _, _⟩ := cut_drop A c l i (by omega) HL.out.2
      have hdl : (l.drop i).length = l.length - i := List.length_drop
      obtain ⟨e, he⟩ : ∃ e, b - i = e := ⟨_, rfl⟩
      obtain ⟨r, hr⟩ : ∃ r, l.length - i = r := ⟨_, rfl⟩
      have hmin : min (4 : Int) (r : Int) = (e : Int) := by omega
      have hie : (i : Int) + (e : Int) = (b : Int) := by omega
      have hi4 : ((i + 4 : Nat) : Int) ≤ 1000010 := by have := HL.out.1; omega
      rw [hdl, hr] at hcd
      rw [hsl, he] at hcf
      simp only [encC, hsl, he] at hy
      have HI4 : Aside0 (l.length ≤ i + 4 + f ∧ i < l.length) := ⟨by have := HF.out; omega, h1⟩
      clear hY HP HF hnx hsl hdl hr he
      have hwb : wrap64 (b : Int) = (b : Int) := by unfold wrap64; have := HL.out.1; omega
      clear hb
      gi_wp2_with fail
      refine wpIn_wide.2 ?_
      have hDB : Below wr.heap.size wr wr.drew := (Below.refl _ wr).drew
      have cB1 : wr.drew.cell? ⟨Bn, 0, none⟩ = some (.slice A l.length c) := hce
      have cB2 : wr.drew.cell? ⟨Bn + 1, 0, none⟩ = some (.int .i64 4) := hce2
      refine start_ (n := 7) (S := fun w' => Below (wr).drew.heap.size (wr).drew w') (ds := []) #[false, false, false, false, false, false, false] (by kernel_rfl) rfl rfl (Below.refl _ _) (fun hHeld => ?_)
      generalize (wr).drew = W0 at *
      refine take_ (i := 0) (N := (some 13)) (v := ?_) (a' := ?_) #[true, false, false, false, false, false, false] rfl rfl (by kernel_rfl) (fun _ _ _ h => h) (Or.inl ⟨by rfl, ?_⟩) hHeld ?_ ?_
      rotate_left
      · intro w' hS
        have s0 := pw_cell_below hS cB2
        go_simp
        first | done | with_reducible rfl
      rotate_left
      · simp only [Act.put, List.setIfInBounds_toArray, List.set_cons_zero, List.set_cons_succ, i64_w, i32_w]
        rfl
      refine take_ (i := 1) (N := (some 14)) (v := ?_) (a' := ?_) #[true, true, false, false, false, false, false] rfl rfl (by kernel_rfl) (fun _ _ _ h => h) (Or.inl ⟨by rfl, ?_⟩) hHeld ?_ ?_
      rotate_left
      · intro w' hS
        have s0 := pw_cell_below hS cB1
        go_simp
        first | done | with_reducible rfl
      rotate_left
      · simp only [Act.put, List.setIfInBounds_toArray, List.set_cons_zero, List.set_cons_succ, i64_w, i32_w]
        rfl
      refine pure_ (i := 2) (N := (some 15)) (v := ?_) (a' := ?_) #[true, true, true, false, false, false, false] rfl rfl (by kernel_rfl) (fun _ _ _ h => h) (Or.inl ⟨by rfl, ?_⟩) ?_ ?_
      rotate_left
      · intro w'
        go_simp
        first | done | with_reducible rfl
      rotate_left
      · simp only [Act.put, List.setIfInBounds_toArray, List.set_cons_zero, List.set_cons_succ, i64_w, i32_w]
        rfl
      refine pure_ (i := 3) (N := (some 16)) (v := ?_) (a' := ?_) #[true, true, true, true, false, false, false] rfl rfl (by kernel_rfl) (fun _ _ _ h => h) (Or.inl ⟨by rfl, ?_⟩) ?_ ?_
      rotate_left
      · intro w'
        go_simp
        first | done | with_reducible rfl
      rotate_left
      · simp only [Act.put, List.setIfInBounds_toArray, List.set_cons_zero, List.set_cons_succ, i64_w, i32_w]
        rfl
      refine pure_ (i := 4) (N := (some 17)) (v := ?_) (a' := ?_) #[true, true, true, true, true, false, false] rfl rfl (by kernel_rfl) (fun _ _ _ h => h) (Or.inl ⟨by rfl, ?_⟩) ?_ ?_
      rotate_left
      · intro w'
        go_simp
        first | done | with_reducible rfl
      rotate_left
      · simp only [Act.put, List.setIfInBounds_toArray, List.set_cons_zero, List.set_cons_succ, i64_w, i32_w]
        rfl
      refine pure_ (i := 5) (N := (some 18)) (v := ?_) (a' := ?_) #[true, true, true, true, true, true, false] rfl rfl (by kernel_rfl) (fun _ _ _ h => h) (Or.inl ⟨by rfl, ?_⟩) ?_ ?_
      rotate_left
      · intro w'
        skip
        go_simp
        first | done | with_reducible rfl
      rotate_left
      · simp only [Act.put, List.setIfInBounds_toArray, List.set_cons_zero, List.set_cons_succ, i64_w, i32_w]
        rfl
      refine pure_ (i := 6) (N := (some 5)) (v := ?_) (a' := ?_) #[true, true, true, true, true, true, true] rfl rfl (by kernel_rfl) (fun _ _ _ h => h) (Or.inl ⟨by rfl, ?_⟩) ?_ ?_
      rotate_left
      · intro w'
        go_simp
        first | done | with_reducible rfl
      rotate_left
      · simp only [Act.put, List.setIfInBounds_toArray, List.set_cons_zero, List.set_cons_succ, i64_w, i32_w]
        rfl
      refine done_ (by kernel_rfl) ?_
      have hb1 : Boxed W0 Bn 22 (.slice A l.length c) := HBD.out.1
      have hb2 : Boxed W0 (Bn + 1) 3 (.int .i64 4) := HBD.out.2
      gi_wp2_with fail
      refine hR.mono ?_
      rintro e W3 (⟨rfl, hJ3, hk3⟩ | ⟨rfl, hx3⟩)
      · have hb3 := hk3 ⟨hb1, hb2⟩
        have hc4 := hb3.2.cell
        gi_wp2_with fail
        go_roundw
        case rel => exact ⟨i + 4, f, pre ++ [(A.map (·.add i), (l.take b).drop i)], by go_num, by have := HI4.out; omega, ⟨HI4.out.1⟩, HP2, ⟨hb3⟩, hJ3⟩
        case measure => simp [intOf]; have := HI4.out; omega
      · gi_wp2_with fail
        refine bodyPost_ret (results_none rfl _ _ _) rfl ?_
        exact ⟨⟨_, rfl⟩, .inr ⟨_, HNX.out, hx3⟩⟩
    · have h1i : ¬ (i : Int) < (l.length : Int) := by omega
      have hz : chN A l f i = [] := by cases f with | zero => rfl | succ f => rw [chN, if_neg h1]
      have HZ := Aside0.mk hz
      clear hY hz
      gi_wp2
      go_end0
      exact ⟨⟨_, rfl⟩, .inl (by have := HP.out; rw [HZ.out, List.append_nil] at this; rw [← this]; exact hJ)⟩
end Go.Proofs.Ytondnammkcgjpaa.Til
namespace Go.Proofs.Ytondnammkcgjpaa.Til
open Go Go.RowKit Go.Shelf Go.Proofs.YtondnammkcgjpaaW.PrintWords Go.Proofs.YtondnammkcgjpaaW.PrintLast Go.Proofs.YtondnammkcgjpaaW.PrintMore
open Go.Proofs.Ytondnammkcgjpaa.ShaP Go.Proofs.Ytondnammkcgjpaa.Mk Go.Proofs.Ytondnammkcgjpaa.Rg Go.Proofs.Ytondnammkcgjpaa.Rng Go.Proofs.Ytondnammkcgjpaa.Fun Go.Proofs.Ytondnammkcgjpaa.RgP
set_option linter.unusedVariables false
set_option linter.unusedSimpArgs false
attribute [local go_sem] Oper.semAt_some
/-- the roots of the full pieces -/
def upP (pre : List (Option Addr × List ByteArray)) : List ByteArray := (pre.filter fun x => x.2.length == 4).map fun x => rootF x.2
def upF (l : List ByteArray) : List ByteArray := upP (chN none l l.length 0)
def levF : Nat → List ByteArray → List ByteArray
  | 0, l => l
  | k + 1, l => levF k (upF l)
theorem upP_yes (pre : List (Option Addr × List ByteArray)) (x : Option Addr × List ByteArray) (h : x.2.length = 4) : upP (pre ++ [x]) = upP pre ++ [rootF x.2] := by
  unfold upP
  rw [List.filter_append, List.map_append]
  simp [h]
theorem upP_no (pre : List (Option Addr × List ByteArray)) (x : Option Addr × List ByteArray) (h : x.2.length ≠ 4) : upP (pre ++ [x]) = upP pre := by
  unfold upP
  rw [List.filter_append, List.map_append]
  simp [h]
theorem upP_any (A : Option Addr) (l : List ByteArray) : ∀ f i, upP (chN A l f i) = upP (chN none l f i)
  | 0, _ => rfl
  | f + 1, i => by
    have h := upP_any A l f (i + 4)
    rw [chN, chN]
    split
    · unfold upP at h ⊢
      simp only [List.filter_cons]
      split
      · rw [List.map_cons, List.map_cons, h]
      · exact h
    · rfl
theorem chN_len (A : Option Addr) (l : List ByteArray) : ∀ f i, (chN A l f i).length ≤ f
  | 0, _ => Nat.le_refl _
  | f + 1, i => by
    rw [chN]
    split
    · rw [List.length_cons]; have := chN_len A l f (i + 4); omega
    · exact Nat.zero_le _
theorem chN_mem (A : Option Addr) (l : List ByteArray) (x : Option Addr × List ByteArray) : ∀ f i, x ∈ chN A l f i → ∃ a b, a < b ∧ b ≤ l.length ∧ x = (A.map (·.add a), (l.take b).drop a)
  | 0, _, h => by cases h
  | f + 1, i, h => by
    rw [chN] at h
    split at h
    · rename_i hi
      rcases List.mem_cons.1 h with h | h
      · exact ⟨i, min (i + 4) l.length, by omega, by omega, h⟩
      · exact chN_mem A l x f (i + 4) h
    · cases h
theorem upP_len (pre : List (Option Addr × List ByteArray)) : (upP pre).length ≤ pre.length := by
  unfold upP
  rw [List.length_map]
  exact List.length_filter_le _ _
theorem upF_len (l : List ByteArray) : (upF l).length ≤ l.length := Nat.le_trans (upP_len _) (chN_len _ _ _ _)
theorem upF_32 (l : List ByteArray) (h : A32 l) (hl : l.length ≤ 64) : A32 (upF l) := fun s hs => by
  obtain ⟨x, hx, rfl⟩ := List.mem_map.1 hs
  obtain ⟨a, b, _, _, e⟩ := chN_mem _ _ _ _ _ (List.mem_filter.1 hx).1
  subst e
  have hm : A32 ((l.take b).drop a) := fun s hs => h s (List.mem_of_mem_take (List.mem_of_mem_drop hs))
  exact rootF_32 _ hm (by rw [List.length_drop, List.length_take]; omega)
/-- what holds ahead of each round -/
def LvI (w : World) (gT gU Bn : Nat) (A : Option Addr) (c : Nat) (l : List ByteArray) (pre : List (Option Addr × List ByteArray)) (W : World) : Prop :=
  ∃ v u, Mem.Own w W [(gU, #[v], 22), (Bn, #[u], 22), (Bn + 1, #[.int .i64 4], 3)] ∧ SR W w.heap.size v (upP pre)
theorem lvI_from {w : World} {gT gU Bn : Nat} {A : Option Addr} {c : Nat} {l : List ByteArray} {B : Nat} (hB : w.heap.size ≤ B) : OwnFrom B (LvI w gT gU Bn A c l) := fun pre W V row h hg hr => by
  obtain ⟨v, u, hO, hR⟩ := h
  have hrec : Rec W row := fun r e => (hr r e).2
  exact ⟨v, u, own_rec hO hg hrec (fun r e => Nat.le_trans hB (hr r e).1), row_rec rfl hR hg hrec⟩
theorem lvI_set {w : World} {gT gU Bn : Nat} {A : Option Addr} {c : Nat} {l : List ByteArray} {pre : List (Option Addr × List ByteArray)} {W : World} (h : LvI w gT gU Bn A c l pre W) (z : Value) : LvI w gT gU Bn A c l pre (W.setCell ⟨Bn, 0, none⟩ z) := by
  obtain ⟨v, u, hO, hR⟩ := h
  exact ⟨v, z, hO.put 1 rfl 0 z rfl, Kd.R_set hR (hO.blk 1 rfl) (by decide) 0 z⟩
/-- what the loop carries -/
def LvL (w W : World) (gT : Nat) (A : Option Addr) (c : Nat) (l : List ByteArray) (Ds : List Nat) : Prop :=
  Below w.heap.size w W ∧ W.heap[gT]? = some (.cells TV 31 (0, 0)) ∧ w.heap.size ≤ gT ∧ Kd.C Kd.string W A l.length l ∧ l.length ≤ c ∧ l.length ≤ 64 ∧ A32 l ∧ Ds.Nodup ∧ ∀ D ∈ Ds, w.heap.size ≤ D ∧ W.heap[D]? = some (.deferred (some []))
theorem leaves_all {fn : Func} {tmps : Array Value} {R : Ending → World → Prop} (w : World) (A : Option Addr) (l : List ByteArray)
    (h : ∀ W, Kd.C Kd.string W A l.length l → Below w.heap.size w W → ∃ v, (results fn tmps).run Try.prog W = .ok v W ∧ R (.returned v) W) :
    ∀ (Ds : List Nat) (W : World), Ds.Nodup → (∀ D ∈ Ds, w.heap.size ≤ D ∧ W.heap[D]? = some (.deferred (some []))) → Kd.C Kd.string W A l.length l → Below w.heap.size w W →
    LeavesInM Fence.wide 5 Try.prog fn tmps R (Ds.map fun D => { target := .collected D, args := #[] }) .returning W
  | [], W, _, _, hC, hB => h W hC hB
  | D :: Ds, W, hn, hD, hC, hB => by
    obtain ⟨h1, h2⟩ := hD D (List.mem_cons_self ..)
    obtain ⟨n1, n2⟩ := List.nodup_cons.1 hn
    refine ⟨by simp, .inl ⟨_, _, rfl, run_takeDeferred h2, ?_⟩⟩
    refine leaves_all w A l h Ds _ n2 (fun E hE => ?_) (c_put hC _ h2 rfl) (hB.trans (belowK_b (w := w) (Nat.le_refl _) _ D _ _ h1 h2 rfl rfl))
    obtain ⟨h3, h4⟩ := hD E (List.mem_cons_of_mem _ hE)
    exact ⟨h3, (World.putObj_heap_other (by rintro rfl; exact n1 hE)).trans h4⟩
set_option maxRecDepth 100000 in
set_option maxHeartbeats 8000000 in
theorem level_c (A : Option Addr) (c : Nat) (L : List ByteArray) (k0 : Nat) (w : World) (hk : k0 ≤ 1000) (hl : L.length ≤ 64) (h32 : A32 L) (hc : L.length ≤ c) (hr : Kd.C Kd.string w A L.length L) :
    Calls Try.prog 52 #[.agg TV, .slice A L.length c, .int .i64 (k0 : Int)] w fun e w' => ∃ A' c', e = .returned (.slice A' (levF k0 L).length c') ∧ (levF k0 L).length ≤ c' ∧ Kd.C Kd.string w' A' (levF k0 L).length (levF k0 L) ∧ Below w.heap.size w w' := by
  have OW := Aside0.mk (Mem.Own.nil w)
  have HR := Aside0.mk (show Kd.C Kd.string w A L.length L ∧ L.length ≤ c ∧ L.length ≤ 64 ∧ A32 L from ⟨hr, hc, hl, h32⟩)
  have hki : (k0 : Int) ≤ 1000 := by omega
  clear hr hc hl h32 hk
  refine (callsIn_wide (n := 5)).1 ?_
  refine callsIn_of_wp_marks Try.func52 rfl trivial ?_ rfl
  simp only [Try.ntmps52, List.size_toArray, List.length_cons, List.length_nil, Nat.reduceAdd, Nat.reduceSub, Array.replicate_succ, Array.replicate_zero, List.push_toArray, List.append_toArray, List.nil_append, List.cons_append]
  refine wpIn_wide.2 ?_
  go_wp2_with ((with_reducible refine gate_dst (N := 3) rfl ?_); refine box_event ?hg (N := 3) ?hd (cs := TV) (t := 31) ?hr ?_; (case hd => rfl); (case hg => rfl); (case hr => first | (go_simp; done) | (go_simp; rfl)); intro gT hg W_ hb hbb; have n_ : Aside0 (Mem.Own w W_ [(gT, TV, 31)]) := ⟨OW.out.new hg hb hbb⟩; clear OW hb hbb hg; have OW := n_; clear n_)
  refine wp_loop (fun a W => ∃ (k : Nat) (A : Option Addr) (c : Nat) (l : List ByteArray) (Ds : List Nat) (u7 u8 u9 u10 u11 u12 u13 u14 u15 u16 u17 u18 u19 u20 u21 u22 u23 u24 u25 u26 : Value), a = { tmps := #[.agg TV, .slice A l.length c, .int .i64 (k : Int), .pointer (some ⟨gT, 0, none⟩), undef, undef, .slice none 0 0, u7, u8, u9, u10, u11, u12, u13, u14, u15, u16, u17, u18, u19, u20, u21, u22, u23, u24, u25, u26], defers := Ds.map fun D => { target := .collected D, args := #[] } } ∧ k ≤ k0 ∧ Aside0 (LvL w W gT A c l Ds ∧ levF k l = levF k0 L)) (fun a _ => (intOf (a.tmps.getD 2 undef)).toNat) ?h0 ?round
  case h0 => exact ⟨k0, A, c, L, [], _, _, _, _, _, _, _, _, _, _, _, _, _, _, _, _, _, _, _, _, rfl, Nat.le_refl _, ⟨⟨OW.out.below, OW.out.blk 0 rfl, (OW.out.2.1 0 _ rfl).1, Kd.C_below HR.out.1 OW.out.below, HR.out.2.1, HR.out.2.2.1, HR.out.2.2.2, List.nodup_nil, fun D hD => by cases hD⟩, rfl⟩⟩
  case round =>
    clear OW HR
    rintro a wr ⟨k, A, c, l, Ds, u7, u8, u9, u10, u11, u12, u13, u14, u15, u16, u17, u18, u19, u20, u21, u22, u23, u24, u25, u26, rfl, hk, HL⟩
    by_cases h0 : 0 < k
    · obtain ⟨q, rfl⟩ : ∃ q, k = q + 1 := ⟨k - 1, by omega⟩
      obtain ⟨hLB, hgT, hgB, hC, hlc, hl64, hl32, hnd, hDs⟩ := HL.out.1
      have HLV := Aside0.mk HL.out.2
      have HC := Aside0.mk (show Kd.C Kd.string wr A l.length l ∧ l.length ≤ c ∧ l.length ≤ 64 ∧ A32 l ∧ wr.heap[gT]? = some (.cells TV 31 (0, 0)) from ⟨hC, hlc, hl64, hl32, hgT⟩)
      have HB := Aside0.mk hLB
      have HG := Aside0.mk hgB
      have HD := Aside0.mk (show Ds.Nodup ∧ ∀ D ∈ Ds, w.heap.size ≤ D ∧ wr.heap[D]? = some (.deferred (some [])) from ⟨hnd, hDs⟩)
      clear hLB hgT hgB hC hlc hl64 hl32 hnd hDs HL
      have OW := Aside0.mk (Mem.Own.nil wr)
      have HCH := Aside0.mk (fun W => chunk_c A l.length c W)
      go_wp2_with (first
        | ((with_reducible refine gate_dst (N := 7) rfl ?_); refine box_event ?hg (N := 7) ?hd (cs := #[.slice none 0 0]) (t := 22) ?hr ?_; (case hd => rfl); (case hg => rfl); (case hr => first | (go_simp; done) | (go_simp; rfl)); intro gU hg W_ hb hbb; have n_ : Aside0 (Mem.Own wr W_ [(gU, #[.slice none 0 0], 22)]) := ⟨OW.out.new hg hb hbb⟩; clear OW hb hbb hg; have OW := n_; clear n_)
        | (go_at_call 80; (with_reducible refine (HCH.out _).mono ?_); rintro e w_ ⟨rfl, rfl⟩))
      have O1 := OW.out.new rfl (blk_new W_ (.cells #[.slice A l.length c] 22)) (below_alloc (Below.refl _ _) _)
      have hb3 := blk_new (W_.alloc (.cells #[.slice A l.length c] 22)) (.cells #[.int .i64 4] 3)
      rw [World.size_alloc] at hb3
      have O2 := Aside0.mk (O1.new (World.size_alloc W_ _).symm hb3 (below_alloc (Below.refl _ _) _))
      clear O1 hb3 OW
      obtain ⟨Bn, hBn⟩ : ∃ b, W_.heap.size = b := ⟨_, rfl⟩
      obtain ⟨w1, hw1⟩ : ∃ x, (W_.alloc (.cells #[.slice A l.length c] 22)).alloc (.cells #[.int .i64 4] 3) = x := ⟨_, rfl⟩
      rw [hw1] at O2 ⊢
      rw [hBn] at O2 ⊢
      clear hw1 hBn
      have hBn1 : Bn + 1 < w1.heap.size := blk_lt (O2.out.blk 2 rfl)
      refine (wpIn_wide (n := 5)).1 ?_
      refine range_cellD (α := Option Addr × List ByteArray) (encs := encC) (Nx := fun pre x => pre ++ [x] <+: chN A l l.length 0) (Bn := Bn) (Kp := KpC Bn A l.length c) rfl (by omega) (gf := 101) (lb := #[.pointer (some ⟨Bn, 0, none⟩), .pointer (some ⟨Bn + 1, 0, none⟩)]) rfl trivial (enters_of Try.func101 (by kernel_rfl) rfl)
        (chunkN 4 (by omega) Bn A c l w1 (by have := HC.out.2.2.1; omega) HC.out.2.1 hBn1 (O2.out.blk 1 rfl) (O2.out.blk 2 rfl)) kpC_t (fun V lp o o2 hl h hc => kpC_b V lp o o2 h hc) (Below.refl _ _) (fun _ => rfl)
        (LvI wr gT gU Bn A c l) (fun _ _ _ => False) (lvI_from O2.out.size) (fun _ _ _ _ _ hs _ _ => hs) (fun _ _ v hs => lvI_set hs v) ⟨_, _, O2.out, Kd.R_nil _ _ _ _ _⟩
        (fun x => { tmps := #[.agg TV, .slice A l.length c, .int .i64 ((q : Int) + 1), .pointer (some ⟨gT, 0, none⟩), undef, undef, .slice none 0 0, .pointer (some ⟨gU, 0, none⟩), .slice x.1 x.2.length x.2.length, .int .i64 ((q : Int) + 1), .bool true, u11, u12, .slice A l.length c, .func (.func 101) #[] #[.pointer (some ⟨Bn, 0, none⟩), .pointer (some ⟨Bn + 1, 0, none⟩)], .slice x.1 x.2.length x.2.length, u16, u17, u18, u19, u20, u21, u22, u23, u24, u25, u26], defers := [] }) ?assign ?body ?done ?stop
      case assign =>
        intro lp x W K hK
        gi_wp2
        exact hK
      case stop =>
        rintro D c pre W _ _ h _
        exact h.elim
      case body =>
        have HSZ := Aside0.mk O2.out.size
        clear O2 hBn1 HCH
        rintro lp pre ⟨xa, xs⟩ W ⟨v, u, hO, hR⟩ hnx
        obtain ⟨a, b, hab, hb, hx⟩ := chN_mem _ _ _ _ _ (hnx.subset (List.mem_append_right _ (List.mem_singleton_self _)))
        obtain ⟨rfl, rfl⟩ := Prod.mk.inj hx
        have hCx := (cut_full A c l a b hab hb HC.out.2.1).2 wr HC.out.1
        have hx32 : A32 ((l.take b).drop a) := fun s hs => HC.out.2.2.2.1 s (List.mem_of_mem_take (List.mem_of_mem_drop hs))
        have hxl : ((l.take b).drop a).length ≤ 64 := by rw [List.length_drop, List.length_take]; have := HC.out.2.2.1; omega
        have hpl : (upP pre).length ≤ 64 := by
          have h1 := hnx.length_le
          have h2 := chN_len A l l.length 0
          have h3 := upP_len pre
          have h4 := HC.out.2.2.1
          rw [List.length_append, List.length_singleton] at h1
          omega
        clear hnx hx hab hb
        generalize A.map (·.add a) = xa at *
        generalize (l.take b).drop a = xs at *
        by_cases h4 : xs.length = 4
        · have HUP := Aside0.mk (upP_yes pre (xa, xs) h4)
          have HRT := Aside0.mk (fun W h => root_c 100000 xa xs.length xs W (by omega) (by omega) hx32.sm (Nat.le_refl _) h)
          have hfold : rootN 100000 xs = rootF xs := rfl
          simp only [hfold] at HRT
          simp only at HUP ⊢
          rw [h4] at HRT hCx ⊢
          obtain ⟨r, hr⟩ : ∃ r, rootF xs = r := ⟨_, rfl⟩
          rw [hr] at HRT HUP
          obtain ⟨A1, c1, rfl⟩ := Kd.R_slice hR
          obtain ⟨nu, hnu⟩ : ∃ n, (upP pre).length = n := ⟨_, rfl⟩
          rw [hnu] at hO hR hpl
          have HOL := Aside0.mk (show (upP pre).length ≤ 64 by omega)
          obtain ⟨ol, hol⟩ : ∃ o, upP pre = o := ⟨_, rfl⟩
          rw [hol] at HUP hR HOL
          have OD := Aside0.mk hO.drew
          have HKD := Aside0.mk (KeepsOthers.drew W)
          have OO := Aside0.mk hO
          have HT := Aside0.mk (Kd.R_drew hR)
          have CX := Aside0.mk (Kd.C_below hCx OD.out.below)
          have cU : W.drew.cell? ⟨gU, 0, none⟩ = some (.slice A1 nu c1) := (OD.out.cell 0 rfl 0).trans rfl
          have hT := Aside0.mk (blk_below HC.out.2.2.2.2 OD.out.below)
          clear hO hR hCx hx32 hxl hpl h4 hfold hr hnu hol
          gi_wp2_with fail
          refine InR.startIn_ (m := 7) (S := fun w' => Below (W).drew.heap.size (W).drew w') (ds := [5, 6]) #[false, false, false, false, false, false, false] (by kernel_rfl) (by rintro ⟨_, _, h⟩; exact h) (by kernel_rfl) rfl rfl (Below.refl _ _) (fun hHeld => ?_)
          generalize (W).drew = W0 at *
          refine take_ (i := 0) (N := (some 19)) (v := ?_) (a' := ?_) #[true, false, false, false, false, false, false] rfl rfl (by kernel_rfl) (fun _ _ _ h => h) (Or.inl ⟨by rfl, ?_⟩) hHeld ?_ ?_
          rotate_left
          · intro w' hS
            have s0 := pw_cell_below hS cU
            go_simp
            first | done | with_reducible rfl
          rotate_left
          · simp only [Act.put, List.setIfInBounds_toArray, List.set_cons_zero, List.set_cons_succ, i64_w, i32_w]
            rfl
          refine take_ (i := 1) (N := (some 20)) (a' := ?_) #[true, true, false, false, false, false, false] rfl rfl (by kernel_rfl) (fun _ _ _ h => h) (yields_tab (by rfl) (.tmp 3) rfl gT rfl (fun w' hS => hS) hT.out) hHeld ?_ ?_
          rotate_left
          · simp only [Act.put, List.setIfInBounds_toArray, List.set_cons_zero, List.set_cons_succ, i64_w, i32_w]
            rfl
          refine pure_ (i := 2) (N := (some 21)) (v := ?_) (a' := ?_) #[true, true, true, false, false, false, false] rfl rfl (by kernel_rfl) (fun _ _ _ h => h) (Or.inl ⟨by rfl, ?_⟩) ?_ ?_
          rotate_left
          · intro w'
            go_simp
            first | done | with_reducible rfl
          rotate_left
          · simp only [Act.put, List.setIfInBounds_toArray, List.set_cons_zero, List.set_cons_succ, i64_w, i32_w]
            rfl
          refine one_ (i := 3) (N := (some 22)) #[true, true, true, true, false, false, false] rfl rfl (by kernel_rfl) (by decide) (fun K hK => ?_)
          refine goes_ Try.func30 (by kernel_rfl) rfl #[.agg TV, .slice xa 4 4] (by rfl) rfl rfl (by (try simp only [List.map_toArray, List.map_cons, List.map_nil]); first | done | rfl) ?_
          (with_reducible refine (HRT.out _ (Kd.C_below CX.out hHeld)).mono ?_)
          rintro e w1 ⟨rfl, hB⟩
          refine ⟨_, rfl, ?_⟩
          have hS2 : Below W0.heap.size W0 w1 := below_step hHeld hB
          clear hB hHeld
          refine hK.out _ _ hS2 (fun hHeld => ?_)
          clear hK K
          refine norm_ (a' := ?_) ?_ ?_
          rotate_left
          · show Act.put _ (some 22) _ = _
            simp only [Act.put, List.setIfInBounds_toArray, List.set_cons_zero, List.set_cons_succ, i64_w, i32_w]
            rfl
          refine one_ (i := 4) (N := (some 23)) #[true, true, true, true, true, false, false] rfl rfl (by kernel_rfl) (by decide) (fun K hK => ?_)
          refine value_ (v := .slice (some ⟨w1.heap.size, 0, none⟩) 1 1) (w1 := w1.alloc (.cells #[.string r] 9)) (by rfl) rfl (by first | (go_simp; done) | (go_simp; rfl)) ?_
          have hS2 : Below W0.heap.size W0 (w1.alloc (.cells #[.string r] 9)) := below_alloc hHeld _
          have HH1 := Aside0.mk hHeld
          clear hHeld
          refine hK.out _ _ hS2 (fun hHeld => ?_)
          clear hK K
          refine norm_ (a' := ?_) ?_ ?_
          rotate_left
          · show Act.put _ (some 23) _ = _
            simp only [Act.put, List.setIfInBounds_toArray, List.set_cons_zero, List.set_cons_succ, i64_w, i32_w]
            rfl
          refine last_ (i := 5) (N := (some 24)) #[true, true, true, true, true, true, false] rfl rfl (by kernel_rfl) (by decide) (fun K hK => ?_)
          have O1 := Aside0.mk (OD.out.step HH1.out)
          have HT1 := Aside0.mk (Kd.R_below HT.out HH1.out)
          refine Kd.R_append_step (P := Try.prog) Kd.string (w0 := wr) (W := w1) wr.heap.size (by rfl) (.tmp 19) (.tmp 23) 22 9 (.string ⟨#[]⟩) 16 rfl Try.underlying22 info_str rfl (by decide) (by decide) (.slice A1 nu c1) ol r [.string r] (fun _ => True) (fun _ => False) rfl rfl rfl (fun _ h => h.elim) (fun _ _ => trivial) HT1.out O1.out.below O1.out.size (by have := HOL.out; omega) ?_
          intro v1 w2 hr1 hb1 hg1 hat1
          obtain ⟨A3, c3, e1⟩ := Kd.R_slice hr1
          generalize (ol ++ [r]).length = m1 at e1
          subst e1
          have OW := Aside0.mk (O1.out.grown hg1 (fun k hk => Kd.R_base HT1.out k hk) (fun i b hb => by
            rcases i with _ | _ | _ | i
            · cases hb; exact fun e => Kd.R_ne HT1.out (O1.out.blk 0 rfl) (by decide) e
            · cases hb; exact fun e => Kd.R_ne HT1.out (O1.out.blk 1 rfl) (by decide) e
            · cases hb; exact fun e => Kd.R_ne HT1.out (O1.out.blk 2 rfl) (by decide) e
            · cases hb))
          have HV := Aside0.mk hr1
          have HK : Aside0 (KeepsOthers W w2) := ⟨(HKD.out.trans (keeps_below HH1.out)).trans (keeps_row HT1.out hg1)⟩
          have z1 := (OW.out.cell 0 rfl 0).trans rfl
          have y1 := OW.out.frozen 0 rfl 0
          clear hr1 hb1 hg1 hat1 OD O1 HT HT1 HH1 cU
          refine hK.out _ _ ?_
          clear hK K
          refine norm_ (a' := ?_) ?_ ?_
          rotate_left
          · show Act.put _ (some 24) _ = _
            simp only [Act.put, List.setIfInBounds_toArray, List.set_cons_zero, List.set_cons_succ, i64_w, i32_w]
            rfl
          refine last_ (i := 6) (N := none) #[true, true, true, true, true, true, true] rfl rfl (by kernel_rfl) (by decide) (fun K hK => ?_)
          refine skip_ (by rfl) rfl (by first | (go_simp; done) | (go_simp; rfl)) ?_
          refine hK.out _ _ ?_
          clear hK K
          refine done_ (by kernel_rfl) ?_
          have OP := Aside0.mk (OW.out.put 0 rfl 0 (.slice A3 m1 c3) rfl)
          have HV2 := Aside0.mk (Kd.R_set HV.out (OW.out.blk 0 rfl) (by decide) 0 (.slice A3 m1 c3))
          clear z1 y1
          gi_wp2_with fail
          refine ⟨(HK.out.trans (KeepsOthers.setCell _ _ _)).from _, ?_, ?_⟩
          · rintro ⟨hz, hz2⟩
            have h1 : Boxed W Bn 22 u := OO.out.blk 1 rfl
            have h2 : .slice A l.length c = u := by
              unfold Boxed at hz h1
              rw [hz] at h1
              injection h1 with h1
              injection h1 with h1
              simpa using h1
            rw [h2]
            exact ⟨OP.out.blk 1 rfl, OP.out.blk 2 rfl⟩
          · exact ⟨_, u, OP.out, by rw [HUP.out]; exact HV2.out⟩
        · have h4i : ¬ (xs.length : Int) = 4 := by omega
          have HNO := Aside0.mk (upP_no pre (xa, xs) h4)
          have HO := Aside0.mk hO
          have HRR := Aside0.mk hR
          clear hO hR hCx hx32 hxl hpl h4
          gi_wp2_with fail
          exact ⟨KeepsFrom.refl _ _, fun hz => hz, ⟨v, u, HO.out, by rw [HNO.out]; exact HRR.out⟩⟩
      case done =>
        rintro D xs W hD rfl ⟨v, u, hO, hR⟩ hK
        have hsz : wr.heap.size ≤ D := Nat.le_trans O2.out.size hD
        rw [upP_any] at hR
        have hR2 : SR W wr.heap.size v (upF l) := hR
        have hul := upF_len l
        have hu32 := upF_32 l HC.out.2.2.2.1 HC.out.2.2.1
        have hlev : levF q (upF l) = levF k0 L := HLV.out
        obtain ⟨Au, cu, rfl, hcu, hCu⟩ := Kd.R_reads hR2
        have hc0 := (hO.cell 0 rfl 0).trans rfl
        have HF := Aside0.mk (show LvL w W gT Au cu (upF l) (D :: Ds) ∧ levF q (upF l) = levF k0 L from ⟨⟨below_step HB.out hO.below, blk_below HC.out.2.2.2.2 hO.below, HG.out, hCu, hcu, by have := HC.out.2.2.1; omega, hu32,
          List.nodup_cons.2 ⟨fun hm => by have := blk_lt (HD.out.2 D hm).2; omega, HD.out.1⟩, fun E hE => by
            rcases List.mem_cons.1 hE with rfl | hE
            · exact ⟨Nat.le_trans HB.out.size hsz, hK⟩
            · obtain ⟨h1, h2⟩ := HD.out.2 E hE
              exact ⟨h1, (hO.below.block E (blk_lt h2)).trans h2⟩⟩, hlev⟩)
        clear hO hR hR2 hul hu32 hlev hcu hCu hD hsz hK HC HB HG HD HLV O2 hBn1
        generalize upF l = ul at *
        go_wp2_with fail
        exact ⟨⟨q, Au, cu, ul, D :: Ds, _, _, _, _, _, _, _, _, _, _, _, _, _, _, _, _, _, _, _, _, rfl, by omega, HF⟩, by simp [intOf]⟩
    · obtain rfl : k = 0 := by omega
      have hlev : l = levF k0 L := HL.out.2
      subst hlev
      go_wp2_with fail
      exact leaves_all w A _ (fun W hC hB => ⟨_, results_tmp rfl _ _ _, _, _, rfl, HL.out.1.2.2.2.2.1, hC, hB⟩) Ds wr HL.out.1.2.2.2.2.2.2.2.1 HL.out.1.2.2.2.2.2.2.2.2 HL.out.1.2.2.2.1 HL.out.1.1
end Go.Proofs.Ytondnammkcgjpaa.Til
namespace Go.Proofs.Ytondnammkcgjpaa.Til
open Go Go.RowKit Go.Shelf
open Go.Proofs.Ytondnammkcgjpaa.Mk Go.Proofs.Ytondnammkcgjpaa.Rg Go.Proofs.Ytondnammkcgjpaa.RgP
set_option linter.unusedVariables false
/-- n of a list from the a-th on -/
def seg (l : List ByteArray) (a n : Nat) : List ByteArray := (l.take (a + n)).drop a
theorem seg_len (l : List ByteArray) (a n : Nat) (h : a + n ≤ l.length) : (seg l a n).length = n := by unfold seg; rw [List.length_drop, List.length_take]; omega
theorem seg_take (l : List ByteArray) (a n m : Nat) (h : m ≤ n) : (seg l a n).take m = seg l a m := by
  unfold seg
  rw [List.take_drop, List.take_take]
  congr 2
  omega
theorem seg_drop (l : List ByteArray) (a n m : Nat) (h : m ≤ n) : (seg l a n).drop m = seg l (a + m) (n - m) := by
  unfold seg
  rw [List.drop_drop]
  congr 2
  omega
theorem up_get (l : List ByteArray) : ∀ f i j, l.length ≤ i + f → i + 4 * j + 4 ≤ l.length → (upP (chN none l f i))[j]? = some (rootF (seg l (i + 4 * j) 4))
  | 0, i, j, h, h2 => by omega
  | f + 1, i, j, h, h2 => by
    have hm : min (i + 4) l.length = i + 4 := by omega
    have hl4 : ((l.take (i + 4)).drop i).length = 4 := by rw [List.length_drop, List.length_take]; omega
    rw [chN, if_pos (by omega), hm]
    unfold upP
    rw [List.filter_cons, if_pos (by simp only [hl4]; rfl), List.map_cons]
    cases j with
    | zero => rw [List.getElem?_cons_zero, Nat.mul_zero, Nat.add_zero]; rfl
    | succ j =>
      rw [List.getElem?_cons_succ]
      have ih := up_get l f (i + 4) j (by omega) (by omega)
      unfold upP at ih
      rw [ih]
      congr 3
      omega
theorem up_len (l : List ByteArray) : ∀ f i, l.length ≤ i + f → (upP (chN none l f i)).length = (l.length - i) / 4
  | 0, i, h => by
    have : l.length - i = 0 := by omega
    rw [this]; rfl
  | f + 1, i, h => by
    have ih := up_len l f (i + 4) (by omega)
    rw [chN]
    split
    · rename_i hi
      unfold upP at ih ⊢
      rw [List.filter_cons]
      have hl : ((l.take (min (i + 4) l.length)).drop i).length = min (i + 4) l.length - i := by rw [List.length_drop, List.length_take]; omega
      split
      · rename_i hq
        rw [List.map_cons, List.length_cons, ih]
        have h4 : ((l.take (min (i + 4) l.length)).drop i).length = 4 := by simpa using hq
        rw [hl] at h4
        omega
      · rename_i hq
        rw [ih]
        have h4 : ¬ ((l.take (min (i + 4) l.length)).drop i).length = 4 := by simpa using hq
        rw [hl] at h4
        omega
    · rename_i hi
      have : l.length - i = 0 := by omega
      rw [this]; rfl
theorem upF_get (l : List ByteArray) (j : Nat) (h : 4 * j + 4 ≤ l.length) : (upF l)[j]? = some (rootF (seg l (4 * j) 4)) := by
  have h2 := up_get l l.length 0 j (by omega) (by omega)
  rw [Nat.zero_add] at h2
  exact h2
theorem upF_length (l : List ByteArray) : (upF l).length = l.length / 4 := by have := up_len l l.length 0 (by omega); rw [Nat.sub_zero] at this; exact this
theorem rootF_up (l : List ByteArray) (hl : l.length ≤ 64) : ∀ m a, m < 6 → 4 * a + 4 * 2 ^ m ≤ l.length → rootF (seg (upF l) a (2 ^ m)) = rootF (seg l (4 * a) (4 * 2 ^ m))
  | 0, a, _, h => by
    have hg := upF_get l a (by omega)
    have e : seg (upF l) a (2 ^ 0) = [rootF (seg l (4 * a) 4)] := by
      have hlt : a < (upF l).length := by rw [upF_length]; omega
      rw [List.getElem?_eq_getElem hlt] at hg
      unfold seg
      rw [Nat.pow_zero, List.take_succ_eq_append_getElem hlt, Option.some.inj hg, List.drop_left' (by rw [List.length_take]; omega)]
      rfl
    rw [e, rootF_one, Nat.pow_zero, Nat.mul_one]
  | m + 1, a, hm, h => by
    have hp : 2 ^ (m + 1) = 2 ^ m + 2 ^ m := by rw [Nat.pow_succ]; omega
    have hp0 : 0 < 2 ^ m := Nat.pow_pos (by omega)
    have hs1 : splitN (2 ^ (m + 1)) = 2 ^ m := split_two m (by omega)
    have hs2 : splitN (4 * 2 ^ (m + 1)) = 4 * 2 ^ m := by
      have h1 := split_two (m + 2) (by omega)
      have e1 : 2 ^ (m + 2 + 1) = 4 * 2 ^ (m + 1) := by simp only [Nat.pow_succ]; omega
      have e2 : 2 ^ (m + 2) = 4 * 2 ^ m := by simp only [Nat.pow_succ]; omega
      rw [e1, e2] at h1
      exact h1
    have hl1 : (seg (upF l) a (2 ^ (m + 1))).length = 2 ^ (m + 1) := seg_len _ _ _ (by rw [upF_length]; omega)
    have hl2 : (seg l (4 * a) (4 * 2 ^ (m + 1))).length = 4 * 2 ^ (m + 1) := seg_len _ _ _ h
    have i1 := rootF_up l hl m a (by omega) (by omega)
    have i2 := rootF_up l hl m (a + 2 ^ m) (by omega) (by omega)
    rw [rootF_split (seg (upF l) a (2 ^ (m + 1))) (by omega) (by omega), rootF_split (seg l (4 * a) (4 * 2 ^ (m + 1))) (by omega) (by omega), hl1, hl2, hs1, hs2,
      seg_take _ _ _ _ (by omega), seg_take _ _ _ _ (by omega), seg_drop _ _ _ _ (by omega), seg_drop _ _ _ _ (by omega), i1]
    have e3 : 2 ^ (m + 1) - 2 ^ m = 2 ^ m := by omega
    have e4 : 4 * 2 ^ (m + 1) - 4 * 2 ^ m = 4 * 2 ^ m := by omega
    have e5 : 4 * a + 4 * 2 ^ m = 4 * (a + 2 ^ m) := by omega
    rw [e3, e4, e5, i2]
/-- a level's hash: the root of its stretch of leaves -/
def hashF (l : List ByteArray) (k j : Nat) : ByteArray := rootF (seg l (j * 4 ^ k) (4 ^ k))
theorem lev_len : ∀ (k : Nat) (l : List ByteArray), (levF k l).length = l.length / 4 ^ k
  | 0, l => by rw [levF, Nat.pow_zero, Nat.div_one]
  | k + 1, l => by rw [levF, lev_len k, upF_length, Nat.div_div_eq_div_mul, Nat.pow_succ, Nat.mul_comm]
theorem lev_get : ∀ (k : Nat) (l : List ByteArray) (j : Nat), k < 4 → l.length ≤ 64 → j * 4 ^ k + 4 ^ k ≤ l.length → (levF k l)[j]? = some (hashF l k j)
  | 0, l, j, _, _, h => by
    rw [Nat.pow_zero, Nat.mul_one] at h
    have hlt : j < l.length := by omega
    rw [levF, List.getElem?_eq_getElem hlt]
    unfold hashF seg
    rw [Nat.pow_zero, Nat.mul_one, List.take_succ_eq_append_getElem hlt, List.drop_left' (by rw [List.length_take]; omega), rootF_one]
  | k + 1, l, j, hk, hl, h => by
    have hp0 : 0 < 4 ^ k := Nat.pow_pos (by omega)
    have e1 : 4 ^ (k + 1) = 4 * 4 ^ k := by rw [Nat.pow_succ]; omega
    have e2 : j * 4 ^ (k + 1) = 4 * (j * 4 ^ k) := by rw [e1, Nat.mul_left_comm]
    rw [e2, e1] at h
    have hu := upF_length l
    have ih := lev_get k (upF l) j (by omega) (by omega) (by omega)
    rw [levF, ih]
    unfold hashF
    have e3 : 4 ^ k = 2 ^ (2 * k) := by rw [Nat.pow_mul]
    have hr := rootF_up l hl (2 * k) (j * 4 ^ k) (by omega) (by rw [← e3]; omega)
    rw [← e3] at hr
    rw [hr, e2, e1]
end Go.Proofs.Ytondnammkcgjpaa.Til
namespace Go.Proofs.Ytondnammkcgjpaa.Til
open Go Go.RowKit Go.Shelf Go.Proofs.YtondnammkcgjpaaW.PrintWords Go.Proofs.YtondnammkcgjpaaW.PrintLast Go.Proofs.YtondnammkcgjpaaW.PrintMore
open Go.Proofs.Ytondnammkcgjpaa.ShaP Go.Proofs.Ytondnammkcgjpaa.Mk Go.Proofs.Ytondnammkcgjpaa.Rg Go.Proofs.Ytondnammkcgjpaa.Rng Go.Proofs.Ytondnammkcgjpaa.RgP
set_option linter.unusedVariables false
set_option linter.unusedSimpArgs false
/-- what a tile that is there is like -/
theorem width_pos (n : Nat) (hn : n ≤ 64) (lv ix : Int) (h : inTile ix (cntv n lv) ≠ 0) : ∃ k i m : Nat, lv = k ∧ ix = i ∧ k < 4 ∧ i ≤ 16 ∧ inTile ix (cntv n lv) = m ∧ 0 < m ∧ m ≤ 4 ∧ 4 * i + m ≤ n / 4 ^ k := by
  have h1 := inTile_in ix (cntv n lv)
  have hci := cntv_in n lv
  have hlv : 0 ≤ lv ∧ lv ≤ 3 := by
    by_cases hh : lv < 0 ∨ 3 < lv
    · exact absurd (by rw [cntv_out n lv (by omega)]; unfold inTile; split <;> omega) h
    · omega
  obtain ⟨k, rfl⟩ : ∃ k : Nat, lv = k := ⟨lv.toNat, by omega⟩
  have hcp := cnt_pow n (by omega) k (by omega)
  have hx0 : 0 ≤ ix := by
    by_cases hh : ix < 0
    · exact absurd (by unfold inTile; rw [if_pos hh]) h
    · omega
  obtain ⟨i, rfl⟩ : ∃ i : Nat, ix = i := ⟨ix.toNat, by omega⟩
  rw [hcp] at h h1 hci ⊢
  obtain ⟨q, hq⟩ : ∃ q, n / 4 ^ k = q := ⟨_, rfl⟩
  rw [hq] at h h1 hci ⊢
  have e : inTile (i : Int) (q : Int) = max 0 (min ((q : Int) - 4 * (i : Int)) 4) := by unfold inTile; rw [if_neg (by omega)]
  rw [e] at h h1 ⊢
  exact ⟨k, i, (max 0 (min ((q : Int) - 4 * (i : Int)) 4)).toNat, rfl, rfl, by omega, by omega, by omega, by omega, by omega, by rw [hq]; omega⟩
set_option maxRecDepth 100000 in
set_option maxHeartbeats 8000000 in
theorem cut_none (A : Option Addr) (c : Nat) (L : List ByteArray) (lv ix : Int) (w : World) (h : inTile ix (cntv L.length lv) = 0) :
    Calls Try.prog 18 #[.agg TV, .slice A L.length c, .agg #[.int .i64 lv, .int .i64 ix]] w fun e w' => e = .returned (.tuple #[.agg #[.int .i64 0, .int .i64 0, .slice none 0 0], .int .i64 5]) ∧ Below w.heap.size w w' := by
  have OW := Aside0.mk (Mem.Own.nil w)
  have HW := Aside0.mk (fun W => width_c (L.length : Int) lv ix W)
  rw [h] at HW
  clear h
  go_enter Try.func18, Try.ntmps18
  go_wp2_with (first
    | ((with_reducible refine gate_dst (N := 3) rfl ?_); refine box_event ?hg (N := 3) ?hd (cs := TV) (t := 31) ?hr ?_; (case hd => rfl); (case hg => rfl); (case hr => first | (go_simp; done) | (go_simp; rfl)); intro gT hg W_ hb hbb; have n_ : Aside0 (Mem.Own w W_ [(gT, TV, 31)]) := ⟨OW.out.new hg hb hbb⟩; clear OW hb hbb hg; have OW := n_; clear n_)
    | ((with_reducible refine gate_dst (N := 5) rfl ?_); refine box_event ?hg (N := 5) ?hd (cs := #[.int .i64 lv, .int .i64 ix]) (t := 24) ?hr ?_; (case hd => rfl); (case hg => rfl); (case hr => first | (go_simp; done) | (go_simp; rfl)); intro gI hg W_ hb hbb; have n_ : Aside0 (Mem.Own w W_ [(gT, TV, 31), (gI, #[.int .i64 lv, .int .i64 ix], 24)]) := ⟨OW.out.new hg hb hbb⟩; clear OW hb hbb hg; have OW := n_; clear n_)
    | ((with_reducible refine gate_dst (N := 6) rfl ?_); refine box_event ?hg (N := 6) ?hd (cs := #[.int .i64 0, .int .i64 0, .slice none 0 0]) (t := 35) ?hr ?_; (case hd => rfl); (case hg => rfl); (case hr => first | (go_simp; done) | (go_simp; rfl)); intro gZ hg W_ hb hbb; have i0 := ((OW.out.step hbb).cell 1 rfl 0).trans rfl; have i1 := ((OW.out.step hbb).cell 1 rfl 1).trans rfl; have n_ : Aside0 (Mem.Own w W_ [(gT, TV, 31), (gI, #[.int .i64 lv, .int .i64 ix], 24), (gZ, #[.int .i64 0, .int .i64 0, .slice none 0 0], 35)]) := ⟨OW.out.new hg hb hbb⟩; clear OW hb hbb hg; have OW := n_; clear n_)
    | (go_at_call 50; (with_reducible refine (HW.out _).mono ?_); rintro e wz ⟨rfl, hB⟩; have n_ := Aside0.mk (OW.out.step hB); clear OW hB i0 i1; have OW := n_; clear n_; have z0 := (OW.out.cell 2 rfl 0).trans rfl; have z1 := (OW.out.cell 2 rfl 1).trans rfl; have z2 := (OW.out.cell 2 rfl 2).trans rfl; have y0 := OW.out.frozen 2 rfl 0; have y1 := OW.out.frozen 2 rfl 1; have y2 := OW.out.frozen 2 rfl 2))
  have O2 := ((OW.out.put 2 rfl 0 (.int .i64 0) rfl).put 2 rfl 1 (.int .i64 0) rfl).put 2 rfl 2 (.slice none 0 0) rfl
  refine bodyPost_ret (results_ct (p := 6) (u := 7) (ty := 35) rfl _ _ gZ 35 _ _ _ rfl (O2.blk 2 rfl) Try.underlying35 rfl (by kernel_rfl)) rfl ⟨rfl, O2.below⟩
set_option maxRecDepth 100000 in
set_option maxHeartbeats 8000000 in
theorem cut_some (A : Option Addr) (c : Nat) (L : List ByteArray) (k i m : Nat) (w : World) (hl : L.length ≤ 64) (h32 : A32 L) (hc : L.length ≤ c) (hr : Kd.C Kd.string w A L.length L)
    (hk : k < 4) (hi : i ≤ 16) (hm : 0 < m) (hm4 : m ≤ 4) (hw : inTile (i : Int) (cntv L.length (k : Int)) = m) (hfit : 4 * i + m ≤ L.length / 4 ^ k) :
    Calls Try.prog 18 #[.agg TV, .slice A L.length c, .agg #[.int .i64 (k : Int), .int .i64 (i : Int)]] w fun e w' => ∃ A' c', e = .returned (.tuple #[.agg #[.int .i64 (k : Int), .int .i64 (i : Int), .slice A' m c'], .int .i64 0]) ∧
      SR w' w.heap.size (.slice A' m c') (seg (levF k L) (4 * i) m) ∧ Below w.heap.size w w' := by
  have OW := Aside0.mk (Mem.Own.nil w)
  have HI := Aside0.mk info_tab
  have HR := Aside0.mk hr
  have HW := Aside0.mk (fun W => width_c (L.length : Int) (k : Int) (i : Int) W)
  rw [hw] at HW
  have HLV := Aside0.mk (fun W h => level_c A c L k W (by omega) hl h32 hc h)
  have hll := lev_len k L
  rw [← hll] at hfit
  have hlm : (levF k L).length ≤ 64 := by rw [hll]; exact Nat.le_trans (Nat.div_le_self _ _) hl
  obtain ⟨lv, hlv⟩ : ∃ x, levF k L = x := ⟨_, rfl⟩
  rw [hlv] at HLV hfit hlm ⊢
  obtain ⟨a, ha⟩ : ∃ a, a = 4 * i := ⟨_, rfl⟩
  obtain ⟨b, hb⟩ : ∃ b, b = a + m := ⟨_, rfl⟩
  rw [← ha] at hfit ⊢
  have hsl := seg_len lv a m hfit
  have hseg : (lv.take b).drop a = seg lv a m := by rw [hb]; rfl
  have HCUT := Aside0.mk (fun (A8 : Option Addr) (c8 : Nat) (h8 : lv.length ≤ c8) => cut_mid A8 c8 lv a b (by omega) (by omega) h8)
  rw [hseg, hsl] at HCUT
  have HCL := Aside0.mk (fun (A9 : Option Addr) (c9 : Nat) (W : World) h => clone_c A9 c9 (seg lv a m) W (by rw [hsl]; omega) h)
  rw [hsl] at HCL
  generalize seg lv a m = sg at *
  have hm0 : ¬ (m : Int) = 0 := by omega
  have hia : (i : Int) * 4 = (a : Int) := by omega
  have hab : (a : Int) + (m : Int) = (b : Int) := by omega
  have hwa : wrap64 (a : Int) = (a : Int) := by unfold wrap64; omega
  have hwb : wrap64 (b : Int) = (b : Int) := by unfold wrap64; omega
  have HSG := Aside0.mk hsl
  clear hr hw hk hi hm hm4 hl h32 hc hfit hll hlm hlv ha hb hsl hseg
  go_enter Try.func18, Try.ntmps18
  go_wp2_with (first
    | ((with_reducible refine gate_dst (N := 3) rfl ?_); refine box_event ?hg (N := 3) ?hd (cs := TV) (t := 31) ?hr ?_; (case hd => rfl); (case hg => rfl); (case hr => first | (go_simp; done) | (go_simp; rfl)); intro gT hg W_ hb hbb; have n_ : Aside0 (Mem.Own w W_ [(gT, TV, 31)]) := ⟨OW.out.new hg hb hbb⟩; clear OW hb hbb hg; have OW := n_; clear n_)
    | ((with_reducible refine gate_dst (N := 5) rfl ?_); refine box_event ?hg (N := 5) ?hd (cs := #[.int .i64 (k : Int), .int .i64 (i : Int)]) (t := 24) ?hr ?_; (case hd => rfl); (case hg => rfl); (case hr => first | (go_simp; done) | (go_simp; rfl)); intro gI hg W_ hb hbb; have n_ : Aside0 (Mem.Own w W_ [(gT, TV, 31), (gI, #[.int .i64 (k : Int), .int .i64 (i : Int)], 24)]) := ⟨OW.out.new hg hb hbb⟩; clear OW hb hbb hg; have OW := n_; clear n_)
    | ((with_reducible refine gate_dst (N := 6) rfl ?_); refine box_event ?hg (N := 6) ?hd (cs := #[.int .i64 0, .int .i64 0, .slice none 0 0]) (t := 35) ?hr ?_; (case hd => rfl); (case hg => rfl); (case hr => first | (go_simp; done) | (go_simp; rfl)); intro gZ hg W_ hb hbb; have i0 := ((OW.out.step hbb).cell 1 rfl 0).trans rfl; have i1 := ((OW.out.step hbb).cell 1 rfl 1).trans rfl; have n_ : Aside0 (Mem.Own w W_ [(gT, TV, 31), (gI, #[.int .i64 (k : Int), .int .i64 (i : Int)], 24), (gZ, #[.int .i64 0, .int .i64 0, .slice none 0 0], 35)]) := ⟨OW.out.new hg hb hbb⟩; clear OW hb hbb hg; have OW := n_; clear n_)
    | (go_at_call 50; (with_reducible refine (HW.out _).mono ?_); rintro e wz ⟨rfl, hB⟩; have n_ := Aside0.mk (OW.out.step hB); clear OW hB i0 i1; have OW := n_; clear n_; have i0 := (OW.out.cell 1 rfl 0).trans rfl; have i1 := (OW.out.cell 1 rfl 1).trans rfl))
  have OD := Aside0.mk OW.out.drew
  have KC := Aside0.mk (Kd.C_drew (Kd.C_below HR.out OW.out.below))
  have c0 : wz.drew.cell? ⟨gI, 0, none⟩ = some (.int .i64 (k : Int)) := (OD.out.cell 1 rfl 0).trans rfl
  have c1 : wz.drew.cell? ⟨gI, 1, none⟩ = some (.int .i64 (i : Int)) := (OD.out.cell 1 rfl 1).trans rfl
  clear OW i0 i1
  refine start_ (n := 15) (S := fun w' => Below (wz).drew.heap.size (wz).drew w') (ds := [13]) #[false, false, false, false, false, false, false, false, false, false, false, false, false, false, false] (by kernel_rfl) rfl rfl (Below.refl _ _) (fun hHeld => ?_)
  generalize (wz).drew = W0 at *
  refine take_ (i := 0) (N := (some 20)) (v := ?_) (a' := ?_) #[true, false, false, false, false, false, false, false, false, false, false, false, false, false, false] rfl rfl (by kernel_rfl) (fun _ _ _ h => h) (Or.inl ⟨by rfl, ?_⟩) hHeld ?_ ?_
  rotate_left
  · intro w' hS
    have s0 := pw_cell_below hS c0
    have s1 := pw_cell_below hS c1
    go_simp
    first | done | with_reducible rfl
  rotate_left
  · simp only [Act.put, List.setIfInBounds_toArray, List.set_cons_zero, List.set_cons_succ, i64_w, i32_w]
    rfl
  refine take_ (i := 1) (N := (some 21)) (a' := ?_) #[true, true, false, false, false, false, false, false, false, false, false, false, false, false, false] rfl rfl (by kernel_rfl) (fun _ _ _ h => h) (yields_tab (by rfl) (.tmp 3) rfl gT rfl (fun w' hS => hS) (OD.out.blk 0 rfl)) hHeld ?_ ?_
  rotate_left
  · simp only [Act.put, List.setIfInBounds_toArray, List.set_cons_zero, List.set_cons_succ, i64_w, i32_w]
    rfl
  refine pure_ (i := 2) (N := (some 22)) (v := ?_) (a' := ?_) #[true, true, true, false, false, false, false, false, false, false, false, false, false, false, false] rfl rfl (by kernel_rfl) (fun _ _ _ h => h) (Or.inl ⟨by rfl, ?_⟩) ?_ ?_
  rotate_left
  · intro w'
    go_simp
    first | done | with_reducible rfl
  rotate_left
  · simp only [Act.put, List.setIfInBounds_toArray, List.set_cons_zero, List.set_cons_succ, i64_w, i32_w]
    rfl
  refine pure_ (i := 3) (N := (some 23)) (v := ?_) (a' := ?_) #[true, true, true, true, false, false, false, false, false, false, false, false, false, false, false] rfl rfl (by kernel_rfl) (fun _ _ _ h => h) (Or.inl ⟨by rfl, ?_⟩) ?_ ?_
  rotate_left
  · intro w'
    go_simp
    first | done | with_reducible rfl
  rotate_left
  · simp only [Act.put, List.setIfInBounds_toArray, List.set_cons_zero, List.set_cons_succ, i64_w, i32_w]
    rfl
  refine take_ (i := 4) (N := (some 24)) (v := ?_) (a' := ?_) #[true, true, true, true, true, false, false, false, false, false, false, false, false, false, false] rfl rfl (by kernel_rfl) (fun _ _ _ h => h) (Or.inl ⟨by rfl, ?_⟩) hHeld ?_ ?_
  rotate_left
  · intro w' hS
    have s0 := pw_cell_below hS c0
    go_simp
    first | done | with_reducible rfl
  rotate_left
  · simp only [Act.put, List.setIfInBounds_toArray, List.set_cons_zero, List.set_cons_succ, i64_w, i32_w]
    rfl
  refine pure_ (i := 6) (N := (some 26)) (v := ?_) (a' := ?_) #[true, true, true, true, true, false, true, false, false, false, false, false, false, false, false] rfl rfl (by kernel_rfl) (fun _ _ _ h => h) (Or.inl ⟨by rfl, ?_⟩) ?_ ?_
  rotate_left
  · intro w'
    go_simp
    first | done | with_reducible rfl
  rotate_left
  · simp only [Act.put, List.setIfInBounds_toArray, List.set_cons_zero, List.set_cons_succ, i64_w, i32_w]
    rfl
  refine pure_ (i := 7) (N := (some 27)) (v := ?_) (a' := ?_) #[true, true, true, true, true, false, true, true, false, false, false, false, false, false, false] rfl rfl (by kernel_rfl) (fun _ _ _ h => h) (Or.inl ⟨by rfl, ?_⟩) ?_ ?_
  rotate_left
  · intro w'
    go_simp
    first | done | with_reducible rfl
  rotate_left
  · simp only [Act.put, List.setIfInBounds_toArray, List.set_cons_zero, List.set_cons_succ, i64_w, i32_w]
    rfl
  refine pure_ (i := 8) (N := (some 28)) (v := ?_) (a' := ?_) #[true, true, true, true, true, false, true, true, true, false, false, false, false, false, false] rfl rfl (by kernel_rfl) (fun _ _ _ h => h) (Or.inl ⟨by rfl, ?_⟩) ?_ ?_
  rotate_left
  · intro w'
    go_simp
    first | done | with_reducible rfl
  rotate_left
  · simp only [Act.put, List.setIfInBounds_toArray, List.set_cons_zero, List.set_cons_succ, i64_w, i32_w]
    rfl
  refine pure_ (i := 9) (N := (some 29)) (v := ?_) (a' := ?_) #[true, true, true, true, true, false, true, true, true, true, false, false, false, false, false] rfl rfl (by kernel_rfl) (fun _ _ _ h => h) (Or.inl ⟨by rfl, ?_⟩) ?_ ?_
  rotate_left
  · intro w'
    have hwb2 : IntKind.i64.wrap (b : Int) = (b : Int) := (i64_w _).trans hwb
    go_simp
    first | done | with_reducible rfl
  rotate_left
  · simp only [Act.put, List.setIfInBounds_toArray, List.set_cons_zero, List.set_cons_succ, i64_w, i32_w]
    rfl
  refine one_ (i := 5) (N := (some 25)) #[true, true, true, true, true, true, true, true, true, true, false, false, false, false, false] rfl rfl (by kernel_rfl) (by decide) (fun K hK => ?_)
  refine goes_ Try.func52 (by kernel_rfl) rfl #[.agg TV, .slice A L.length c, .int .i64 (k : Int)] (by rfl) rfl rfl (by (try simp only [List.map_toArray, List.map_cons, List.map_nil]); first | done | rfl) ?_
  (with_reducible refine (HLV.out _ (Kd.C_below KC.out hHeld)).mono ?_)
  rintro e wa ⟨A8, c8, rfl, h8, hC8, hB⟩
  refine ⟨_, rfl, ?_⟩
  have hS2 : Below W0.heap.size W0 wa := below_step hHeld hB
  obtain ⟨A9, hcut, hC9, _⟩ := HCUT.out A8 c8 h8
  have HC9 := Aside0.mk (hC9 wa hC8)
  clear hB hHeld h8 hC8 hC9
  refine hK.out _ _ hS2 (fun hHeld => ?_)
  clear hK K
  refine norm_ (a' := ?_) ?_ ?_
  rotate_left
  · show Act.put _ (some 25) _ = _
    simp only [Act.put, List.setIfInBounds_toArray, List.set_cons_zero, List.set_cons_succ, i64_w, i32_w]
    rfl
  refine pure_ (i := 10) (N := (some 30)) (v := ?_) (a' := ?_) #[true, true, true, true, true, true, true, true, true, true, true, false, false, false, false] rfl rfl (by kernel_rfl) (fun _ _ _ h => h) (Or.inl ⟨by rfl, ?_⟩) ?_ ?_
  rotate_left
  · intro w'
    go_simp
    first | done | with_reducible rfl
  rotate_left
  · simp only [Act.put, List.setIfInBounds_toArray, List.set_cons_zero, List.set_cons_succ, i64_w, i32_w]
    rfl
  refine one_ (i := 11) (N := (some 31)) #[true, true, true, true, true, true, true, true, true, true, true, true, false, false, false] rfl rfl (by kernel_rfl) (by decide) (fun K hK => ?_)
  refine goes_ Try.func51 (by kernel_rfl) rfl #[.slice A9 m (c8 - a)] (by rfl) rfl rfl (by (try simp only [List.map_toArray, List.map_cons, List.map_nil]); first | done | rfl) ?_
  (with_reducible refine (HCL.out A9 (c8 - a) _ HC9.out).mono ?_)
  rintro e wb ⟨v, rfl, hr, hB⟩
  refine ⟨_, rfl, ?_⟩
  have hS2 : Below W0.heap.size W0 wb := below_step hHeld hB
  obtain ⟨A5, c5, e5⟩ := Kd.R_slice hr
  rw [HSG.out] at e5
  subst e5
  have HV := Aside0.mk (Kd.R_lower hr (Nat.le_trans OD.out.size hHeld.size))
  clear hB hHeld hr HC9
  refine hK.out _ _ hS2 (fun hHeld => ?_)
  clear hK K
  refine norm_ (a' := ?_) ?_ ?_
  rotate_left
  · show Act.put _ (some 31) _ = _
    simp only [Act.put, List.setIfInBounds_toArray, List.set_cons_zero, List.set_cons_succ, i64_w, i32_w]
    rfl
  refine pure_ (i := 12) (N := (some 32)) (v := ?_) (a' := ?_) #[true, true, true, true, true, true, true, true, true, true, true, true, true, false, false] rfl rfl (by kernel_rfl) (fun _ _ _ h => h) (Or.inl ⟨by rfl, ?_⟩) ?_ ?_
  rotate_left
  · intro w'
    go_simp
    first | done | with_reducible rfl
  rotate_left
  · simp only [Act.put, List.setIfInBounds_toArray, List.set_cons_zero, List.set_cons_succ, i64_w, i32_w]
    rfl
  refine last_ (i := 13) (N := none) #[true, true, true, true, true, true, true, true, true, true, true, true, true, true, false] rfl rfl (by kernel_rfl) (by decide) (fun K hK => ?_)
  have O1 := Aside0.mk (OD.out.step hHeld)
  have z0 := (O1.out.cell 2 rfl 0).trans rfl
  have z1 := (O1.out.cell 2 rfl 1).trans rfl
  have z2 := (O1.out.cell 2 rfl 2).trans rfl
  have y0 := O1.out.frozen 2 rfl 0
  have y1 := O1.out.frozen 2 rfl 1
  have y2 := O1.out.frozen 2 rfl 2
  clear hHeld OD
  refine skip_ (by rfl) rfl (by first | (go_simp; done) | (go_simp; rfl)) ?_
  refine hK.out _ _ ?_
  clear hK K
  refine pure_ (i := 14) (N := (some 7)) (v := ?_) (a' := ?_) #[true, true, true, true, true, true, true, true, true, true, true, true, true, true, true] rfl rfl (by kernel_rfl) (fun _ _ _ h => h) (Or.inl ⟨by rfl, ?_⟩) ?_ ?_
  rotate_left
  · intro w'
    go_simp
    first | done | with_reducible rfl
  rotate_left
  · simp only [Act.put, List.setIfInBounds_toArray, List.set_cons_zero, List.set_cons_succ, i64_w, i32_w]
    rfl
  refine done_ (by kernel_rfl) ?_
  have P0 := O1.out.put 2 rfl 0 (.int .i64 (k : Int)) rfl
  have P1 := P0.put 2 rfl 1 (.int .i64 (i : Int)) rfl
  have P2 := P1.put 2 rfl 2 (.slice A5 m c5) rfl
  have V2 := Kd.R_set (Kd.R_set (Kd.R_set HV.out (O1.out.blk 2 rfl) (by decide) 0 (.int .i64 (k : Int))) (P0.blk 2 rfl) (by decide) 1 (.int .i64 (i : Int))) (P1.blk 2 rfl) (by decide) 2 (.slice A5 m c5)
  clear z0 z1 z2 y0 y1 y2
  go_wp2_with fail
  refine bodyPost_ret (results_ct (p := 6) (u := 7) (ty := 35) rfl _ _ gZ 35 _ _ _ rfl (P2.blk 2 rfl) Try.underlying35 rfl (by kernel_rfl)) rfl ⟨_, _, rfl, V2, P2.below⟩
end Go.Proofs.Ytondnammkcgjpaa.Til
namespace Go.Proofs.Ytondnammkcgjpaa.Til
open Go Go.Proofs Go.RowKit Go.Shelf
attribute [local go_sem] Oper.semAt_some

def rowK (lv : Int) (k : Nat) : List (Int × Int) := (List.range k).map fun (i : Nat) => (lv, (i : Int))
theorem rowK_succ (lv : Int) (k : Nat) : rowK lv (k + 1) = rowK lv k ++ [(lv, (k : Int))] := by simp [rowK, List.range_succ]
theorem rowK_len (lv : Int) (k : Nat) : (rowK lv k).length = k := by simp [rowK]
/-- how many tiles a level has -/
def nt (c : Int) : Nat := ((c + 3) / 4).toNat
def rowL (x : Lv) : List (Int × Int) := rowK x.1.1 (nt x.1.2)
def planL : List Lv → List (Int × Int) := List.foldl (fun l x => rowL x ++ l) []
theorem planL_snoc (pre : List Lv) (x : Lv) : planL (pre ++ [x]) = rowL x ++ planL pre := by simp [planL]
theorem nt_le (x : Lv) : nt x.1.2 ≤ 16 := by have := x.2; unfold nt; omega
theorem planL_len (pre : List Lv) : (planL pre).length ≤ 16 * pre.length := by
  suffices h : ∀ (l : List Lv) (acc : List (Int × Int)), (l.foldl (fun l x => rowL x ++ l) acc).length ≤ 16 * l.length + acc.length by
    have := h pre []; simpa [planL] using this
  intro l
  induction l with
  | nil => intro acc; simp
  | cons x l ih =>
    intro acc; rw [List.foldl_cons]; have h1 := ih (rowL x ++ acc); have h2 := nt_le x; have h3 : (rowL x ++ acc).length = nt x.1.2 + acc.length := by rw [List.length_append, rowL, rowK_len]
    simp only [List.length_cons]; omega
def idc (l : List (Int × Int)) : List Value := l.flatMap fun p => [.int .i64 p.1, .int .i64 p.2]
theorem idc_app (a b : List (Int × Int)) : idc (a ++ b) = idc a ++ idc b := by simp [idc]
theorem idc_one (l : List (Int × Int)) : ∀ u ∈ idc l, u.oneCell' = true := by
  intro u hu
  obtain ⟨p, _, hp⟩ := List.mem_flatMap.1 hu
  rcases List.mem_cons.1 hp with rfl | hp
  · rfl
  · rw [List.mem_singleton.1 hp]; rfl

theorem infoID : (Try.prog.info? 24).map (fun i => (i.zero, i.size, i.bytes)) = some (some (.agg #[.int .i64 0, .int .i64 0]), 2, 16) := by kernel_rfl

theorem two_new (w : World) (u v : Value) (t : TypeId) : ∀ j x, ([u, v] : List Value)[j]? = some x → (w.alloc (.cells #[u, v] t)).cell? ((⟨w.heap.size, 0, none⟩ : Addr).add j) = some x := by
  intro j x hx
  match j, hx with
  | 0, hx => obtain rfl : u = x := by simpa using hx
             simp [Addr.add]
  | 1, hx => obtain rfl : v = x := by simpa using hx
             simp [Addr.add]
  | j + 2, hx => simp at hx

/-- the inner loop's row, one longer -/
theorem row_more {W wr w1 : World} {B0 : Nat} {v : Value} {k : Nat} {xs : List Value} {tmp : Obj} (hrow : wr.ownsRow W.heap.size 24 2 v k xs) (hb : Below W.heap.size W wr) (hk : KeepsFrom B0 W wr)
    (hg : (wr.alloc tmp).grownBy w1 v.ownBlock) : Below W.heap.size W w1 ∧ KeepsFrom B0 W w1 := by
  refine ⟨(hb.alloc hb.size tmp).grown hg (by have := hb.size; simp; omega) (fun j ej => (hrow.lt j ej).1), hk.trans (((KeepsOthers.alloc wr tmp).trans (KeepsOthers.of_grownBy hg fun j o ej hj => ?_)).from B0)⟩
  rcases (hrow.alloc tmp).2 with ⟨rfl, _⟩ | ⟨g, cap, cur, rfl, _, hgb, _⟩
  · simp [Value.ownBlock] at ej
  · obtain rfl : g = j := by simpa [Value.ownBlock] using ej
    rw [hgb] at hj; cases hj; rfl

/-- the row laid ahead of what there was, in the variable's box -/
theorem box_more {W wr w1 : World} {B0 base Bo : Nat} {v v2 vo : Value} {k m : Nat} {xs ys : List Value} (hbase : base ≤ W.heap.size) (hBo : base ≤ Bo) (hvo : Boxed W Bo 88 vo)
    (hrow : wr.ownsRow W.heap.size 24 2 v k xs) (hb : Below W.heap.size W wr) (hk : KeepsFrom B0 W wr) (hown : w1.ownsRow W.heap.size 24 2 v2 m ys) (hg : wr.grownBy w1 v.ownBlock) :
    Boxed w1 Bo 88 vo ∧ Boxed (w1.setCell ⟨Bo, 0, none⟩ v2) Bo 88 v2 ∧ (w1.setCell ⟨Bo, 0, none⟩ v2).ownsRow base 24 2 v2 m ys ∧ KeepsFrom B0 W (w1.setCell ⟨Bo, 0, none⟩ v2) ∧ Below base W (w1.setCell ⟨Bo, 0, none⟩ v2) ∧ Below W.heap.size W w1 := by
  have h1 : Below W.heap.size W w1 := hb.grown hg hb.size (fun j ej => (hrow.lt j ej).1)
  have h2 : Boxed w1 Bo 88 vo := (h1.block Bo hvo.lt).trans hvo
  refine ⟨h2, h2.set v2, own_mono (hown.kept (grownBy_setCell' w1 Bo v2) (.inr ?_)) hbase, (hk.trans ((KeepsOthers.of_grownBy hg fun j o ej hj => ?_).from B0)).trans ((KeepsOthers.setCell _ _ _).from B0), (h1.mono hbase).setCell (p := ⟨Bo, 0, none⟩) hBo v2, h1⟩
  · intro e
    have := hown.lt Bo e
    have := hvo.lt
    omega
  · rcases hrow.2 with ⟨rfl, _⟩ | ⟨g, cap, cur, rfl, _, hgb, _⟩
    · simp [Value.ownBlock] at ej
    · obtain rfl : g = j := by simpa [Value.ownBlock] using ej
      rw [hgb] at hj; cases hj; rfl

theorem own_slice {w : World} {b e size : Nat} {v : Value} {n : Nat} {xs : List Value} (h : w.ownsRow b e size v n xs) : ∃ A m c, v = .slice A m c := by
  rcases h.2 with ⟨rfl, _⟩ | ⟨g, cap, cur, rfl, _⟩
  · exact ⟨_, _, _, rfl⟩
  · exact ⟨_, _, _, rfl⟩
theorem own_boxRow (base Bo : Nat) : Own (fun (pre : List Lv) W => ∃ v, Boxed W Bo 88 v ∧ W.ownsRow base 24 2 v (planL pre).length (idc (planL pre))) := by
  intro s A A2 row hs hg hr
  obtain ⟨v, h1, h2, _⟩ := holdsRow_own base Bo 88 24 2 (fun (pre : List Lv) => (planL pre).length) (fun pre => idc (planL pre)) (fun _ _ => True) s A A2 row (by obtain ⟨v, h1, h2⟩ := hs; exact ⟨v, h1, h2, trivial⟩) hg hr
  exact ⟨v, h1, h2⟩

def planF (n : Int) : List (Int × Int) := if 0 ≤ n ∧ n ≤ 64 then planL (lvs n (ln n)) else []

set_option maxRecDepth 100000 in
set_option maxHeartbeats 2000000 in
theorem plan_in (n : Int) (h0 : 0 ≤ n) (h1 : n ≤ 64) (w : World) : CallsIn Fence.wide 3 Try.prog 46 #[.int .i64 n] w fun e w' => ∃ v, e = .returned v ∧ w'.ownsRow w.heap.size 24 2 v (planL (lvs n (ln n))).length (idc (planL (lvs n (ln n)))) ∧ Below w.heap.size w w' := by
  obtain ⟨i0, hi, hz0, hz1, hz2⟩ := info_parts infoID
  have hin : inB n = true := by simp [inB, h0, h1]
  have HPO := Lib.hid (fun W => in_c n true hin W)
  have HL := Lib.hid (levels_c n)
  clear hin
  refine callsIn_of_wp_marks Try.func46 rfl trivial ?_ rfl
  simp only [Try.ntmps46, List.size_toArray, List.length_cons, List.length_nil, Nat.reduceAdd, Nat.reduceSub, Array.replicate_succ, Array.replicate_zero, List.push_toArray, List.append_toArray, List.nil_append, List.cons_append]
  gi_wp2_with (first | (refine ⟨trivial, ?_⟩; gi_at_call 73; refine (callsIn_wide.2 (HPO.out _)).mono ?_; rintro e w' ⟨rfl, rfl⟩) | (refine ⟨trivial, ?_⟩; gi_at_call 74; refine (callsIn_wide.2 (HL.out _)).mono ?_; rintro e w' ⟨rfl, rfl⟩))
  have bO := Boxed.new w 88 (.slice none 0 0)
  have bN := Boxed.new (w.alloc (.cells #[.slice none 0 0] 88)) 3 (.int .i64 n)
  rw [World.size_alloc] at bN
  have hB0 : Below w.heap.size w ((w.alloc (.cells #[.slice none 0 0] 88)).alloc (.cells #[.int .i64 n] 3)) := ((Below.refl _ w).alloc (Nat.le_refl _) _).alloc (by simp) _
  have bO2 := bO.alloc (.cells #[.int .i64 n] 3)
  have hsz : ((w.alloc (.cells #[.slice none 0 0] 88)).alloc (.cells #[.int .i64 n] 3)).heap.size = w.heap.size + 2 := by simp
  obtain ⟨W0, hW0⟩ : ∃ W0, (w.alloc (.cells #[.slice none 0 0] 88)).alloc (.cells #[.int .i64 n] 3) = W0 := ⟨_, rfl⟩
  rw [hW0] at hB0 bO2 hsz bN ⊢
  clear hW0 bO
  refine range_cell (α := Lv) (encs := enc2) (N := 4) (Bn := w.heap.size + 1) (Kp := Keep1 (w.heap.size + 1)) rfl (Nat.le_add_left 1 2) (gf := 100) (lb := #[.pointer (some ⟨w.heap.size + 1, 0, none⟩)]) rfl trivial (enters_of Try.func100 (by kernel_rfl) rfl)
    (levels1 Fence.wide 2 trivial rfl (by omega) (w.heap.size + 1) n h0 h1 W0 (by rw [hsz]; omega) bN) keep1_t
    (fun V l o o2 hl h hc => keep1_b (Bn := w.heap.size + 1) (B0 := w.heap.size + 2) (by omega) V l o o2 (by rw [hsz] at hl; exact hl) h hc) (Below.refl _ _) (fun _ => rfl)
    (fun (pre : List Lv) W => (∃ v, Boxed W w.heap.size 88 v ∧ W.ownsRow w.heap.size 24 2 v (planL pre).length (idc (planL pre))) ∧ Below w.heap.size w W ∧ ∃ u, Boxed W (w.heap.size + 1) 3 u)
    (fun _ _ _ => False)
    (OwnFrom.and (Own.from (own_boxRow _ _) _) (OwnFrom.and (ownFrom_below (Nat.le_refl _) (by rw [hsz]; omega)) (Own.from (fun s A A2 row hs hg hr => by obtain ⟨u, hu⟩ := hs; exact ⟨u, own_boxed _ _ _ [] A A2 row hu hg hr⟩) _)))
    (fun _ _ _ _ _ hs _ _ => hs)
    (fun s A v hs => by
      obtain ⟨⟨u, b1, r1⟩, hB, z, hz⟩ := hs
      exact ⟨⟨u, b1.other (by omega) v, r1.kept (grownBy_setCell' A (w.heap.size + 1) v) (.inr (hz.not_row (by decide) r1).symm)⟩, hB.setCell (p := ⟨w.heap.size + 1, 0, none⟩) (by show w.heap.size ≤ w.heap.size + 1; omega) v, v, hz.set v⟩)
    ⟨⟨_, bO2, World.ownsRow_nil _ _ _ _⟩, hB0, _, bN⟩
    (fun x => { tmps := #[.int .i64 n, undef, .slice none 0 0, .pointer (some ⟨w.heap.size, 0, none⟩), .int .i64 x.1.1, .int .i64 x.1.2, undef, undef, .int .i64 n, .bool true, .bool false, .int .i64 n, .func (.func 100) #[] #[.pointer (some ⟨w.heap.size + 1, 0, none⟩)], .int .i64 x.1.1, .int .i64 x.1.2, undef, undef, undef, undef, undef, undef, undef, undef, undef, undef, undef, undef, undef, undef, undef, undef], defers := [] }) ?assign ?body ?done ?stop
  case assign =>
    intro l x W K hK
    gi_wp2
    exact hK
  case body =>
    rintro l pre x W ⟨⟨vo, bo, hro⟩, hB, z, hz⟩ hlen
    have hx := x.2
    have hpl := planL_len pre
    have hnt := nt_le x
    gi_wp2
    gi_loopw [6, 7] (fun v i wr => ∃ k : Nat, k ≤ nt x.1.2 ∧ i = .int .i64 k ∧ wr.ownsRow W.heap.size 24 2 v k (idc (rowK x.1.1 k)) ∧ Below W.heap.size W wr ∧ KeepsFrom (w.heap.size + 2) W wr) (fun _ i _ => 16 - (intOf i).toNat)
    case atStart => exact ⟨0, Nat.zero_le _, rfl, World.ownsRow_nil _ _ _ _, Below.refl _ _, KeepsFrom.refl _ _⟩
    case round =>
      obtain ⟨k, hk, rfl, hrow, hbW, hkW⟩ := hrel
      have bo2 : Boxed wr w.heap.size 88 vo := (hbW.block _ bo.lt).trans bo
      have hwW := hbW.size
      have hww := hB.size
      by_cases hlt : (k : Int) * 4 < x.1.2
      · have hkn : k < nt x.1.2 := by unfold nt; omega
        gi_wp2_with (gi_at_builtin; refine wpListIn_append_own _ rfl (.tmp 21) (.tmp 25) 88 rfl W.heap.size 24 i0 (.agg #[.int .i64 0, .int .i64 0]) 2 16 Try.underlying88 hi hz0 hz1 hz2 rfl (by decide) _ _ _ rfl (hrow.alloc _) ⟨wr.heap.size, 0, none⟩ 1 1 [.int .i64 x.1.1, .int .i64 k] rfl rfl (two_new _ _ _ _) (by simp [Value.oneCell']) (by simp only [maxLen]; omega) (by omega) (by simp; omega) ?_; intro v2 w1 hown2 hgrow _)
        go_roundw
        case rel =>
          obtain ⟨r1, r2⟩ := row_more hrow hbW hkW hgrow
          exact ⟨k + 1, by omega, by go_num, by rw [rowK_succ, idc_app]; simpa [idc] using hown2, r1, r2⟩
        case measure => simp [intOf]; omega
      · have hkn : k = nt x.1.2 := by unfold nt at *; omega
        have hco := bo2.cell
        have hro2 := own_below hro rfl hbW
        gi_wp2_with (gi_at_builtin; refine append_two _ rfl (.tmp 27) (.tmp 28) 88 rfl W.heap.size 24 i0 (.agg #[.int .i64 0, .int .i64 0]) 2 16 Try.underlying88 hi hz0 hz1 hz2 rfl (by decide) _ _ _ rfl hrow _ _ _ _ rfl hro2 (idc_one _) (by simp only [maxLen]; omega) (by omega) hwW ?_; intro v2 w1 hown2 hgrow; obtain ⟨A2, m2, q2, rfl⟩ := own_slice hown2; obtain ⟨c1, c2, c3, c4, c5, c6⟩ := box_more (B0 := w.heap.size + 2) hww (Nat.le_refl _) bo hrow hbW hkW hown2 hgrow; have hcn := c1.cell; have hfn := c1.frozen)
        refine ⟨c4, fun u hu => ?_, ⟨⟨_, c2, ?_⟩, hB.trans c5, z, ?_⟩⟩
        · exact Boxed.other ((c6.block _ hu.lt).trans hu) (by omega) _
        · rw [planL_snoc, idc_app, List.length_append, rowL, rowK_len, ← hkn]; exact c3
        · exact Boxed.other ((c6.block _ hz.lt).trans hz) (by omega) _
  case done =>
    rintro D xs W hD rfl ⟨⟨v, hv, hrow⟩, hB, _⟩ hK
    have hc := hv.cell
    gi_wp2
    refine ⟨by simp, .inl ⟨_, _, rfl, run_takeDeferred hK, ?_⟩⟩
    exact ⟨_, results_tmp rfl _ _ _, v, rfl, ownsRow_putObj hrow _ hK rfl, hB.trans (belowK_b (w := w) (Nat.le_refl _) W D _ _ (by rw [hsz] at hD; omega) hK rfl rfl)⟩
  case stop =>
    rintro D c pre W _ _ h _
    exact h.elim

theorem plan_c (n : Int) (w : World) : Calls Try.prog 46 #[.int .i64 n] w fun e w' => ∃ v, e = .returned v ∧ w'.ownsRow w.heap.size 24 2 v (planF n).length (idc (planF n)) ∧ Below w.heap.size w w' := by
  by_cases h : 0 ≤ n ∧ n ≤ 64
  · rw [planF, if_pos h]; exact callsIn_wide.1 (plan_in n h.1 h.2 w)
  · have HV := Lib.hid (show planF n = [] from if_neg h)
    have HPO := Lib.hid (fun W => in_c n false (by simp [inB]; omega) W)
    clear h
    go_enter Try.func46, Try.ntmps46
    go_wp2_with (go_at_call 73; refine (HPO.out _).mono ?_; rintro e w' ⟨rfl, rfl⟩)
    go_ret
    exact ⟨_, rfl, by rw [HV.out]; exact World.ownsRow_nil _ _ _ _, (Below.refl _ w).alloc (Nat.le_refl _) _⟩
end Go.Proofs.Ytondnammkcgjpaa.Til
namespace Go.Proofs.Ytondnammkcgjpaa.Til
open Go Go.RowKit Go.Shelf Go.Proofs.YtondnammkcgjpaaW.PrintWords Go.Proofs.YtondnammkcgjpaaW.PrintLast Go.Proofs.YtondnammkcgjpaaW.PrintMore
open Go.Proofs.Ytondnammkcgjpaa.ShaP Go.Proofs.Ytondnammkcgjpaa.Mk Go.Proofs.Ytondnammkcgjpaa.Rg Go.Proofs.Ytondnammkcgjpaa.Rng Go.Proofs.Ytondnammkcgjpaa.RgP Go.Proofs.Ytondnammkcgjpaa.Rf
set_option linter.unusedVariables false
set_option linter.unusedSimpArgs false
theorem awake7_c (w : World) : Calls Try.prog 14 #[] w fun e w' => e = .returned (.bool true) ∧ Below w.heap.size w w' := by
  have OW := Aside0.mk (Mem.Own.nil w)
  have HC := Aside0.mk (fun W => count_c 5 1 1 (by decide) W)
  have HP := Aside0.mk (fun W => plan_c 5 W)
  have h3 : (planF 5).length = 3 := by decide +kernel
  rw [h3] at HP
  clear h3
  go_enter Try.func14, Try.ntmps14
  go_wp2_with (first
    | (go_at_call 45; (with_reducible refine (HC.out _).mono ?_); rintro e wz ⟨rfl, hB⟩; have n_ := Aside0.mk (OW.out.step hB); clear OW hB; have OW := n_; clear n_)
    | (go_at_call 46; (with_reducible refine (HP.out _).mono ?_); rintro e wz ⟨v, rfl, ho, hB⟩; have n_ := Aside0.mk (OW.out.step hB); clear OW hB; have OW := n_; clear n_; obtain ⟨g, cap, cur, rfl⟩ : ∃ g cap, ∃ cur : Unit, v = .slice (some ⟨g, 0, none⟩) 3 cap := (by rcases ho.2 with ⟨_, h⟩ | ⟨g, cap, cur, h, _⟩; exact absurd h (by decide); exact ⟨g, cap, (), h⟩); clear ho))
  go_ret
  exact ⟨rfl, OW.out.below⟩
/-- a tile's hashes -/
def tileF (L : List ByteArray) (lv ix : Int) : List ByteArray :=
  if inTile ix (cntv L.length lv) = 0 then [] else (List.range (inTile ix (cntv L.length lv)).toNat).map fun t => hashF L lv.toNat (4 * ix.toNat + t)
theorem tileF_len (L : List ByteArray) (lv ix : Int) : ((tileF L lv ix).length : Int) = inTile ix (cntv L.length lv) := by
  have := inTile_in ix (cntv L.length lv)
  unfold tileF
  split
  · rename_i h; rw [h]; rfl
  · rw [List.length_map, List.length_range]; omega
theorem seg_hash (L : List ByteArray) (k i m : Nat) (hk : k < 4) (hl : L.length ≤ 64) (hfit : 4 * i + m ≤ L.length / 4 ^ k) : seg (levF k L) (4 * i) m = (List.range m).map fun t => hashF L k (4 * i + t) := by
  have hll := lev_len k L
  have hsl := seg_len (levF k L) (4 * i) m (by rw [hll]; exact hfit)
  refine List.ext_getElem? fun t => ?_
  by_cases ht : t < m
  · have hp0 : 0 < 4 ^ k := Nat.pow_pos (by omega)
    have h1 : (4 * i + t + 1) * 4 ^ k ≤ L.length := Nat.le_trans (Nat.mul_le_mul_right _ (by omega : 4 * i + t + 1 ≤ L.length / 4 ^ k)) (Nat.div_mul_le_self _ _)
    have hg := lev_get k L (4 * i + t) hk hl (by rw [Nat.add_mul, Nat.one_mul] at h1; exact h1)
    rw [List.getElem?_map, List.getElem?_range ht]
    unfold seg
    rw [List.getElem?_drop, List.getElem?_take, if_pos (by omega), hg]
    rfl
  · rw [List.getElem?_eq_none (by omega), List.getElem?_eq_none (by rw [List.length_map, List.length_range]; omega)]
/-- tile.Cut at any id -/
theorem cut_any (A : Option Addr) (c : Nat) (L : List ByteArray) (lv ix : Int) (w : World) (hl : L.length ≤ 64) (h32 : A32 L) (hc : L.length ≤ c) (hr : Kd.C Kd.string w A L.length L) :
    Calls Try.prog 18 #[.agg TV, .slice A L.length c, .agg #[.int .i64 lv, .int .i64 ix]] w fun e w' => ∃ (x0 x1 E : Int) (A' : Option Addr) (c' : Nat),
      ((inTile ix (cntv L.length lv) = 0 ∧ x0 = 0 ∧ x1 = 0 ∧ E = 5) ∨ (inTile ix (cntv L.length lv) ≠ 0 ∧ x0 = lv ∧ x1 = ix ∧ E = 0)) ∧
      e = .returned (.tuple #[.agg #[.int .i64 x0, .int .i64 x1, .slice A' (tileF L lv ix).length c'], .int .i64 E]) ∧
      SR w' w.heap.size (.slice A' (tileF L lv ix).length c') (tileF L lv ix) ∧ Below w.heap.size w w' := by
  by_cases h : inTile ix (cntv L.length lv) = 0
  · have e0 : tileF L lv ix = [] := if_pos h
    rw [e0]
    refine (cut_none A c L lv ix w h).mono ?_
    rintro e w' ⟨rfl, hB⟩
    exact ⟨0, 0, 5, none, 0, .inl ⟨h, rfl, rfl, rfl⟩, rfl, Kd.R_nil _ _ _ _ _, hB⟩
  · obtain ⟨k, i, m, rfl, rfl, hk, hi, hw, hm, hm4, hfit⟩ := width_pos L.length hl lv ix h
    have e0 : tileF L k i = (List.range m).map fun t => hashF L k (4 * i + t) := by
      unfold tileF
      rw [if_neg h, hw]
      rfl
    have hlen : (tileF L k i).length = m := by rw [e0, List.length_map, List.length_range]
    rw [hlen]
    refine (cut_some A c L k i m w hl h32 hc hr hk hi hm hm4 hw hfit).mono ?_
    rintro e w' ⟨A', c', rfl, hR, hB⟩
    rw [seg_hash L k i m hk hl hfit, ← e0] at hR
    exact ⟨k, i, 0, A', c', .inr ⟨h, rfl, rfl, rfl⟩, rfl, hR, hB⟩
/-- a tile of fewer leaves is the beginning of the tile of more -/
theorem tileF_pre (L : List ByteArray) (q : Nat) (lv ix : Int) (hl : L.length ≤ 64) (hq : q ≤ L.length) (t : Nat) (ht : t < (tileF (L.take q) lv ix).length) :
    t < (tileF L lv ix).length ∧ (tileF (L.take q) lv ix)[t]? = (tileF L lv ix)[t]? := by
  have hlt : (L.take q).length = q := by rw [List.length_take]; omega
  have hne : inTile ix (cntv (L.take q).length lv) ≠ 0 := fun h => by unfold tileF at ht; rw [if_pos h] at ht; exact absurd ht (by simp)
  obtain ⟨k, i, m, rfl, rfl, hk, hi, hw, hm, hm4, hfit⟩ := width_pos (L.take q).length (by omega) lv ix hne
  have hlm : (tileF (L.take q) k i).length = m := by have := tileF_len (L.take q) k i; rw [hw] at this; omega
  rw [hlm] at ht
  rw [hlt] at hfit hw hne
  have hp0 : 0 < 4 ^ k := Nat.pow_pos (by omega)
  have hmono : q / 4 ^ k ≤ L.length / 4 ^ k := Nat.div_le_div_right hq
  have hc1 := cnt_pow q (by omega) k hk
  have hc2 := cnt_pow L.length (by omega) k hk
  have hge : (m : Int) ≤ inTile (i : Int) (cntv (L.length : Int) (k : Int)) := by
    rw [hc1] at hw
    rw [hc2, ← hw]
    generalize q / 4 ^ k = x at *
    generalize L.length / 4 ^ k = y at *
    unfold inTile
    rw [if_neg (by omega), if_neg (by omega)]
    omega
  have hlL := tileF_len L k i
  refine ⟨by omega, ?_⟩
  unfold tileF
  rw [hlt, if_neg (by rw [hw]; omega), if_neg (by omega)]
  rw [List.getElem?_map, List.getElem?_map, List.getElem?_range (by rw [hw]; omega), List.getElem?_range (by omega)]
  have h1 : (4 * i + t + 1) * 4 ^ k ≤ q := Nat.le_trans (Nat.mul_le_mul_right _ (by omega : 4 * i + t + 1 ≤ q / 4 ^ k)) (Nat.div_mul_le_self _ _)
  rw [Nat.add_mul, Nat.one_mul] at h1
  show some (hashF (L.take q) k (4 * i + t)) = some (hashF L k (4 * i + t))
  unfold hashF seg
  rw [List.take_take, Nat.min_eq_left h1]
theorem few6440 (A : Option Addr) (c : Nat) (l : List ByteArray) (w : World) (hr : Kd.C Kd.string w A l.length l) :
    Calls Try.prog 15 #[.slice A l.length c, .int .i64 64, .int .i64 40] w fun e w' => e = .returned (.bool (fewB l 64 40)) ∧ w = w' := few_c A c l 64 40 w (by omega) (by omega) hr
end Go.Proofs.Ytondnammkcgjpaa.Til
namespace Go.Proofs.Ytondnammkcgjpaa.Til
open Go Go.RowKit Go.Shelf Go.Proofs.YtondnammkcgjpaaW.PrintWords Go.Proofs.YtondnammkcgjpaaW.PrintLast Go.Proofs.YtondnammkcgjpaaW.PrintMore
open Go.Proofs.Ytondnammkcgjpaa.ShaP Go.Proofs.Ytondnammkcgjpaa.Mk Go.Proofs.Ytondnammkcgjpaa.Rg Go.Proofs.Ytondnammkcgjpaa.Rng Go.Proofs.Ytondnammkcgjpaa.RgP Go.Proofs.Ytondnammkcgjpaa.Rf
set_option linter.unusedVariables false
set_option linter.unusedSimpArgs false
set_option maxRecDepth 100000 in
set_option maxHeartbeats 4000000 in
theorem up_none (A : Option Addr) (n c : Nat) (x0 x1 : Int) (w : World) (hn : n < 4) :
    Calls Try.prog 27 #[.agg TV, .agg #[.int .i64 x0, .int .i64 x1, .slice A n c]] w fun e w' => e = .returned (.tuple #[.string ⟨#[]⟩, .int .i64 2]) ∧ Below w.heap.size w w' := by
  have OW := Aside0.mk (Mem.Own.nil w)
  have hni : (n : Int) < 4 := by omega
  have hn4 : ¬ (n : Int) = 4 := by omega
  clear hn
  go_enter Try.func27, Try.ntmps27
  go_wp2_with (first
    | ((with_reducible refine gate_dst (N := 2) rfl ?_); refine box_event ?hg (N := 2) ?hd (cs := TV) (t := 31) ?hr ?_; (case hd => rfl); (case hg => rfl); (case hr => first | (go_simp; done) | (go_simp; rfl)); intro gT hg W_ hb hbb; have n_ : Aside0 (Mem.Own w W_ [(gT, TV, 31)]) := ⟨OW.out.new hg hb hbb⟩; clear OW hb hbb hg; have OW := n_; clear n_)
    | ((with_reducible refine gate_dst (N := 3) rfl ?_); refine box_event ?hg (N := 3) ?hd (cs := #[.int .i64 x0, .int .i64 x1, .slice A n c]) (t := 35) ?hr ?_; (case hd => rfl); (case hg => rfl); (case hr => first | (go_simp; done) | (go_simp; rfl)); intro gX hg W_ hb hbb; have d2 := (blk_cell hb 2).trans rfl; have n_ : Aside0 (Mem.Own w W_ [(gT, TV, 31), (gX, #[.int .i64 x0, .int .i64 x1, .slice A n c], 35)]) := ⟨OW.out.new hg hb hbb⟩; clear OW hb hbb hg; have OW := n_; clear n_))
  go_ret2
  exact ⟨rfl, OW.out.below⟩
set_option maxRecDepth 100000 in
set_option maxHeartbeats 4000000 in
theorem up_some (A : Option Addr) (c : Nat) (x0 x1 : Int) (sg : List ByteArray) (w : World) (hs : Sm sg) (hn : sg.length = 4) (hc : 4 ≤ c) (hr : Kd.C Kd.string w A 4 sg) :
    Calls Try.prog 27 #[.agg TV, .agg #[.int .i64 x0, .int .i64 x1, .slice A 4 c]] w fun e w' => e = .returned (.tuple #[.string (rootF sg), .int .i64 0]) ∧ Below w.heap.size w w' := by
  have OW := Aside0.mk (Mem.Own.nil w)
  have HI := Aside0.mk info_tab
  have HR := Aside0.mk hr
  have HRT := Aside0.mk (fun W h => root_c 100000 A c sg W (by omega) (by omega) hs (by omega) h)
  rw [hn] at HRT
  have hfold : rootN 100000 sg = rootF sg := rfl
  rw [hfold] at HRT
  clear hr hs hn hc hfold
  go_enter Try.func27, Try.ntmps27
  go_wp2_with (first
    | ((with_reducible refine gate_dst (N := 2) rfl ?_); refine box_event ?hg (N := 2) ?hd (cs := TV) (t := 31) ?hr ?_; (case hd => rfl); (case hg => rfl); (case hr => first | (go_simp; done) | (go_simp; rfl)); intro gT hg W_ hb hbb; have n_ : Aside0 (Mem.Own w W_ [(gT, TV, 31)]) := ⟨OW.out.new hg hb hbb⟩; clear OW hb hbb hg; have OW := n_; clear n_)
    | ((with_reducible refine gate_dst (N := 3) rfl ?_); refine box_event ?hg (N := 3) ?hd (cs := #[.int .i64 x0, .int .i64 x1, .slice A 4 c]) (t := 35) ?hr ?_; (case hd => rfl); (case hg => rfl); (case hr => first | (go_simp; done) | (go_simp; rfl)); intro gX hg W_ hb hbb; have d2 := (blk_cell hb 2).trans rfl; have n_ : Aside0 (Mem.Own w W_ [(gT, TV, 31), (gX, #[.int .i64 x0, .int .i64 x1, .slice A 4 c], 35)]) := ⟨OW.out.new hg hb hbb⟩; clear OW hb hbb hg; have OW := n_; clear n_)
    | ((with_reducible refine gate_dst (N := 10) rfl ?_); refine wpList_load_row rfl 31 (.tmp 2) rfl gT rfl 31 TV (0, 0) _ (OW.out.blk 0 rfl) Try.underlying31 rfl HI.out ?_)
    | (go_at_call 30; (with_reducible refine (HRT.out _ (Kd.C_below HR.out OW.out.below)).mono ?_); rintro e w_ ⟨rfl, hB⟩; have n_ := Aside0.mk (OW.out.step hB); clear OW hB d2; have OW := n_; clear n_))
  go_ret2
  exact ⟨rfl, OW.out.below⟩
end Go.Proofs.Ytondnammkcgjpaa.Til
namespace Go.Proofs.Ytondnammkcgjpaa.Til
open Go Go.RowKit Go.Shelf Go.Proofs.YtondnammkcgjpaaW.PrintWords Go.Proofs.YtondnammkcgjpaaW.PrintLast Go.Proofs.YtondnammkcgjpaaW.PrintMore
open Go.Proofs.Ytondnammkcgjpaa.ShaP Go.Proofs.Ytondnammkcgjpaa.Mk Go.Proofs.Ytondnammkcgjpaa.Rg Go.Proofs.Ytondnammkcgjpaa.Rng Go.Proofs.Ytondnammkcgjpaa.RgP Go.Proofs.Ytondnammkcgjpaa.Rf
set_option linter.unusedVariables false
set_option linter.unusedSimpArgs false
set_option maxRecDepth 100000 in
set_option maxHeartbeats 4000000 in
theorem rhash_c (A : Option Addr) (c : Nat) (L : List ByteArray) (k j : Nat) (w : World) (hk : k < 4) (hl : L.length ≤ 64) (h32 : A32 L) (hfit : j * 4 ^ k + 4 ^ k ≤ L.length) (hc : L.length ≤ c) (hr : Kd.C Kd.string w A L.length L) :
    Calls Try.prog 26 #[.slice A L.length c, .int .i64 (k : Int), .int .i64 (j : Int)] w fun e w' => e = .returned (.string (hashF L k j)) ∧ Below w.heap.size w w' := by
  have HPW := Aside0.mk (fun W => power_c k hk W)
  have hp0 : 0 < 4 ^ k := Nat.pow_pos (by omega)
  obtain ⟨p, hp⟩ : ∃ p, 4 ^ k = p := ⟨_, rfl⟩
  have hh : hashF L k j = rootF ((L.take (j * p + p)).drop (j * p)) := by unfold hashF seg; rw [hp]
  rw [hp] at HPW hfit hp0
  obtain ⟨a, ha⟩ : ∃ a, j * p = a := ⟨_, rfl⟩
  obtain ⟨b, hb⟩ : ∃ b, a + p = b := ⟨_, rfl⟩
  rw [ha, hb] at hh hfit
  obtain ⟨A2, hcut, hC2, hc2⟩ := cut_mid A c L a b (by omega) hfit hc
  have s32 : A32 ((L.take b).drop a) := fun s hs => h32 s (List.mem_of_mem_take (List.mem_of_mem_drop hs))
  have l2 : ((L.take b).drop a).length ≤ 64 := by rw [List.length_drop, List.length_take]; omega
  have CS := Aside0.mk (hC2 w hr)
  rw [hh]
  generalize (L.take b).drop a = sg at *
  have HRT := Aside0.mk (fun W h => rfroot_c 100000 A2 (c - a) sg W (by omega) l2 s32.sm hc2 h)
  have hfold : rootN 100000 sg = rootF sg := rfl
  rw [hfold] at HRT
  have hbi : (a : Int) + (p : Int) = (b : Int) := by rw [← hb]; rfl
  have hb64 : b ≤ 64 := Nat.le_trans hfit hl
  have ha64 : a ≤ 64 := by rw [← hb] at hb64; exact Nat.le_trans (Nat.le_add_right a p) hb64
  have hw (x : Nat) (hx : x ≤ 64) : wrap64 (x : Int) = (x : Int) := by unfold wrap64; clear hr hcut hC2 hc2 hh hfit; omega
  have hwb := hw b hb64
  have hwa := hw a ha64
  have hai : (j : Int) * (p : Int) = (a : Int) := by rw [← ha]; exact (Int.natCast_mul j p).symm
  clear hw hb64 ha64
  clear hk hl h32 hfit hc hr hp0 hp hh ha hb hC2 hc2 s32 l2 hfold
  go_enter Try.func26, Try.ntmps26
  go_wp2_with (first
    | (go_at_call 57; (with_reducible refine (HPW.out _).mono ?_); rintro e w_ ⟨rfl, rfl⟩)
    | (go_at_call 36; (with_reducible refine (HRT.out _ CS.out).mono ?_); rintro e w1 ⟨rfl, hB⟩))
  go_ret
  exact ⟨rfl, hB⟩
end Go.Proofs.Ytondnammkcgjpaa.Til
namespace Go.Proofs.Ytondnammkcgjpaa.Til
open Go Go.RowKit Go.Shelf Go.Proofs.YtondnammkcgjpaaW.PrintWords Go.Proofs.YtondnammkcgjpaaW.PrintLast Go.Proofs.YtondnammkcgjpaaW.PrintMore
open Go.Proofs.Ytondnammkcgjpaa.ShaP Go.Proofs.Ytondnammkcgjpaa.Mk Go.Proofs.Ytondnammkcgjpaa.Rg Go.Proofs.Ytondnammkcgjpaa.Rng Go.Proofs.Ytondnammkcgjpaa.RgP Go.Proofs.Ytondnammkcgjpaa.Rf Go.Proofs.Ytondnammkcgjpaa.RgL
set_option linter.unusedVariables false
set_option linter.unusedSimpArgs false
set_option maxRecDepth 100000 in
set_option maxHeartbeats 8000000 in
theorem cuts_few (A : Option Addr) (c : Nat) (l : List ByteArray) (lv ix : Int) (w : World) (hb : fewB l 64 40 = false) (hr : Kd.C Kd.string w A l.length l) :
    Calls Try.prog 5 #[.slice A l.length c, .int .i64 lv, .int .i64 ix] w fun e w' => e = .returned (.bool true) ∧ Below w.heap.size w w' := by
  have OW := Aside0.mk (Mem.Own.nil w)
  have HAW := Aside0.mk awake7_c
  have HF := Aside0.mk (fun W h => few6440 A c l W h)
  have HR := Aside0.mk hr
  rw [hb] at HF
  clear hb hr
  go_enter Try.func5, Try.ntmps5
  go_wp2_with (first
    | (go_at_call 14; (with_reducible refine (HAW.out _).mono ?_); rintro e w_ ⟨rfl, hB⟩; have n_ := Aside0.mk (OW.out.step hB); clear OW hB; have OW := n_; clear n_)
    | (go_at_call 15; (with_reducible refine (HF.out _ (Kd.C_below HR.out OW.out.below)).mono ?_); rintro e w_ ⟨rfl, rfl⟩))
  go_ret
  exact ⟨rfl, OW.out.below⟩
set_option maxRecDepth 100000 in
set_option maxHeartbeats 8000000 in
theorem cuts_none (A : Option Addr) (c : Nat) (l : List ByteArray) (lv ix : Int) (w : World) (hb : fewB l 64 40 = true) (hw : inTile ix (cntv l.length lv) = 0) (hr : Kd.C Kd.string w A l.length l) :
    Calls Try.prog 5 #[.slice A l.length c, .int .i64 lv, .int .i64 ix] w fun e w' => e = .returned (.bool true) ∧ Below w.heap.size w w' := by
  have OW := Aside0.mk (Mem.Own.nil w)
  have HI := Aside0.mk info_tab
  have HAW := Aside0.mk awake7_c
  have HF := Aside0.mk (fun W h => few6440 A c l W h)
  have HR := Aside0.mk hr
  rw [hb] at HF
  obtain ⟨hl, hs⟩ := few_yes hb (by omega)
  have hll := leaves_len l
  have HLV := Aside0.mk (fun W h => leaves_c A c l W (by omega) (fun s hs2 => Nat.le_trans (hs s hs2) (by omega)) h)
  generalize leavesF l = L at *
  rw [← hll] at hw
  have HC := Aside0.mk (fun (A8 : Option Addr) (c8 : Nat) (W : World) => cut_none A8 c8 L lv ix W hw)
  have HW := Aside0.mk (fun W => rwidth_c (L.length : Int) lv ix W)
  rw [hw] at HW
  clear hb hr hl hs hll hw
  go_enter Try.func5, Try.ntmps5
  go_wp2_with (first
    | (go_at_call 14; (with_reducible refine (HAW.out _).mono ?_); rintro e w_ ⟨rfl, hB⟩; have n_ := Aside0.mk (OW.out.step hB); clear OW hB; have OW := n_; clear n_)
    | (go_at_call 15; (with_reducible refine (HF.out _ (Kd.C_below HR.out OW.out.below)).mono ?_); rintro e w_ ⟨rfl, rfl⟩)
    | (go_at_call 16; (with_reducible refine (make_c _).mono ?_); rintro e wz ⟨rfl, hB⟩; have n_ := Aside0.mk (OW.out.step hB); clear OW hB; have OW := n_; clear n_)
    | ((with_reducible refine gate_dst (N := 7) rfl ?_); refine tab_event (N := 7) rfl rfl rfl rfl rfl rfl (fun _ => rfl) (fun _ => rfl) ?_; intro gT hg wz hb hbb; have n_ : Aside0 (Mem.Own w (wz) [(gT, TV, 31)]) := ⟨OW.out.new hg hb hbb⟩; clear OW hb hbb hg; have OW := n_; clear n_)
    | (go_at_call 17; (with_reducible refine (HLV.out _ (Kd.C_below HR.out OW.out.below)).mono ?_); rintro e wz ⟨v4, rfl, hr4, hB⟩; obtain ⟨A8, c8, rfl, h8, _⟩ := Kd.R_reads hr4; have n_ := Aside0.mk (OW.out.step hB); clear OW hB hr4 h8; have OW := n_; clear n_)
    | ((with_reducible refine gate_dst (N := 29) rfl ?_); refine wpList_load_row rfl 31 (.tmp 7) rfl gT rfl 31 TV (0, 0) _ (OW.out.blk 0 rfl) Try.underlying31 rfl HI.out ?_)
    | (go_at_call 18; (with_reducible refine (HC.out A8 c8 _).mono ?_); rintro e wz ⟨rfl, hB⟩; have n_ := Aside0.mk (OW.out.step hB); clear OW hB; have OW := n_; clear n_)
    | ((with_reducible refine gate_dst (N := 9) rfl ?_); refine box_event ?hg (N := 9) ?hd (cs := #[.int .i64 0, .int .i64 0, .slice none 0 0]) (t := 35) ?hr ?_; (case hd => rfl); (case hg => rfl); (case hr => first | (go_simp; done) | (go_simp; rfl)); intro gX hg W_ hb hbb; have z0 := (blk_cell hb 0).trans rfl; have z1 := (blk_cell hb 1).trans rfl; have z2 := (blk_cell hb 2).trans rfl; have y0 := blk_frozen hb 0; have y1 := blk_frozen hb 1; have y2 := blk_frozen hb 2; have P1 := blk_put hb 0 (.int .i64 0) rfl; have P2 := blk_put P1 1 (.int .i64 0) rfl; have P3 := blk_put P2 2 (.slice none 0 0) rfl; have d2 := (blk_cell P3 2).trans rfl; clear P1 P2 P3; have n_ : Aside0 (Mem.Own w W_ [(gT, TV, 31), (gX, #[.int .i64 0, .int .i64 0, .slice none 0 0], 35)]) := ⟨OW.out.new hg hb hbb⟩; clear OW hb hbb hg; have OW := n_; clear n_)
    | (go_at_call 25; (with_reducible refine (HW.out _).mono ?_); rintro e w_ ⟨rfl, rfl⟩))
  go_ret
  exact ⟨rfl, (((OW.out.put 1 rfl 0 (.int .i64 0) rfl).put 1 rfl 1 (.int .i64 0) rfl).put 1 rfl 2 (.slice none 0 0) rfl).below⟩
end Go.Proofs.Ytondnammkcgjpaa.Til
namespace Go.Proofs.Ytondnammkcgjpaa.Til
open Go Go.RowKit Go.Shelf
open Go.Proofs.Ytondnammkcgjpaa.Mk Go.Proofs.Ytondnammkcgjpaa.Rg Go.Proofs.Ytondnammkcgjpaa.RgP
set_option linter.unusedVariables false
theorem lev_up : ∀ (k : Nat) (l : List ByteArray), levF (k + 1) l = upF (levF k l)
  | 0, l => rfl
  | k + 1, l => by rw [levF, lev_up k (upF l)]; rfl
theorem up_hash (L : List ByteArray) (k i : Nat) (hk : k < 4) (hl : L.length ≤ 64) (h : 4 * i + 4 ≤ L.length / 4 ^ k) : k < 3 ∧ i + 1 ≤ L.length / 4 ^ (k + 1) ∧ rootF ((List.range 4).map fun t => hashF L k (4 * i + t)) = hashF L (k + 1) i := by
  have hk3 : k < 3 := by
    rcases Nat.lt_or_ge k 3 with h3 | h3
    · exact h3
    · obtain rfl : k = 3 := by omega
      have : L.length / 4 ^ 3 ≤ 64 / 4 ^ 3 := Nat.div_le_div_right hl
      have e : 64 / 4 ^ 3 = 1 := by decide
      omega
  have hdiv : L.length / 4 ^ (k + 1) = L.length / 4 ^ k / 4 := by rw [Nat.pow_succ, Nat.div_div_eq_div_mul]
  have hi : i + 1 ≤ L.length / 4 ^ (k + 1) := by rw [hdiv]; omega
  refine ⟨hk3, hi, ?_⟩
  have h1 := upF_get (levF k L) i (by rw [lev_len]; exact h)
  have hm : (i + 1) * 4 ^ (k + 1) ≤ L.length := Nat.le_trans (Nat.mul_le_mul_right _ hi) (Nat.div_mul_le_self _ _)
  have h2 := lev_get (k + 1) L i (by omega) hl (by rw [Nat.add_mul, Nat.one_mul] at hm; exact hm)
  rw [lev_up, h1] at h2
  rw [← seg_hash L k i 4 hk hl h]
  exact Option.some.inj h2
end Go.Proofs.Ytondnammkcgjpaa.Til
namespace Go.Proofs.Ytondnammkcgjpaa.Til
open Go Go.RowKit Go.Shelf Go.Proofs.YtondnammkcgjpaaW.PrintWords Go.Proofs.YtondnammkcgjpaaW.PrintLast Go.Proofs.YtondnammkcgjpaaW.PrintMore
open Go.Proofs.Ytondnammkcgjpaa.ShaP Go.Proofs.Ytondnammkcgjpaa.Mk Go.Proofs.Ytondnammkcgjpaa.Rg Go.Proofs.Ytondnammkcgjpaa.Rng Go.Proofs.Ytondnammkcgjpaa.RgP Go.Proofs.Ytondnammkcgjpaa.Rf Go.Proofs.Ytondnammkcgjpaa.RgL
set_option linter.unusedVariables false
set_option linter.unusedSimpArgs false
theorem levF_32 : ∀ (k : Nat) (l : List ByteArray), A32 l → l.length ≤ 64 → A32 (levF k l)
  | 0, l, h, _ => h
  | k + 1, l, h, hl => levF_32 k (upF l) (upF_32 l h hl) (by rw [upF_length]; omega)
theorem seg_32 (l : List ByteArray) (a n : Nat) (h : A32 l) : A32 (seg l a n) := fun s hs => h s (List.mem_of_mem_take (List.mem_of_mem_drop hs))
/-- tile.Up at any tile -/
theorem up_any (A : Option Addr) (c : Nat) (x0 x1 : Int) (sg : List ByteArray) (m : Nat) (w : World) (hs : Sm sg) (hm : sg.length = m) (hn : m ≤ 4) (hc : m ≤ c) (hr : Kd.C Kd.string w A m sg) :
    Calls Try.prog 27 #[.agg TV, .agg #[.int .i64 x0, .int .i64 x1, .slice A m c]] w fun e w' => ∃ up : ByteArray, ∃ f : Int, e = .returned (.tuple #[.string up, .int .i64 f]) ∧ ((m < 4 ∧ up = ⟨#[]⟩ ∧ f = 2) ∨ (m = 4 ∧ up = rootF sg ∧ f = 0)) ∧ Below w.heap.size w w' := by
  rcases Nat.lt_or_ge m 4 with h | h
  · refine (up_none A m c x0 x1 w h).mono ?_
    rintro e w' ⟨rfl, hB⟩
    exact ⟨_, _, rfl, .inl ⟨h, rfl, rfl⟩, hB⟩
  · obtain rfl : m = 4 := by omega
    refine (up_some A c x0 x1 sg w hs hm hc hr).mono ?_
    rintro e w' ⟨rfl, hB⟩
    exact ⟨_, _, rfl, .inr ⟨rfl, rfl, rfl⟩, hB⟩
/-- the tile above -/
theorem cut_above (A : Option Addr) (c : Nat) (L : List ByteArray) (k i : Nat) (w : World) (hl : L.length ≤ 64) (h32 : A32 L) (hc : L.length ≤ c) (hr : Kd.C Kd.string w A L.length L) (hk : k < 3) (hi : i + 1 ≤ L.length / 4 ^ (k + 1)) :
    Calls Try.prog 18 #[.agg TV, .slice A L.length c, .agg #[.int .i64 ((k : Int) + 1), .int .i64 ((i / 4 : Nat) : Int)]] w fun e w' => ∃ (A' : Addr) (c' : Nat) (T : List ByteArray),
      e = .returned (.tuple #[.agg #[.int .i64 ((k : Int) + 1), .int .i64 ((i / 4 : Nat) : Int), .slice (some A') T.length c'], .int .i64 0]) ∧ ((i % 4 : Nat) : Int) < (T.length : Int) ∧ T[i % 4]? = some (hashF L (k + 1) i) ∧
      SR w' w.heap.size (.slice (some A') T.length c') T ∧ Below w.heap.size w w' := by
  have hp0 : 0 < 4 ^ (k + 1) := Nat.pow_pos (by omega)
  have hc1 := cnt_pow L.length (by omega) (k + 1) (by omega)
  have hq : L.length / 4 ^ (k + 1) ≤ 64 := Nat.le_trans (Nat.div_le_self _ _) hl
  have hin := inTile_in ((i / 4 : Nat) : Int) (cntv L.length ((k + 1 : Nat) : Int))
  have hwi : ((i % 4 : Nat) : Int) < inTile ((i / 4 : Nat) : Int) (cntv L.length ((k + 1 : Nat) : Int)) := by
    rw [hc1]
    generalize L.length / 4 ^ (k + 1) = y at *
    unfold inTile
    rw [if_neg (by omega)]
    omega
  have hne : inTile ((i / 4 : Nat) : Int) (cntv L.length ((k + 1 : Nat) : Int)) ≠ 0 := by omega
  have hlen := tileF_len L ((k + 1 : Nat) : Int) ((i / 4 : Nat) : Int)
  have hget : (tileF L ((k + 1 : Nat) : Int) ((i / 4 : Nat) : Int))[i % 4]? = some (hashF L (k + 1) i) := by
    unfold tileF
    rw [if_neg hne, List.getElem?_map, List.getElem?_range (by omega)]
    show some (hashF L (k + 1) (4 * (i / 4) + i % 4)) = _
    rw [Nat.div_add_mod]
  refine (cut_any A c L ((k + 1 : Nat) : Int) ((i / 4 : Nat) : Int) w hl h32 hc hr).mono ?_
  rintro e w' ⟨x0, x1, E, A', c', hcase, rfl, hR, hB⟩
  rcases hcase with ⟨h, _⟩ | ⟨_, rfl, rfl, rfl⟩
  · exact absurd h hne
  · have hlt : i % 4 < (tileF L ((k + 1 : Nat) : Int) ((i / 4 : Nat) : Int)).length := by omega
    obtain ⟨ad, e2, _⟩ := Kd.at_string (Kd.R_reads' hR).2.2 ((i % 4 : Nat) : Int) (by omega) (by omega)
    cases e2
    exact ⟨ad, c', _, rfl, by omega, hget, hR, hB⟩
/-- an element of a row of texts -/
theorem sr_elem {w : World} {b c r : Nat} {ad : Addr} {T : List ByteArray} {x : ByteArray} (h : SR w b (.slice (some ad) T.length c) T) (hx : T[r]? = some x) : w.cell? (ad.add r) = some (.string x) := by
  have hlt := (List.getElem?_eq_some_iff.1 hx).1
  obtain ⟨ad2, e2, h2⟩ := Kd.at_string (Kd.R_reads' h).2.2 (r : Int) (by omega) (by omega)
  cases e2
  rw [rdOf_at T r hlt, Int.toNat_natCast] at h2
  rw [List.getElem?_eq_getElem hlt] at hx
  rw [← Option.some.inj hx]
  exact h2
set_option maxRecDepth 100000 in
set_option maxHeartbeats 16000000 in
theorem cuts_main (A : Option Addr) (c : Nat) (l : List ByteArray) (lv ix : Int) (w : World) (hb : fewB l 64 40 = true) (hw : inTile ix (cntv l.length lv) ≠ 0) (hr : Kd.C Kd.string w A l.length l) :
    Calls Try.prog 5 #[.slice A l.length c, .int .i64 lv, .int .i64 ix] w fun e w' => e = .returned (.bool true) ∧ Below w.heap.size w w' := by
  have OW := Aside0.mk (Mem.Own.nil w)
  have HI := Aside0.mk info_tab
  have HAW := Aside0.mk awake7_c
  have HF := Aside0.mk (fun W h => few6440 A c l W h)
  have HR := Aside0.mk hr
  rw [hb] at HF
  obtain ⟨hl, hs⟩ := few_yes hb (by omega)
  have hll := leaves_len l
  have h32 := leaves_32 l
  have HLV := Aside0.mk (fun W h => leaves_c A c l W (by omega) (fun s hs2 => Nat.le_trans (hs s hs2) (by omega)) h)
  generalize leavesF l = L at *
  rw [← hll] at hw
  have hL : L.length ≤ 64 := by omega
  obtain ⟨k, i, m, rfl, rfl, hk, hi, hwm, hm, hm4, hfit⟩ := width_pos L.length hL lv ix hw
  have hsl := seg_len (levF k L) (4 * i) m (by rw [lev_len]; exact hfit)
  have hsh := seg_hash L k i m hk hL hfit
  have hs32 := seg_32 (levF k L) (4 * i) m (levF_32 k L h32 hL)
  have HC1 := Aside0.mk (fun (A8 : Option Addr) (c8 : Nat) (h8 : L.length ≤ c8) (W : World) h => cut_some A8 c8 L k i m W hL h32 h8 h hk hi hm hm4 hwm hfit)
  have HG := Aside0.mk (show ∀ t, t < m → (seg (levF k L) (4 * i) m)[t]? = some (hashF L k (4 * i + t)) from fun t ht => by rw [hsh, List.getElem?_map, List.getElem?_range ht]; rfl)
  have HH := Aside0.mk (fun (t : Nat) (ht : t < m) (A8 : Option Addr) (c8 : Nat) (h8 : L.length ≤ c8) (W : World) h => rhash_c A8 c8 L k (4 * i + t) W hk hL h32 (by
    have h1 : (4 * i + t + 1) * 4 ^ k ≤ L.length := Nat.le_trans (Nat.mul_le_mul_right _ (by omega : 4 * i + t + 1 ≤ L.length / 4 ^ k)) (Nat.div_mul_le_self _ _)
    rw [Nat.add_mul, Nat.one_mul] at h1
    exact h1) h8 h)
  have HX := Aside0.mk (show m = 4 → k < 3 ∧ i + 1 ≤ L.length / 4 ^ (k + 1) ∧ rootF (seg (levF k L) (4 * i) m) = hashF L (k + 1) i from fun e => by
    obtain ⟨h1, h2, h3⟩ := up_hash L k i hk hL (by omega)
    rw [hsh, e]
    exact ⟨h1, h2, h3⟩)
  have HUP := Aside0.mk (fun (A8 : Option Addr) (c8 : Nat) (h8 : m ≤ c8) (W : World) h => up_any A8 c8 (k : Int) (i : Int) (seg (levF k L) (4 * i) m) m W hs32.sm hsl hm4 h8 h)
  have HAB := Aside0.mk (fun (h1 : k < 3) (h2 : i + 1 ≤ L.length / 4 ^ (k + 1)) (A8 : Option Addr) (c8 : Nat) (h8 : L.length ≤ c8) (W : World) h => cut_above A8 c8 L k i W hL h32 h8 h h1 h2)
  have HW := Aside0.mk (fun W => rwidth_c (L.length : Int) (k : Int) (i : Int) W)
  rw [hwm] at HW
  have HSL := Aside0.mk hsl
  have HS := Aside0.mk hs32.sm
  generalize seg (levF k L) (4 * i) m = SA at *
  have hmi : ¬ (m : Int) = 0 := by omega
  have hm4i : (m : Int) ≤ 4 := by omega
  have hki : (k : Int) < 4 := by omega
  have hii : (i : Int) ≤ 16 := by omega
  have hw4 : wrap64 (4 * (i : Int)) = 4 * (i : Int) := by unfold wrap64; clear hr hb; omega
  have HM := Aside0.mk hm
  have HK := Aside0.mk hk
  have HII := Aside0.mk hi
  clear hb hr hl hs hll h32 hL hw hk hi hwm hm hm4 hfit hsl hsh hs32
  go_enter Try.func5, Try.ntmps5
  go_wp2_with (first
    | (go_at_call 14; (with_reducible refine (HAW.out _).mono ?_); rintro e w_ ⟨rfl, hB⟩; have n_ := Aside0.mk (OW.out.step hB); clear OW hB; have OW := n_; clear n_)
    | (go_at_call 15; (with_reducible refine (HF.out _ (Kd.C_below HR.out OW.out.below)).mono ?_); rintro e w_ ⟨rfl, rfl⟩)
    | (go_at_call 16; (with_reducible refine (make_c _).mono ?_); rintro e wz ⟨rfl, hB⟩; have n_ := Aside0.mk (OW.out.step hB); clear OW hB; have OW := n_; clear n_)
    | ((with_reducible refine gate_dst (N := 7) rfl ?_); refine tab_event (N := 7) rfl rfl rfl rfl rfl rfl (fun _ => rfl) (fun _ => rfl) ?_; intro gT hg wz hb hbb; have n_ : Aside0 (Mem.Own w (wz) [(gT, TV, 31)]) := ⟨OW.out.new hg hb hbb⟩; clear OW hb hbb hg; have OW := n_; clear n_)
    | (go_at_call 17; (with_reducible refine (HLV.out _ (Kd.C_below HR.out OW.out.below)).mono ?_); rintro e wz ⟨v4, rfl, hr4, hB⟩; obtain ⟨A8, c8, rfl, h8, _⟩ := Kd.R_reads hr4; have HC8 := Aside0.mk (Kd.R_lower hr4 OW.out.size); have H8 := Aside0.mk h8; have n_ := Aside0.mk (OW.out.step hB); clear OW hB hr4 h8; have OW := n_; clear n_)
    | ((with_reducible refine gate_dst (N := 29) rfl ?_); refine wpList_load_row rfl 31 (.tmp 7) rfl gT rfl 31 TV (0, 0) _ (OW.out.blk 0 rfl) Try.underlying31 rfl HI.out ?_)
    | (go_at_call 18; (with_reducible refine (HC1.out A8 c8 H8.out _ (Kd.R_reads' HC8.out).2.2).mono ?_); rintro e wz ⟨A1, c1, rfl, hr1, hB⟩; have n_ := Aside0.mk (OW.out.step hB); have n2 := Aside0.mk (Kd.R_below HC8.out hB); have HV := Aside0.mk (Kd.R_lower hr1 OW.out.size); clear OW hB HC8 hr1; have OW := n_; have HC8 := n2; clear n_ n2)
    | ((with_reducible refine gate_dst (N := 9) rfl ?_); refine box_event ?hg (N := 9) ?hd (cs := #[.int .i64 0, .int .i64 0, .slice none 0 0]) (t := 35) ?hr ?_; (case hd => rfl); (case hg => rfl); (case hr => first | (go_simp; done) | (go_simp; rfl)); intro gX hg W_ hb hbb; have n3 := Aside0.mk (Kd.R_below HC8.out hbb); have n4 := Aside0.mk (Kd.R_below HV.out hbb); clear HC8 HV; have HC8 := n3; have HV := n4; clear n3 n4; have z0 := (blk_cell hb 0).trans rfl; have z1 := (blk_cell hb 1).trans rfl; have z2 := (blk_cell hb 2).trans rfl; have y0 := blk_frozen hb 0; have y1 := blk_frozen hb 1; have y2 := blk_frozen hb 2; have P1 := blk_put hb 0 (.int .i64 (k : Int)) rfl; have P2 := blk_put P1 1 (.int .i64 (i : Int)) rfl; have P3 := blk_put P2 2 (.slice A1 m c1) rfl; have d0 := (blk_cell P3 0).trans rfl; have d1 := (blk_cell P3 1).trans rfl; have d2 := (blk_cell P3 2).trans rfl; clear P1 P2 P3; have n_ : Aside0 (Mem.Own w W_ [(gT, TV, 31), (gX, #[.int .i64 0, .int .i64 0, .slice none 0 0], 35)]) := ⟨OW.out.new hg hb hbb⟩; clear OW hb hbb hg; have OW := n_; clear n_)
    | (go_at_call 25; (with_reducible refine (HW.out _).mono ?_); rintro e w_ ⟨rfl, rfl⟩))
  have OP := Aside0.mk (((OW.out.put 1 rfl 0 (.int .i64 (k : Int)) rfl).put 1 rfl 1 (.int .i64 (i : Int)) rfl).put 1 rfl 2 (.slice A1 m c1) rfl)
  have P0 := OW.out.put 1 rfl 0 (.int .i64 (k : Int)) rfl
  have P1 := P0.put 1 rfl 1 (.int .i64 (i : Int)) rfl
  have V2 := Aside0.mk (Kd.R_set (Kd.R_set (Kd.R_set HV.out (OW.out.blk 1 rfl) (by decide) 0 (.int .i64 (k : Int))) (P0.blk 1 rfl) (by decide) 1 (.int .i64 (i : Int))) (P1.blk 1 rfl) (by decide) 2 (.slice A1 m c1))
  have C2 := Aside0.mk (Kd.R_set (Kd.R_set (Kd.R_set HC8.out (OW.out.blk 1 rfl) (by decide) 0 (.int .i64 (k : Int))) (P0.blk 1 rfl) (by decide) 1 (.int .i64 (i : Int))) (P1.blk 1 rfl) (by decide) 2 (.slice A1 m c1))
  clear OW HV HC8 P0 P1 z0 z1 z2 y0 y1 y2 d0 d1 d2 HF HAW HLV HC1 HW HR
  generalize ((W_.setCell ⟨gX, 0, none⟩ (.int .i64 (k : Int))).setCell ⟨gX, 1, none⟩ (.int .i64 (i : Int))).setCell ⟨gX, 2, none⟩ (.slice A1 m c1) = wp at *
  go_loopw [12] (fun v12 wr => ∃ t : Nat, v12 = .int .i64 t ∧ t ≤ m ∧ Aside0 (Below wp.heap.size wp wr)) (fun v12 _ => m - (intOf v12).toNat)
  case atStart => exact ⟨0, rfl, Nat.zero_le _, ⟨Below.refl _ _⟩⟩
  case round =>
    obtain ⟨t, rfl, ht, HB⟩ := hrel
    by_cases h1 : t < m
    · have h1i : (t : Int) < (m : Int) := by omega
      have HT1 := Aside0.mk h1
      have hC := (Kd.R_reads' (Kd.R_below V2.out HB.out)).2.2
      have hSAl := HSL.out
      obtain ⟨ad1, e, hx1⟩ := Kd.at_string hC (t : Int) (by omega) (by omega)
      cases e
      rw [rdOf_at SA t (by omega), Int.toNat_natCast] at hx1
      have hg1 := HG.out t h1
      rw [List.getElem?_eq_getElem (by omega)] at hg1
      rw [Option.some.inj hg1] at hx1
      obtain ⟨q, hq⟩ : ∃ q, 4 * i + t = q := ⟨_, rfl⟩
      have HQ := HH.out t h1
      rw [hq] at HQ hx1
      have HHQ := Aside0.mk HQ
      have hqi : 4 * (i : Int) + (t : Int) = (q : Int) := by omega
      have e8 : IntKind.i64.wrap (4 * (i : Int)) = 4 * (i : Int) := by rw [IntKind.wrap_i64]; clear hqi HQ hg1 hx1 hC hSAl; omega
      have e10 : IntKind.i64.wrap (q : Int) = (q : Int) := by rw [IntKind.wrap_i64]; clear HQ hg1 hx1 hC hSAl; omega
      have OB := Aside0.mk ((OP.out.step HB.out).drew)
      have CB := Aside0.mk (Kd.R_drew (Kd.R_below C2.out HB.out))
      have kX : wr.drew.cell? ⟨gX, 2, none⟩ = some (.slice (some ad1) m c1) := (OB.out.cell 1 rfl 2).trans rfl
      have k1 : wr.drew.cell? (ad1.add t) = some (.string (hashF L k q)) := hx1
      have HBD := Aside0.mk HB.out.drew
      clear hg1 hx1 hC HQ hSAl hq
      go_wp2_with fail
      refine start_ (n := 13) (S := fun w' => Below (wr).drew.heap.size (wr).drew w') (ds := []) #[false, false, false, false, false, false, false, false, false, false, false, false, false] (by kernel_rfl) rfl rfl (Below.refl _ _) (fun hHeld => ?_)
      generalize (wr).drew = W0 at *
      refine pure_ (i := 0) (N := (some 74)) (v := ?_) (a' := ?_) #[true, false, false, false, false, false, false, false, false, false, false, false, false] rfl rfl (by kernel_rfl) (fun _ _ _ h => h) (Or.inl ⟨by rfl, ?_⟩) ?_ ?_
      rotate_left
      · intro w'
        go_simp
        first | done | with_reducible rfl
      rotate_left
      · simp only [Act.put, List.setIfInBounds_toArray, List.set_cons_zero, List.set_cons_succ, i64_w, i32_w]
        rfl
      refine take_ (i := 1) (N := (some 75)) (v := ?_) (a' := ?_) #[true, true, false, false, false, false, false, false, false, false, false, false, false] rfl rfl (by kernel_rfl) (fun _ _ _ h => h) (Or.inl ⟨by rfl, ?_⟩) hHeld ?_ ?_
      rotate_left
      · intro w' hS
        have s0 := pw_cell_below hS kX
        go_simp
        first | done | with_reducible rfl
      rotate_left
      · simp only [Act.put, List.setIfInBounds_toArray, List.set_cons_zero, List.set_cons_succ, i64_w, i32_w]
        rfl
      refine pure_ (i := 2) (N := (some 76)) (v := ?_) (a' := ?_) #[true, true, true, false, false, false, false, false, false, false, false, false, false] rfl rfl (by kernel_rfl) (fun _ _ _ h => h) (Or.inl ⟨by rfl, ?_⟩) ?_ ?_
      rotate_left
      · intro w'
        go_simp
        first | done | with_reducible rfl
      rotate_left
      · simp only [Act.put, List.setIfInBounds_toArray, List.set_cons_zero, List.set_cons_succ, i64_w, i32_w]
        rfl
      refine pure_ (i := 3) (N := (some 77)) (v := ?_) (a' := ?_) #[true, true, true, true, false, false, false, false, false, false, false, false, false] rfl rfl (by kernel_rfl) (fun _ _ _ h => h) (Or.inl ⟨by rfl, ?_⟩) ?_ ?_
      rotate_left
      · intro w'
        go_simp
        first | done | with_reducible rfl
      rotate_left
      · simp only [Act.put, List.setIfInBounds_toArray, List.set_cons_zero, List.set_cons_succ, i64_w, i32_w]
        rfl
      refine take_ (i := 4) (N := (some 78)) (v := ?_) (a' := ?_) #[true, true, true, true, true, false, false, false, false, false, false, false, false] rfl rfl (by kernel_rfl) (fun _ _ _ h => h) (Or.inl ⟨by rfl, ?_⟩) hHeld ?_ ?_
      rotate_left
      · intro w' hS
        have s0 := pw_cell_below hS k1
        go_simp
        first | done | with_reducible rfl
      rotate_left
      · simp only [Act.put, List.setIfInBounds_toArray, List.set_cons_zero, List.set_cons_succ, i64_w, i32_w]
        rfl
      refine pure_ (i := 5) (N := (some 79)) (v := ?_) (a' := ?_) #[true, true, true, true, true, true, false, false, false, false, false, false, false] rfl rfl (by kernel_rfl) (fun _ _ _ h => h) (Or.inl ⟨by rfl, ?_⟩) ?_ ?_
      rotate_left
      · intro w'
        go_simp
        first | done | with_reducible rfl
      rotate_left
      · simp only [Act.put, List.setIfInBounds_toArray, List.set_cons_zero, List.set_cons_succ, i64_w, i32_w]
        rfl
      refine pure_ (i := 6) (N := (some 80)) (v := ?_) (a' := ?_) #[true, true, true, true, true, true, true, false, false, false, false, false, false] rfl rfl (by kernel_rfl) (fun _ _ _ h => h) (Or.inl ⟨by rfl, ?_⟩) ?_ ?_
      rotate_left
      · intro w'
        go_simp
        first | done | with_reducible rfl
      rotate_left
      · simp only [Act.put, List.setIfInBounds_toArray, List.set_cons_zero, List.set_cons_succ, i64_w, i32_w]
        rfl
      refine pure_ (i := 7) (N := (some 81)) (v := ?_) (a' := ?_) #[true, true, true, true, true, true, true, true, false, false, false, false, false] rfl rfl (by kernel_rfl) (fun _ _ _ h => h) (Or.inl ⟨by rfl, ?_⟩) ?_ ?_
      rotate_left
      · intro w'
        go_simp
        first | done | with_reducible rfl
      rotate_left
      · simp only [Act.put, List.setIfInBounds_toArray, List.set_cons_zero, List.set_cons_succ, i64_w, i32_w]
        rfl
      refine pure_ (i := 8) (N := (some 82)) (v := ?_) (a' := ?_) #[true, true, true, true, true, true, true, true, true, false, false, false, false] rfl rfl (by kernel_rfl) (fun _ _ _ h => h) (Or.inl ⟨by rfl, ?_⟩) ?_ ?_
      rotate_left
      · intro w'
        go_simp
        first | done | with_reducible rfl
      rotate_left
      · simp only [Act.put, List.setIfInBounds_toArray, List.set_cons_zero, List.set_cons_succ, i64_w, i32_w]
        rfl
      refine pure_ (i := 9) (N := (some 83)) (v := ?_) (a' := ?_) #[true, true, true, true, true, true, true, true, true, true, false, false, false] rfl rfl (by kernel_rfl) (fun _ _ _ h => h) (Or.inl ⟨by rfl, ?_⟩) ?_ ?_
      rotate_left
      · intro w'
        go_simp
        first | done | with_reducible rfl
      rotate_left
      · simp only [Act.put, List.setIfInBounds_toArray, List.set_cons_zero, List.set_cons_succ, i64_w, i32_w]
        rfl
      refine pure_ (i := 10) (N := (some 84)) (v := ?_) (a' := ?_) #[true, true, true, true, true, true, true, true, true, true, true, false, false] rfl rfl (by kernel_rfl) (fun _ _ _ h => h) (Or.inl ⟨by rfl, ?_⟩) ?_ ?_
      rotate_left
      · intro w'
        go_simp
        first | done | with_reducible rfl
      rotate_left
      · simp only [Act.put, List.setIfInBounds_toArray, List.set_cons_zero, List.set_cons_succ, i64_w, i32_w]
        rfl
      refine one_ (i := 11) (N := (some 85)) #[true, true, true, true, true, true, true, true, true, true, true, true, false] rfl rfl (by kernel_rfl) (by decide) (fun K hK => ?_)
      refine goes_ Try.func26 (by kernel_rfl) rfl #[.slice A8 L.length c8, .int .i64 (k : Int), .int .i64 (q : Int)] (by rfl) rfl rfl (by (try simp only [List.map_toArray, List.map_cons, List.map_nil]); first | done | rfl) ?_
      (with_reducible refine (HHQ.out A8 c8 H8.out _ (Kd.C_below (Kd.R_reads' CB.out).2.2 hHeld)).mono ?_)
      rintro e wa ⟨rfl, hB⟩
      refine ⟨_, rfl, ?_⟩
      have hS2 : Below W0.heap.size W0 wa := below_step hHeld hB
      clear hB
      refine hK.out _ _ hS2 (fun hHeld => ?_)
      clear hK K
      refine norm_ (a' := ?_) ?_ ?_
      rotate_left
      · show Act.put _ (some 85) _ = _
        simp only [Act.put, List.setIfInBounds_toArray, List.set_cons_zero, List.set_cons_succ, i64_w, i32_w]
        rfl
      refine pure_ (i := 12) (N := (some 86)) (v := ?_) (a' := ?_) #[true, true, true, true, true, true, true, true, true, true, true, true, true] rfl rfl (by kernel_rfl) (fun _ _ _ h => h) (Or.inl ⟨by rfl, ?_⟩) ?_ ?_
      rotate_left
      · intro w'
        go_simp
        first | done | with_reducible rfl
      rotate_left
      · simp only [Act.put, List.setIfInBounds_toArray, List.set_cons_zero, List.set_cons_succ, i64_w, i32_w]
        rfl
      refine done_ (by kernel_rfl) ?_
      have HBN := Aside0.mk (below_step HBD.out hHeld)
      clear hHeld OB CB kX k1 HBD HHQ
      go_wp2_with fail
      go_roundw
      case rel => exact ⟨t + 1, by go_num, HT1.out, HBN⟩
      case measure => have := HT1.out; simp [intOf]; omega
    · obtain rfl : m = t := by omega
      have OW := Aside0.mk (OP.out.step HB.out)
      have V := Aside0.mk (Kd.R_below V2.out HB.out)
      have C8 := Aside0.mk (Kd.R_below C2.out HB.out)
      have d0 := (OW.out.cell 1 rfl 0).trans rfl
      have d1 := (OW.out.cell 1 rfl 1).trans rfl
      have d2 := (OW.out.cell 1 rfl 2).trans rfl
      have hcap := (Kd.R_reads' V.out).2.1
      have HCAP := Aside0.mk hcap
      clear HB V2 C2 hcap
      rcases Nat.lt_or_ge m 4 with h4 | h4
      · have h4i : (m : Int) < 4 := by omega
        have HU := Aside0.mk (fun (W : World) => up_none A1 m c1 (k : Int) (i : Int) W h4)
        clear h4 hm4i
        go_wp2_with (first
          | ((with_reducible refine gate_dst (N := 88) rfl ?_); refine wpList_load_row rfl 31 (.tmp 7) rfl gT rfl 31 TV (0, 0) _ (OW.out.blk 0 rfl) Try.underlying31 rfl HI.out ?_)
          | (go_at_call 27; (with_reducible refine (HU.out _).mono ?_); rintro e wz ⟨rfl, hB⟩; have n_ := Aside0.mk (OW.out.step hB); clear OW hB; have OW := n_; clear n_))
        go_ret
        exact ⟨rfl, OW.out.below⟩
      · obtain rfl : m = 4 := by omega
        obtain ⟨hk3, hi1, hroot⟩ := HX.out rfl
        have HU := Aside0.mk (fun (W : World) (h) => up_some A1 c1 (k : Int) (i : Int) SA W HS.out HSL.out HCAP.out h)
        have HA := Aside0.mk (HAB.out hk3 hi1)
        have HC4 : Aside0 (Kd.C Kd.string wr A1 4 SA) := ⟨by have h5 := (Kd.R_reads' V.out).2.2; rw [HSL.out] at h5; exact h5⟩
        rw [hroot] at HU
        obtain ⟨q4, hq4⟩ : ∃ q4, i / 4 = q4 := ⟨_, rfl⟩
        obtain ⟨r4, hr4⟩ : ∃ r4, i % 4 = r4 := ⟨_, rfl⟩
        rw [hq4, hr4] at HA
        have hd4 : Int.tdiv (i : Int) 4 = (q4 : Int) := by rw [← hq4]; exact Int.ofNat_tdiv i 4
        have hm4' : Int.tmod (i : Int) 4 = (r4 : Int) := by rw [← hr4]; exact Int.ofNat_tmod i 4
        have hd5 : (i : Int) / 4 = (q4 : Int) := by rw [← hq4]; rfl
        have hm5 : (i : Int) % 4 = (r4 : Int) := by rw [← hr4]; rfl
        have hwk : wrap64 ((k : Int) + 1) = (k : Int) + 1 := by unfold wrap64; omega
        have hwq : wrap64 (q4 : Int) = (q4 : Int) := by unfold wrap64; omega
        have hwr : wrap64 (r4 : Int) = (r4 : Int) := by unfold wrap64; omega
        clear hroot hk3 hi1 hq4 hr4 h4 HAB
        go_wp2_with (first
          | ((with_reducible refine gate_dst (N := 88) rfl ?_); refine wpList_load_row rfl 31 (.tmp 7) rfl gT rfl 31 TV (0, 0) _ (OW.out.blk 0 rfl) Try.underlying31 rfl HI.out ?_)
          | ((with_reducible refine gate_dst (N := 102) rfl ?_); refine wpList_load_row rfl 31 (.tmp 7) rfl gT rfl 31 TV (0, 0) _ (OW.out.blk 0 rfl) Try.underlying31 rfl HI.out ?_)
          | (go_at_call 27; go_loud ((with_reducible refine (HU.out _ HC4.out).mono ?_); rintro e wz ⟨rfl, hB⟩; have n_ := Aside0.mk (OW.out.step hB); have n2 := Aside0.mk (Kd.R_below C8.out hB); clear OW hB C8 V d0 d1 d2 HC4; have OW := n_; have C8 := n2; clear n_ n2))
          | (go_at_call 18; (with_reducible refine (HA.out A8 c8 H8.out _ (Kd.R_reads' C8.out).2.2).mono ?_); rintro e wz ⟨ad2, c2, T, rfl, hrli, hTg, hr2, hB⟩; have HT := Aside0.mk (Kd.R_lower hr2 OW.out.size); have HTG := Aside0.mk hTg; have n_ := Aside0.mk (OW.out.step hB); clear OW hB C8 hr2 hTg; have OW := n_; clear n_)
          | ((with_reducible refine gate_dst (N := 15) rfl ?_); refine box_event ?hg (N := 15) ?hd (cs := #[.int .i64 0, .int .i64 0, .slice none 0 0]) (t := 35) ?hr ?_; (case hd => rfl); (case hg => rfl); (case hr => first | (go_simp; done) | (go_simp; rfl)); intro gY hg W_ hb hbb; have z0 := (blk_cell hb 0).trans rfl; have z1 := (blk_cell hb 1).trans rfl; have z2 := (blk_cell hb 2).trans rfl; have y0 := blk_frozen hb 0; have y1 := blk_frozen hb 1; have y2 := blk_frozen hb 2; have P1 := blk_put hb 0 (.int .i64 ((k : Int) + 1)) rfl; have P2 := blk_put P1 1 (.int .i64 (q4 : Int)) rfl; have P3 := blk_put P2 2 (.slice (some ad2) T.length c2) rfl; have d2 := (blk_cell P3 2).trans rfl; have HT2 := Aside0.mk (Kd.R_set (Kd.R_set (Kd.R_set (Kd.R_below HT.out hbb) hb (by decide) 0 (.int .i64 ((k : Int) + 1))) P1 (by decide) 1 (.int .i64 (q4 : Int))) P2 (by decide) 2 (.slice (some ad2) T.length c2)); have hx2 := sr_elem HT2.out HTG.out; clear P1 P2 P3; have n_ : Aside0 (Mem.Own w W_ [(gT, TV, 31), (gX, #[.int .i64 (k : Int), .int .i64 (i : Int), .slice A1 4 c1], 35), (gY, #[.int .i64 0, .int .i64 0, .slice none 0 0], 35)]) := ⟨OW.out.new hg hb hbb⟩; clear OW hb hbb hg; have OW := n_; clear n_))
        go_ret
        exact ⟨rfl, (((OW.out.put 2 rfl 0 (.int .i64 ((k : Int) + 1)) rfl).put 2 rfl 1 (.int .i64 (q4 : Int)) rfl).put 2 rfl 2 (.slice (some ad2) T.length c2) rfl).below⟩
end Go.Proofs.Ytondnammkcgjpaa.Til
namespace Go.Proofs.Ytondnammkcgjpaa.Til
open Go Go.RowKit Go.Shelf Go.Proofs.YtondnammkcgjpaaW.PrintWords
open Go.Proofs.Ytondnammkcgjpaa.Mk Go.Proofs.Ytondnammkcgjpaa.Rg Go.Proofs.Ytondnammkcgjpaa.Rng Go.Proofs.Ytondnammkcgjpaa.RgP Go.Proofs.Ytondnammkcgjpaa.Rf Go.Proofs.Ytondnammkcgjpaa.RgL
theorem law_cuts (A : Option Addr) (c : Nat) (l : List ByteArray) (lv ix : Int) (w : World) (hr : Kd.C Kd.string w A l.length l) :
    Calls Try.prog 5 #[.slice A l.length c, .int .i64 lv, .int .i64 ix] w fun e w' => e = .returned (.bool true) ∧ Below w.heap.size w w' := by
  cases hb : fewB l 64 40 with
  | false => exact cuts_few A c l lv ix w hb hr
  | true =>
    by_cases hw : inTile ix (cntv l.length lv) = 0
    · exact cuts_none A c l lv ix w hb hw hr
    · exact cuts_main A c l lv ix w hb hw hr
end Go.Proofs.Ytondnammkcgjpaa.Til
namespace Go.Proofs.YtondnammkcgjpaaOpens
open Go.ChangeShapes Go.WideShapes Go.Deep Go.Proofs.YtondnammkcgjpaaW.PrintWords

/-- whatever the reader reads at type e is of kind d, and Q holds of it -/
def Reads {α : Type} (d : Kd α) (P : Program) (e : TypeId) (Q : α → Prop) : Prop :=
  ∀ (H : Type) (enc : TypeId × Value → H) (w : World) (base : Nat) (spare : Nat → Bool) (held : Bool) (n : Nat) (cs : List Value) (x : DataW H × List MemPlace),
    DataW.trod enc P w base spare held n e cs = some x → ∃ a : α, d.K w a cs ∧ Q a

theorem reads_int {P : Program} {e : TypeId} {k : IntKind} (he : P.underlying e = some (.int k)) : Reads (Kd.int k) P e (fun n => (Lit.int k n).wf = true) := by
  intro H enc w base spare held n cs x h
  obtain ⟨m, rfl, _, hw⟩ := DataW.trod_int he h
  exact ⟨m, rfl, hw⟩
theorem reads_bool {P : Program} {e : TypeId} (he : P.underlying e = some .bool) : Reads Kd.bool P e (fun _ => True) := by
  intro H enc w base spare held n cs x h
  obtain ⟨m, rfl, _⟩ := DataW.trod_bool he h
  exact ⟨m, rfl, trivial⟩
theorem reads_string {P : Program} {e : TypeId} (he : P.underlying e = some .string) : Reads Kd.string P e (fun s => s.size ≤ maxLen) := by
  intro H enc w base spare held n cs x h
  obtain ⟨m, rfl, _, hs⟩ := DataW.trod_string he h
  exact ⟨m, rfl, hs⟩
theorem reads_iso {α β : Type} {d : Kd α} {P : Program} {e : TypeId} {Q : α → Prop} (f : β → α) (g : α → β) (hfg : ∀ a, f (g a) = a) (h : Reads d P e Q) : Reads (Kd.iso d f) P e (fun b => Q (f b)) := by
  intro H enc w base spare held n cs x hx
  obtain ⟨a, ha, hq⟩ := h H enc w base spare held n cs x hx
  exact ⟨g a, by show d.K w (f (g a)) cs; rw [hfg]; exact ha, by show Q (f (g a)); rw [hfg]; exact hq⟩
theorem reads_imp {α : Type} {d : Kd α} {P : Program} {e : TypeId} {Q Q' : α → Prop} (h : Reads d P e Q) (hq : ∀ a, Q a → Q' a) : Reads d P e Q' := by
  intro H enc w base spare held n cs x hx
  obtain ⟨a, ha, h1⟩ := h H enc w base spare held n cs x hx
  exact ⟨a, ha, hq a h1⟩

/-- fields, from cell 'off' on -/
def ReadsFs {α : Type} (d : Kd α) (P : Program) (fs : List Field) (off : Nat) (Q : α → Prop) : Prop :=
  ∀ (H : Type) (enc : TypeId × Value → H) (w : World) (base : Nat) (spare : Nat → Bool) (held : Bool) (n : Nat) (cs : List Value),
    cs.length = d.sz → (∀ f, f ∈ fs → ∃ y, DataW.trod enc P w base spare held n f.type ((cs.drop (f.offset - off)).take (P.cellsOf f.type)) = some y) → ∃ a : α, d.K w a cs ∧ Q a

theorem fs_last {α : Type} {d : Kd α} {P : Program} {f : Field} {off : Nat} {Q : α → Prop} (h : Reads d P f.type Q) (hs : P.cellsOf f.type = d.sz) (ho : f.offset = off) : ReadsFs d P [f] off Q := by
  intro H enc w base spare held n cs hl hf
  obtain ⟨y, hy⟩ := hf f (List.mem_singleton.2 rfl)
  rw [ho, Nat.sub_self, List.drop_zero, hs, List.take_of_length_le (by omega)] at hy
  exact h H enc w base spare held n cs y hy
theorem fs_cons {α β : Type} {a : Kd α} {b : Kd β} {P : Program} {f : Field} {fs : List Field} {off : Nat} {Qa : α → Prop} {Qb : β → Prop} (h : Reads a P f.type Qa) (hs : P.cellsOf f.type = a.sz) (ho : f.offset = off)
    (hr : ∀ g, g ∈ fs → off + a.sz ≤ g.offset) (hb : ReadsFs b P fs (off + a.sz) Qb) : ReadsFs (Kd.pair a b) P (f :: fs) off (fun x => Qa x.1 ∧ Qb x.2) := by
  intro H enc w base spare held n cs hl hf
  have hl' : cs.length = a.sz + b.sz := hl
  obtain ⟨y, hy⟩ := hf f (List.mem_cons_self ..)
  rw [ho, Nat.sub_self, List.drop_zero, hs] at hy
  obtain ⟨x, hx, hqx⟩ := h H enc w base spare held n _ y hy
  obtain ⟨z, hz, hqz⟩ := hb H enc w base spare held n (cs.drop a.sz) (by rw [List.length_drop]; omega) (fun g hg => by
    obtain ⟨u, hu⟩ := hf g (List.mem_cons_of_mem _ hg)
    refine ⟨u, ?_⟩
    have := hr g hg
    rw [List.drop_drop, show a.sz + (g.offset - (off + a.sz)) = g.offset - off from by omega]
    exact hu)
  exact ⟨(x, z), ⟨cs.take a.sz, cs.drop a.sz, (List.take_append_drop _ _).symm, hx, hz⟩, hqx, hqz⟩
theorem reads_struct {α : Type} {d : Kd α} {P : Program} {t : TypeId} {fs : Array Field} {Q : α → Prop} (ht : P.underlying t = some (.struct fs)) (hs : P.cellsOf t = d.sz) (h : ReadsFs d P fs.toList 0 Q) : Reads d P t Q := by
  intro H enc w base spare held n cs x hx
  obtain ⟨xs, m, _, _, hl, hlen, hf⟩ := DataW.trod_struct ht hx
  refine h H enc w base spare held m cs (hl.trans hs) (fun f hm => ?_)
  obtain ⟨i, hi, rfl⟩ := List.mem_iff_getElem.1 hm
  have hi' : i < fs.size := by rw [Array.length_toList] at hi; exact hi
  have e := hf i (fs.toList[i]) (by rw [Array.getElem?_eq_getElem hi']; rfl)
  have hx2 : i < xs.length := by omega
  exact ⟨xs[i], by rw [Nat.sub_zero, e]; exact List.getElem?_eq_getElem hx2⟩

theorem collect {α : Type} (len : Nat) (R : Nat → α → Prop) (each : ∀ i, i < len → ∃ z, R i z) : ∃ xs : List α, xs.length = len ∧ ∀ i z, xs[i]? = some z → R i z := by
  induction len with
  | zero => exact ⟨[], rfl, fun i z hz => by cases hz⟩
  | succ len ih =>
    obtain ⟨xs, hxl, hxs⟩ := ih (fun i hil => each i (by omega))
    obtain ⟨z, hz⟩ := each len (by omega)
    refine ⟨xs ++ [z], by rw [List.length_append, hxl]; rfl, fun i y hy => ?_⟩
    by_cases hil : i < xs.length
    · rw [List.getElem?_append_left hil] at hy; exact hxs i y hy
    · rw [List.getElem?_append_right (by omega)] at hy
      obtain ⟨hj, rfl⟩ := List.getElem?_eq_some_iff.1 hy
      have : i = len := by simp at hj; omega
      subst this
      simpa using hz

/-- a slice -/
theorem slice_row {α : Type} {d : Kd α} {P : Program} {t e : TypeId} {Q : α → Prop} (ht : P.underlying t = some (.slice e)) (hs : P.cellsOf e = d.sz) (h : Reads d P e Q)
    (H : Type) (enc : TypeId × Value → H) (w : World) (base : Nat) (spare : Nat → Bool) (held : Bool) (n : Nat) (cs : List Value) (x : DataW H × List MemPlace)
    (hx : DataW.trod enc P w base spare held n t cs = some x) : ∃ (A : Option Addr) (c : Nat) (xs : List α), cs = [.slice A xs.length c] ∧ xs.length ≤ c ∧ c ≤ maxLen ∧ d.C w A xs.length xs ∧ ∀ a ∈ xs, Q a := by
  rcases open_slice ht hx with ⟨rfl, _⟩ | ⟨a, len, cap, m, n', D, Pl, rfl, hb, hl, hm, hmm, _, hi⟩
  · exact ⟨none, 0, [], rfl, Nat.le_refl _, by decide, ⟨rfl, Nat.zero_le _, fun h0 => absurd h0 (Nat.lt_irrefl 0)⟩, fun a ha => by cases ha⟩
  · have hlm : len ≤ m := by rw [hmm]; split <;> omega
    have each : ∀ i, i < len → ∃ z : α, Q z ∧ ∃ c : List Value, c.length = d.sz ∧ d.K w z c ∧ ∀ j u, c[j]? = some u → w.cell? (a.add (i * d.sz + j)) = some u := by
      intro i hil
      obtain ⟨cs', hc, hy⟩ := hi i (by omega)
      rw [hs] at hc
      obtain ⟨z, hz, hq⟩ := h H enc w base spare held n' cs' _ hy
      obtain ⟨_, hcl, hat⟩ := World.cells?_some hc
      refine ⟨z, hq, cs', d.K_len hz, hz, fun j u hu => ?_⟩
      obtain ⟨hj, hu2⟩ := List.getElem?_eq_some_iff.1 hu
      have := hat j (by omega)
      rw [← Go.Deep.add_add, this]
      exact hu
    have hex := collect len _ each
    obtain ⟨xs, rfl, hxs⟩ := hex
    refine ⟨some a, cap, xs, rfl, hl, hm, ⟨rfl, by have : xs.length ≤ maxLen := by omega
                                                   unfold maxLen at this; exact this, fun _ => ⟨a, rfl, fun j p hp => (hxs j p hp).2⟩⟩, fun z hz => ?_⟩
    obtain ⟨i, hi2, rfl⟩ := List.mem_iff_getElem.1 hz
    exact (hxs i _ (List.getElem?_eq_getElem hi2)).1
theorem reads_slice {α : Type} {d : Kd α} {P : Program} {t e : TypeId} {Q : α → Prop} (ht : P.underlying t = some (.slice e)) (hs : P.cellsOf e = d.sz) (h : Reads d P e Q) : Reads (Kd.slice e d) P t (fun xs => xs.length ≤ maxLen ∧ ∀ a ∈ xs, Q a) := by
  intro H enc w base spare held n cs x hx
  obtain ⟨A, c, xs, rfl, hl, hm, hC, hq⟩ := slice_row ht hs h H enc w base spare held n cs x hx
  exact ⟨xs, ⟨A, c, rfl, hl, hC⟩, by omega, hq⟩
/-- a slice as an argument -/
theorem arg_slice {α : Type} {d : Kd α} {P : Program} {t e : TypeId} {Q : α → Prop} (ht : P.underlying t = some (.slice e)) (hs : P.cellsOf e = d.sz) (h : Reads d P e Q)
    {H : Type} {enc : TypeId × Value → H} {w : World} {base : Nat} {spare : Nat → Bool} {held : Bool} {r : Reach} {b0 : Nat} {v : Value} {dd : DataW H} {p : List MemPlace} (hv : Value.okWide P w r b0 t v) (hx : DataW.Trod enc P w base spare held t v dd p) :
    ∃ (A : Option Addr) (c : Nat) (xs : List α), v = .slice A xs.length c ∧ xs.length ≤ c ∧ c ≤ maxLen ∧ d.C w A xs.length xs ∧ ∀ a ∈ xs, Q a := by
  obtain ⟨a, len, cap, rfl⟩ := okWide_slice ht hv
  obtain ⟨fuel, hf⟩ := hx
  obtain ⟨A, c, xs, hcs, hl, hm, hC, hq⟩ := slice_row ht hs h H enc w base spare held fuel _ _ hf
  simp only [Value.cells, List.cons.injEq, and_true] at hcs
  exact ⟨A, c, xs, hcs, hl, hm, hC, hq⟩

/-- a struct as an argument -/
theorem arg_agg {α : Type} {d : Kd α} {P : Program} {t : TypeId} {fs : Array Field} {Q : α → Prop} (ht : P.underlying t = some (.struct fs)) (h : Reads d P t Q)
    {H : Type} {enc : TypeId × Value → H} {w : World} {base : Nat} {spare : Nat → Bool} {held : Bool} {r : Reach} {b0 : Nat} {v : Value} {dd : DataW H} {p : List MemPlace} (hv : Value.okWide P w r b0 t v) (hx : DataW.Trod enc P w base spare held t v dd p) :
    ∃ (cs : Array Value) (a : α), v = .agg cs ∧ d.K w a cs.toList ∧ Q a := by
  obtain ⟨cs, rfl, hsz⟩ := okWide_struct ht hv
  obtain ⟨fuel, hf⟩ := hx
  obtain ⟨a, hk, hq⟩ := h H enc w base spare held fuel _ _ hf
  exact ⟨cs, a, rfl, hk, hq⟩

/-- an array of two numbers as an argument -/
theorem arg_two {P : Program} {t e : TypeId} {k : IntKind} (ht : P.underlying t = some (.array 2 e)) (he : P.underlying e = some (.int k)) (hs : P.cellsOf t = 2) (hc : P.cellsOf e = 1)
    {H : Type} {enc : TypeId × Value → H} {w : World} {base : Nat} {spare : Nat → Bool} {held : Bool} {r : Reach} {b0 : Nat} {v : Value} {dd : DataW H} {p : List MemPlace} (hv : Value.okWide P w r b0 t v) (hx : DataW.Trod enc P w base spare held t v dd p) :
    ∃ a b : Int, v = .agg #[.int k a, .int k b] ∧ (Lit.int k a).wf = true ∧ (Lit.int k b).wf = true := by
  simp only [Value.okWide, ht] at hv
  obtain ⟨cs, rfl, hsz, _⟩ := hv
  rw [hs] at hsz
  obtain ⟨fuel, hf⟩ := hx
  obtain ⟨xs, m, _, _, hl, hlen, hi⟩ := DataW.trod_array ht hf
  obtain ⟨ls⟩ := cs
  match ls, hsz with
  | [c0, c1], _ =>
    have h0 := hi 0 (by omega)
    have h1 := hi 1 (by omega)
    rw [hc, List.getElem?_eq_getElem (by omega)] at h0 h1
    obtain ⟨a, ea, _, wa⟩ := DataW.trod_int he h0
    obtain ⟨b, eb, _, wb⟩ := DataW.trod_int he h1
    have ea' : c0 = .int k a := by simpa [Value.cells] using ea
    have eb' : c1 = .int k b := by simpa [Value.cells] using eb
    exact ⟨a, b, by rw [ea', eb'], wa, wb⟩
end Go.Proofs.YtondnammkcgjpaaOpens
namespace Go.Proofs.Ytondnammkcgjpaa.tileCuts
open Go.ChangeShapes Go.WideShapes Go.ChangeAt Go.RowKit
open Go.ChangeMaps (open_string shut_string)
open Go.Proofs.Ytondnammkcgjpaa Go.Proofs.YtondnammkcgjpaaOpens Go.Proofs.YtondnammkcgjpaaW.PrintWords
set_option linter.unusedVariables false
theorem own : ownKnob Try.prog.godebug = none := by kernel_rfl
theorem laidOut : laidOutB Try.prog = true := by kernel_rfl
set_option maxRecDepth 100000 in
theorem lifted (os : Os) (started : os.Started) (H : Type) (enc : TypeId × Value → H) :
    ReturnsInHanded {} Try.checked os 5 .any (Rows.tileCutsSpec.pre6 enc Try.prog Try.f5 Rows.tileCutsRow.domain false) (Rows.tileCutsSpec.post enc Try.prog Try.f5 false true false false) := by
  refine returnsInHanded_of_change_sized (C := Try.checked) own started (by kernel_rfl) Try.func5
    (ChangeSpec.witness6 (enc := enc) (C := Try.checked) false ⟨#[], #[.slice none 0 0, .int .i64 0, .int .i64 0], []⟩ 8 (by kernel_rfl) (by kernel_rfl) (by kernel_rfl) (by kernel_rfl)) ?_
  intro W base args ds gs before hval0 hW hcnd hsz0 _
  have hsz : (DataW.weightsEach Try.prog (Try.f5.params.toList ++ Rows.tileCutsSpec.plain.varTypes Try.prog) (ds ++ gs)).all (· ≤ reachBytes) = true := hsz0
  have hval : ∀ (j : Nat) t v, Try.f5.params[j]? = some t → args[j]? = some v → Value.okWide Try.prog W .any base t v := hval0
  have hW' := hW
  obtain ⟨p, q, hA0, hV, rfl, hfz, hnd⟩ := hW
  have hA : DataW.TrodAll enc Try.prog W 0 (fun _ => true) true Try.f5.params.toList args.toList ds p := hA0
  rw [Try.params5] at hA hval hsz
  obtain ⟨v0, vs0, d0, ds0, p0, q0, hargs, rfl, rfl, h0, r0⟩ := trodAll_cons hA
  obtain ⟨v1, vs1, d1, ds1, p1, q1, rfl, rfl, rfl, h1, r1⟩ := trodAll_cons r0
  obtain ⟨v2, vs2, d2, ds2, p2, q2, rfl, rfl, rfl, h2, r2⟩ := trodAll_cons r1
  obtain ⟨rfl, rfl, rfl⟩ := trodAll_nil r2
  obtain rfl : args = #[v0, v1, v2] := by cases args; simp_all
  obtain ⟨rfl, rfl⟩ := trodVars_none hV
  have k0 := h0
  have lt0 : ∀ x ∈ p0, x.block < W.heap.size := by obtain ⟨m, hm⟩ := k0; exact DataW.trod_lt m _ _ _ hm
  obtain ⟨A0, c0, l0, rfl, hl0, hm0, hC0, hq0⟩ := arg_slice Try.underlying22 (by kernel_rfl) (reads_string Try.underlying9) (hval 0 22 v0 rfl rfl) h0
  obtain ⟨a1, rfl, rfl, rfl, w1⟩ := open_int Try.underlying3 (hval 1 3 v1 rfl rfl) h1
  obtain ⟨a2, rfl, rfl, rfl, w2⟩ := open_int Try.underlying3 (hval 2 3 v2 rfl rfl) h2
  clear hA0 hval0 hsz0 hsz
  refine (Go.Proofs.Ytondnammkcgjpaa.Til.law_cuts A0 c0 l0 a1 a2 W hC0).mono fun e W' ⟨he, bel⟩ => ?_
  subst he
  exact ⟨_, rfl, _, _, _, [], _, [], hW', trodAll_mk1 (shut_bool Try.underlying4 _), (trodAll_cons_mk (Below.trod laidOut (by kernel_rfl) (of_decide_eq_true (by kernel_rfl)) k0 bel lt0) (trodAll_cons_mk (shut_int Try.underlying3 w1) (trodAll_cons_mk (shut_int Try.underlying3 w2) trodAll_mk0))), rfl, bel.frame _, fun h => by cases h⟩
theorem over : Rows.tileCutsRow.holds Try.pinned (OpenSpec.ofChange Rows.tileCutsSpec) :=
  OpenClaim.holds_of_wide 5 Try.f5 rfl rfl rfl rfl rfl rfl rfl ⟨rfl, rfl, rfl, rfl, rfl⟩ rfl rfl rfl rfl rfl (by kernel_rfl) Try.func5 (by kernel_rfl)
    (of_decide_eq_true (by kernel_rfl)) (by unfold Func.isWrapper; first | (rw [if_pos (by decide +kernel)]; kernel_rfl) | (rw [if_neg (by decide +kernel)]; exact ⟨rfl, rfl⟩))
    (fun os started H enc _ => lifted os started H enc)
theorem proved : Rows.TileCutsSaid := over
#print axioms proved
end Go.Proofs.Ytondnammkcgjpaa.tileCuts
namespace Go.Proofs.Ytondnammkcgjpaa
/-- The row, under a short name, for the claim. -/
theorem tileCuts_holds : Rows.TileCutsSaid := tileCuts.proved
end Go.Proofs.Ytondnammkcgjpaa
