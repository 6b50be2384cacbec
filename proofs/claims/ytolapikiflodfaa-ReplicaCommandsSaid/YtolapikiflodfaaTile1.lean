/- Here is proved: what tile.levels' function does, round by round, and what tile.Count answers. Conditions: none. -/
import Derived.RangeFuncNested
import Derived.RangeFuncBound
import Derived.RangeFuncCalls
import Derived.RangeFuncLeaves
import Derived.Shelf.Abstract
import Derived.Shelf.RegionOpen
import Derived.WalkKit
import Derived.OwnWalkIn
import Derived.TacticsInMore
import Derived.LoopNIn
import Derived.LoopIn
import Derived.Lib.Hide
import Derived.Test.YtolapikiflodfaaIter
import Derived.Test.YtolapikiflodfaaProg
namespace Go.Proofs.Ytolapikiflodfaa.Til
open Go Go.Proofs Go.RowKit Go.Shelf
attribute [local go_sem] Oper.semAt_some

/-- the number on the k-th level -/
def qv (m : Int) : Nat → Int
  | 0 => m
  | k + 1 => qv m k / 4
/-- how many levels there are -/
def ln (m : Int) : Nat := if m ≤ 0 then 0 else if m < 4 then 1 else if m < 16 then 2 else if m < 64 then 3 else 4
/-- a level and how many hashes it has -/
abbrev Lv := { p : Int × Int // 0 ≤ p.1 ∧ p.1 ≤ 4 ∧ 0 ≤ p.2 ∧ p.2 ≤ 64 }
def mkLv (i : Nat) (q : Int) : Lv := ⟨(min (i : Int) 4, max 0 (min q 64)), by simp only; omega⟩
theorem mkLv_1 (i : Nat) (q : Int) (h : i ≤ 4) : (mkLv i q).1.1 = i := by show min (i : Int) 4 = i; omega
theorem mkLv_2 (i : Nat) (q : Int) (h0 : 0 ≤ q) (h1 : q ≤ 64) : (mkLv i q).1.2 = q := by show max 0 (min q 64) = q; omega
def lvs (m : Int) (k : Nat) : List Lv := (List.range k).map fun (i : Nat) => mkLv i (qv m i)
theorem lvs_succ (m : Int) (k : Nat) : lvs m (k + 1) = lvs m k ++ [mkLv k (qv m k)] := by simp [lvs, List.range_succ]
theorem lvs_len (m : Int) (k : Nat) : (lvs m k).length = k := by simp [lvs]
theorem ln_le (m : Int) : ln m ≤ 4 := by unfold ln; (repeat' split) <;> omega
theorem qv_in (m : Int) (h0 : 0 ≤ m) (h1 : m ≤ 64) (k : Nat) : 0 ≤ qv m k ∧ qv m k ≤ 64 := by
  induction k with
  | zero => exact ⟨h0, h1⟩
  | succ k ih => simp only [qv]; omega
theorem qv_pos (m : Int) (h0 : 0 ≤ m) (h1 : m ≤ 64) (k : Nat) (hk : k ≤ 4) : 0 < qv m k ↔ k < ln m := by
  unfold ln
  match k, hk with
  | 0, _ => simp only [qv]; (repeat' split) <;> omega
  | 1, _ => simp only [qv]; (repeat' split) <;> omega
  | 2, _ => simp only [qv]; (repeat' split) <;> omega
  | 3, _ => simp only [qv]; (repeat' split) <;> omega
  | 4, _ => simp only [qv]; (repeat' split) <;> omega

abbrev enc2 (x : Lv) : Array Value := #[.int .i64 x.1.1, .int .i64 x.1.2]
def Keep1 (Bn : Nat) (A B : World) : Prop := ∀ v, Boxed A Bn 3 v → Boxed B Bn 3 v

set_option maxRecDepth 100000 in
set_option maxHeartbeats 1000000 in
theorem levels1 (F : Fence) (n : Nat) (hf : F.fn 94) (hro : F.round = none) (hn : 1 ≤ n) (Bn : Nat) (m : Int) (h0 : 0 ≤ m) (h1 : m ≤ 64) (w : World) (hBn : Bn < w.heap.size) (hc : Boxed w Bn 3 (.int .i64 m)) :
    CellSeq F n Try.prog 94 #[.pointer (some ⟨Bn, 0, none⟩)] enc2 Bn (Keep1 Bn) (fun xs => xs = lvs m (ln m)) (fun pre => ∃ k, k < ln m ∧ pre = lvs m (k + 1)) 4 w := fun l J Jx W hW hJc _ _ hY hJ0 => by
  have hcW : Boxed W Bn 3 (.int .i64 m) := (hW.block Bn hBn).trans hc
  refine callsIn_of_wp Try.func94 rfl hf ?_ hro
  simp only [Try.ntmps94, List.size_toArray, List.length_cons, List.length_nil, Nat.reduceAdd, Nat.reduceSub, Array.replicate_succ, Array.replicate_zero, List.push_toArray, List.append_toArray, List.nil_append, List.cons_append]
  gi_wp2
  gi_loopw [3] (fun p wr => ∃ k : Nat, p = .int .i64 k ∧ k ≤ ln m ∧ Boxed wr Bn 3 (.int .i64 (qv m k)) ∧ J (lvs m k) wr) (fun p _ => 4 - (intOf p).toNat)
  case atStart => exact ⟨0, rfl, Nat.zero_le _, hcW, hJ0⟩
  case round =>
    obtain ⟨k, rfl, hk, hb, hJ⟩ := hrel
    have hl := ln_le m
    have hq := qv_in m h0 h1 k
    have hp := qv_pos m h0 h1 k (by omega)
    have hce := hb.cell
    by_cases hlt : k < ln m
    · have hpos : 0 < qv m k := hp.2 hlt
      obtain ⟨fn, tmps, assign, body, hy, hR⟩ := hY (lvs m k) (mkLv k (qv m k)) wr hJ (by rw [lvs_len]; omega)
      simp only [enc2, mkLv_1 k _ (Nat.le_of_lt (Nat.lt_of_lt_of_le hlt hl)), mkLv_2 k _ hq.1 hq.2] at hy
      gi_wp2
      refine hR.mono ?_
      rintro e W3 (⟨rfl, hJ3, hk3⟩ | ⟨rfl, hx3⟩)
      · have hb3 := hk3 _ hb
        have hc3 := hb3.cell
        have hf3 := hb3.frozen
        gi_wp2
        go_roundw
        case rel => exact ⟨k + 1, by go_num, by omega, hb3.set _, by rw [lvs_succ]; exact hJc _ _ _ hJ3⟩
        case measure => simp [intOf]; omega
      · gi_wp2
        refine bodyPost_ret (results_none rfl _ _ _) rfl ?_
        exact ⟨⟨_, rfl⟩, .inr ⟨_, ⟨k, hlt, (lvs_succ m k).symm⟩, hx3⟩⟩
    · have hz : qv m k ≤ 0 := by have := hp.1; omega
      obtain rfl : k = ln m := by omega
      gi_wp2
      go_end0
      exact ⟨⟨_, rfl⟩, .inl ⟨_, rfl, hJ⟩⟩

/-- what tile.in answers -/
def inB (n : Int) : Bool := decide (0 ≤ n ∧ n ≤ 64)
theorem in_c (n : Int) (b : Bool) (hb : inB n = b) (w : World) : Calls Try.prog 56 #[.int .i64 n] w fun e w' => e = .returned (.bool b) ∧ w = w' := by
  subst hb
  by_cases h0 : 0 ≤ n
  · by_cases h1 : n ≤ 64
    · go_enter Try.func56, Try.ntmps56
      go_wp2
      go_ret
      exact ⟨by simp [inB, h0, h1], rfl⟩
    · have h1' : 64 < n := by omega
      go_enter Try.func56, Try.ntmps56
      go_wp2
      go_ret
      exact ⟨by simp [inB, h0, h1], rfl⟩
  · have h0' : n < 0 := by omega
    go_enter Try.func56, Try.ntmps56
    go_wp2
    go_ret
    exact ⟨by simp [inB]; omega, rfl⟩
/-- tile.levels: the number is boxed, the function value bears the box -/
theorem levels_c (n : Int) (w : World) : Calls Try.prog 57 #[.int .i64 n] w fun e w' => e = .returned (.func (.func 94) #[] #[.pointer (some ⟨w.heap.size, 0, none⟩)]) ∧ w' = w.alloc (.cells #[.int .i64 n] 3) := by
  go_enter Try.func57, Try.ntmps57
  go_wp2
  go_ret
  exact ⟨rfl, rfl⟩

theorem own_boxed (B : Nat) (t : TypeId) (v : Value) : Own (fun (_ : List Lv) W => Boxed W B t v) := by
  intro s A A2 row hs hg hr
  exact hs.kept hg (fun e => by obtain ⟨o, ho, hc⟩ := hr B e.symm; rw [show A.heap[B]? = _ from hs] at ho; cases ho; cases hc)

def cntv (n k : Int) : Int := if 0 ≤ n ∧ n ≤ 64 ∧ 0 ≤ k ∧ k.toNat < ln n then qv n k.toNat else 0

theorem keep1_t {Bn : Nat} {A B C : World} (h : Keep1 Bn A B) (k : Keep1 Bn B C) : Keep1 Bn A C := fun v hv => k v (h v hv)
theorem keep1_b {Bn B0 : Nat} (hB : Bn < B0) (W : World) (l : Nat) (o o2 : Obj) (hl : B0 ≤ l) (_ : W.heap[l]? = some o) (_ : o.isCells = false) : Keep1 Bn W (W.putObj l o2) :=
  fun _ hv => (World.putObj_heap_other (by omega)).trans hv

set_option maxRecDepth 100000 in
set_option maxHeartbeats 2000000 in
theorem count_in (n k : Int) (h0 : 0 ≤ n) (h1 : n ≤ 64) (w : World) : CallsIn Fence.wide 3 Try.prog 18 #[.int .i64 n, .int .i64 k] w fun e w' => e = .returned (.int .i64 (cntv n k)) ∧ Below w.heap.size w w' := by
  have hin : inB n = true := by simp [inB, h0, h1]
  refine callsIn_of_wp_marks Try.func18 rfl trivial ?_ rfl
  simp only [Try.ntmps18, List.size_toArray, List.length_cons, List.length_nil, Nat.reduceAdd, Nat.reduceSub, Array.replicate_succ, Array.replicate_zero, List.push_toArray, List.append_toArray, List.nil_append, List.cons_append]
  have hpo := fun W => in_c n true hin W
  have HPO := Lib.hid hpo
  have HL := Lib.hid (levels_c n)
  clear hin hpo
  gi_wp2_with (first | (refine ⟨trivial, ?_⟩; gi_at_call 56; refine (callsIn_wide.2 (HPO.out _)).mono ?_; rintro e w' ⟨rfl, rfl⟩) | (refine ⟨trivial, ?_⟩; gi_at_call 57; refine (callsIn_wide.2 (HL.out _)).mono ?_; rintro e w' ⟨rfl, rfl⟩))
  have bK := Boxed.new w 3 (.int .i64 k)
  have bR := Boxed.new (w.alloc (.cells #[.int .i64 k] 3)) 3 (.int .i64 0)
  have bN := Boxed.new ((w.alloc (.cells #[.int .i64 k] 3)).alloc (.cells #[.int .i64 0] 3)) 3 (.int .i64 n)
  rw [World.size_alloc] at bR
  rw [World.size_alloc, World.size_alloc] at bN
  have hB0 : Below w.heap.size w (((w.alloc (.cells #[.int .i64 k] 3)).alloc (.cells #[.int .i64 0] 3)).alloc (.cells #[.int .i64 n] 3)) := (((Below.refl _ w).alloc (Nat.le_refl _) _).alloc (by simp) _).alloc (by simp; omega) _
  have bK2 := (bK.alloc (.cells #[.int .i64 0] 3)).alloc (.cells #[.int .i64 n] 3)
  have bR2 := bR.alloc (.cells #[.int .i64 n] 3)
  have hsz : (((w.alloc (.cells #[.int .i64 k] 3)).alloc (.cells #[.int .i64 0] 3)).alloc (.cells #[.int .i64 n] 3)).heap.size = w.heap.size + 3 := by simp
  obtain ⟨W0, hW0⟩ : ∃ W0, ((w.alloc (.cells #[.int .i64 k] 3)).alloc (.cells #[.int .i64 0] 3)).alloc (.cells #[.int .i64 n] 3) = W0 := ⟨_, rfl⟩
  rw [hW0] at hB0 bK2 bR2 hsz bN ⊢
  clear hW0 bK bR
  refine range_cell (α := Lv) (encs := enc2) (N := 4) (Bn := w.heap.size + 1 + 1) (Kp := Keep1 (w.heap.size + 1 + 1)) rfl (Nat.le_add_left 1 2) (gf := 94) (lb := #[.pointer (some ⟨w.heap.size + 1 + 1, 0, none⟩)]) rfl trivial (enters_of Try.func94 (by kernel_rfl) rfl)
    (levels1 Fence.wide 2 trivial rfl (by omega) (w.heap.size + 1 + 1) n h0 h1 W0 (by rw [hsz]; omega) bN) keep1_t
    (fun V l o o2 hl h hc => keep1_b (Bn := w.heap.size + 1 + 1) (B0 := w.heap.size + 3) (by omega) V l o o2 (by rw [hsz] at hl; exact hl) h hc) (Below.refl _ _) (fun _ => rfl)
    (fun (pre : List Lv) W => (Boxed W w.heap.size 3 (.int .i64 k) ∧ Boxed W (w.heap.size + 1) 3 (.int .i64 0) ∧ ∀ x : Lv, x ∈ pre → x.1.1 ≠ k) ∧ Below w.heap.size w W)
    (fun c (pre : List Lv) W => (c = .ret ∧ ∃ (x : Lv) (ys : List Lv), pre = ys ++ [x] ∧ x.1.1 = k ∧ Boxed W (w.heap.size + 1) 3 (.int .i64 x.1.2)) ∧ Below w.heap.size w W)
    (OwnFrom.and (Own.from (fun s A A2 row hs hg hr => ⟨own_boxed _ _ _ s A A2 row hs.1 hg hr, own_boxed _ _ _ s A A2 row hs.2.1 hg hr, hs.2.2⟩) _) (ownFrom_below (Nat.le_refl _) (by rw [hsz]; omega)))
    (fun c => OwnFrom.and (Own.from (fun s A A2 row hs hg hr => by obtain ⟨hc, x, ys, e1, e2, hb⟩ := hs; exact ⟨hc, x, ys, e1, e2, own_boxed _ _ _ s A A2 row hb hg hr⟩) _) (ownFrom_below (Nat.le_refl _) (by rw [hsz]; omega)))
    (fun s A v hs => ⟨⟨hs.1.1.other (by omega) v, hs.1.2.1.other (by omega) v, hs.1.2.2⟩, hs.2.setCell (p := ⟨w.heap.size + 1 + 1, 0, none⟩) (by show w.heap.size ≤ w.heap.size + 1 + 1; omega) v⟩)
    ⟨⟨bK2, bR2, fun x hx => by cases hx⟩, hB0⟩
    (fun x => { tmps := #[.int .i64 n, .int .i64 k, undef, .pointer (some ⟨w.heap.size, 0, none⟩), .pointer (some ⟨w.heap.size + 1, 0, none⟩), .int .i64 x.1.1, .int .i64 x.1.2, .int .i64 n, .bool true, .int .i64 n, .func (.func 94) #[] #[.pointer (some ⟨w.heap.size + 1 + 1, 0, none⟩)], .int .i64 x.1.1, .int .i64 x.1.2, undef, undef, undef, undef], defers := [] }) ?assign ?body ?done ?stop
  case assign =>
    intro l x W K hK
    gi_wp2
    exact hK
  case body =>
    rintro l pre x W ⟨⟨b1, b2, hne⟩, hB⟩ _
    have hc1 := b1.cell
    have hc2 := b2.cell
    have hf2 := b2.frozen
    by_cases hx : x.1.1 = k
    · have hx2 : (x.1.1 == k) = true := by simp [hx]
      gi_wp2
      exact ⟨(KeepsOthers.setCell _ _ _).from _, ⟨rfl, x, pre, rfl, hx, b2.set _⟩, hB.setCell (p := ⟨w.heap.size + 1, 0, none⟩) (by show w.heap.size ≤ w.heap.size + 1; omega) _⟩
    · have hx2 : (x.1.1 == k) = false := by simp [hx]
      gi_wp2
      exact ⟨KeepsFrom.refl _ _, fun v hv => hv, ⟨b1, b2, fun y hy => by rcases List.mem_append.1 hy with h | h; exact hne y h; rw [List.mem_singleton.1 h]; exact hx⟩, hB⟩
  case done =>
    rintro D xs W hD rfl ⟨⟨b1, b2, hne⟩, hB⟩ hK
    have hc2 := b2.cell
    have hf2 := b2.frozen
    have hv : cntv n k = 0 := by
      unfold cntv
      split
      · rename_i h
        have := hne (mkLv k.toNat (qv n k.toNat)) (List.mem_map.2 ⟨k.toNat, List.mem_range.2 h.2.2.2, rfl⟩)
        have hl := ln_le n
        exact absurd (by rw [mkLv_1 _ _ (by omega)]; omega) this
      · rfl
    have HV := Lib.hid hv
    clear hv
    gi_wp2
    have hK2 := (KeepsOthers.setCell W ⟨w.heap.size + 1, 0, none⟩ (.int .i64 0)).same D _ hK rfl
    have b4 : Boxed ((W.setCell ⟨w.heap.size + 1, 0, none⟩ (.int .i64 0)).putObj D (.deferred none)) (w.heap.size + 1) 3 (.int .i64 0) := (World.putObj_heap_other (by rw [hsz] at hD; omega)).trans (b2.set _)
    refine ⟨by simp, .inl ⟨_, _, rfl, run_takeDeferred hK2, ?_⟩⟩
    refine ⟨.int .i64 0, ?_, by rw [HV.out], ?_⟩
    · have hc5 := b4.cell
      simp [results, Try.f18, go_sem, hc5]
    · exact (hB.setCell (p := ⟨w.heap.size + 1, 0, none⟩) (by show w.heap.size ≤ w.heap.size + 1; omega) _).trans (belowK_b (w := w) (Nat.le_refl _) _ D _ _ (by rw [hsz] at hD; omega) hK2 rfl rfl)
  case stop =>
    rintro D c pre W hD ⟨j, hj, rfl⟩ ⟨⟨rfl, x, ys, hp, hx, b2⟩, hB⟩ hK
    have hv : cntv n k = x.1.2 := by
      have hl := ln_le n
      have hq := qv_in n h0 h1 j
      rw [lvs_succ] at hp
      obtain ⟨_, e⟩ := List.append_inj' hp rfl
      obtain rfl := List.singleton_inj.1 e
      have hk : k = (j : Int) := by rw [← hx, mkLv_1 _ _ (by omega)]
      rw [mkLv_2 _ _ hq.1 hq.2]
      unfold cntv
      rw [if_pos ⟨h0, h1, by omega, by omega⟩]
      show qv n k.toNat = qv n j
      congr 1; omega
    have HV := Lib.hid hv
    clear hv hp
    have b4 : Boxed (W.putObj D (.deferred none)) (w.heap.size + 1) 3 (.int .i64 x.1.2) := (World.putObj_heap_other (by rw [hsz] at hD; omega)).trans b2
    gi_wp2
    refine ⟨by simp, .inl ⟨_, _, rfl, run_takeDeferred hK, ?_⟩⟩
    refine ⟨.int .i64 x.1.2, ?_, by rw [HV.out], ?_⟩
    · have hc5 := b4.cell
      simp [results, Try.f18, go_sem, hc5]
    · exact hB.trans (belowK_b (w := w) (Nat.le_refl _) _ D _ _ (by rw [hsz] at hD; omega) hK rfl rfl)

theorem count_c (n k : Int) (r : Int) (hr : cntv n k = r) (w : World) : Calls Try.prog 18 #[.int .i64 n, .int .i64 k] w fun e w' => e = .returned (.int .i64 r) ∧ Below w.heap.size w w' := by
  subst hr
  by_cases h : 0 ≤ n ∧ n ≤ 64
  · exact callsIn_wide.1 (count_in n k h.1 h.2 w)
  · have HV := Lib.hid (show cntv n k = 0 from if_neg (fun hh => h ⟨hh.1, hh.2.1⟩))
    have HPO := Lib.hid (fun W => in_c n false (by simp [inB]; omega) W)
    clear h
    go_enter Try.func18, Try.ntmps18
    go_wp2_with (go_at_call 56; refine (HPO.out _).mono ?_; rintro e w' ⟨rfl, rfl⟩)
    exact bodyPost_ret (v := .int .i64 0) (by simp [results, Try.f18, go_sem]) rfl ⟨by rw [HV.out], ((Below.refl _ w).alloc (Nat.le_refl _) _).alloc (by simp) _⟩
end Go.Proofs.Ytolapikiflodfaa.Til
