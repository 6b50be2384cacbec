/- Here is proved: what ranges.powers' function does, round by round, and what ranges.Stretches makes. Condition: bits.Len has its contract. -/
import Derived.RangeFuncNested
import Derived.RangeFuncBound
import Derived.RangeFuncCalls
import Derived.RangeFuncLeaves
import Derived.Shelf.Abstract
import Derived.Shelf.RegionOpen
import Derived.WalkKit
import Derived.OwnWalkIn
import Derived.TacticsInMore
import Derived.LoopNIn
import Derived.LoopIn
import Derived.Lib.Hide
import Derived.Maps.AppendAt
import Derived.Test.YtolapikiflodfaaIter
import Derived.Test.YtolapikiflodfaaProg
namespace Go.Proofs.Ytolapikiflodfaa.Rng
open Go Go.Proofs Go.RowKit Go.Shelf
attribute [local go_sem] Oper.semAt_some

/-- how many bits a number has -/
def blen : Nat → Nat → Nat
  | 0, _ => 0
  | f + 1, x => if x = 0 then 0 else 1 + blen f (x / 2)
/-- the greatest power of two in a number -/
def hp (m : Nat) : Nat := 2 ^ (blen 64 m - 1)
theorem blen_zero (f : Nat) : blen f 0 = 0 := by cases f <;> rfl
theorem blen_bd (f : Nat) : ∀ m, m < 2 ^ f → 0 < m → 1 ≤ blen f m ∧ blen f m ≤ f ∧ 2 ^ (blen f m - 1) ≤ m ∧ m < 2 ^ blen f m := by
  induction f with
  | zero => intro m h h0; simp at h; omega
  | succ f ih =>
    intro m h h0
    have e : blen (f + 1) m = 1 + blen f (m / 2) := by simp only [blen]; rw [if_neg (by omega)]
    rw [e]
    by_cases h2 : m / 2 = 0
    · rw [h2, blen_zero]
      obtain rfl : m = 1 := by omega
      exact ⟨by omega, by omega, by decide, by decide⟩
    · obtain ⟨i1, i2, i3, i4⟩ := ih (m / 2) (by rw [Nat.pow_succ] at h; omega) (by omega)
      refine ⟨by omega, by omega, ?_, ?_⟩
      · have : 2 ^ (1 + blen f (m / 2) - 1) = 2 * 2 ^ (blen f (m / 2) - 1) := by
          rw [← Nat.pow_succ']; congr 1; omega
        omega
      · rw [Nat.pow_add]; omega
theorem hp_bd (m : Nat) (h : m < 2 ^ 63) (h0 : 0 < m) : 1 ≤ hp m ∧ hp m ≤ m ∧ m < 2 * hp m := by
  obtain ⟨i1, i2, i3, i4⟩ := blen_bd 64 m (by omega) h0
  unfold hp
  refine ⟨Nat.one_le_two_pow, i3, ?_⟩
  rw [← Nat.pow_succ']
  have : (blen 64 m - 1).succ = blen 64 m := by omega
  rw [this]; exact i4
/-- a power -/
abbrev Pw := { p : Nat // p < 2 ^ 63 }
def mkPw (m : Nat) : Pw := ⟨hp m % 2 ^ 63, Nat.mod_lt _ (by decide)⟩
theorem mkPw_1 (m : Nat) (h : m < 2 ^ 63) (h0 : 0 < m) : (mkPw m).1 = hp m := Nat.mod_eq_of_lt (by have := hp_bd m h h0; omega)
/-- the powers of a number -/
def pws : Nat → Nat → List Pw
  | 0, _ => []
  | f + 1, m => if m = 0 then [] else mkPw m :: pws f (m - hp m)
theorem pws_zero (f : Nat) : pws f 0 = [] := by cases f <;> rfl

abbrev enc1 (x : Pw) : Array Value := #[.int .i64 (x.1 : Int)]
def Keep1 (Bn : Nat) (A B : World) : Prop := ∀ v, Boxed A Bn 3 v → Boxed B Bn 3 v
def LenC : Prop := ∀ (x : Nat) (w : World), x < 2 ^ 63 → Calls Try.prog 104 #[.int .u64 (x : Int)] w fun e w2 => e = .returned (.int .i64 (blen 64 x : Int)) ∧ w = w2
noncomputable def numAt (w : World) (Bn : Nat) : Nat := match w.cell? ⟨Bn, 0, none⟩ with
  | some v => (intOf v).toNat
  | none => 0
theorem numAt_boxed {w : World} {Bn : Nat} {m : Nat} (h : Boxed w Bn 3 (.int .i64 m)) : numAt w Bn = m := by
  unfold numAt; rw [h.cell]; simp [intOf]

set_option maxRecDepth 100000 in
set_option maxHeartbeats 1000000 in
theorem powers1 (HL : LenC) (n : Nat) (hn : 1 ≤ n) (Bn : Nat) (m : Nat) (h1 : m < 2 ^ 62) (w : World) (hBn : Bn < w.heap.size) (hc : Boxed w Bn 3 (.int .i64 m)) :
    CellSeq Fence.wide n Try.prog 103 #[.pointer (some ⟨Bn, 0, none⟩)] enc1 Bn (Keep1 Bn) (fun xs => xs = pws 64 m) (fun pre => pre <+: pws 64 m) 64 w := fun l J Jx W hW hJc _ _ hY hJ0 => by
  have hcW : Boxed W Bn 3 (.int .i64 m) := (hW.block Bn hBn).trans hc
  have HLH := Lib.hid HL
  clear HL
  refine callsIn_of_wp Try.func103 rfl trivial ?_ rfl
  simp only [Try.ntmps103, List.size_toArray, List.length_cons, List.length_nil, Nat.reduceAdd, Nat.reduceSub, Array.replicate_succ, Array.replicate_zero, List.push_toArray, List.append_toArray, List.nil_append, List.cons_append]
  gi_wp2
  gi_loopw [3] (fun _ wr => ∃ (f q : Nat) (pre : List Pw), f ≤ 64 ∧ q < 2 ^ f ∧ q < 2 ^ 62 ∧ Hid (pre ++ pws f q = pws 64 m) ∧ Hid (pre.length + f = 64) ∧ Boxed wr Bn 3 (.int .i64 (q : Int)) ∧ J pre wr) (fun _ wr => numAt wr Bn)
  case atStart => exact ⟨64, m, [], by omega, by omega, by omega, rfl, rfl, hcW, hJ0⟩
  case round =>
    obtain ⟨f, q, pre, hf, hq1, hq2, HP, HS, hb, hJ⟩ := hrel
    have hce := hb.cell
    by_cases hz : 0 < q
    · have hqi : (0 : Int) < (q : Int) := by omega
      have hqj : (q : Int) < 4611686018427387904 := by omega
      have hf1 : 1 ≤ f := by
        rcases Nat.eq_zero_or_pos f with h | h
        · subst h; simp at hq1; omega
        · exact h
      have hlen : pre.length < 64 := by have := HS.out; omega
      have hq63 : q < 2 ^ 63 := by omega
      obtain ⟨fn, tmps, assign, body, hy, hR⟩ := hY pre (mkPw q) wr hJ hlen
      simp only [enc1, mkPw_1 q hq63 hz] at hy
      gi_wp2_with fail
      refine ⟨trivial, ?_⟩
      refine (callsIn_wide.2 (HLH.out q _ hq63)).mono ?_
      rintro e w2 ⟨rfl, rfl⟩
      have hsh : ∀ W2, (Op.shift .shl .i64 1 .i64 (wrap64 ((blen 64 q : Int) - 1))).run Try.prog W2 = .ok (.int .i64 (hp q : Int)) W2 := by
        intro W2
        obtain ⟨i1, i2, i3, i4⟩ := blen_bd 64 q (by omega) hz
        have hle : blen 64 q ≤ 63 := by
          rcases Nat.lt_or_ge 63 (blen 64 q) with h | h
          · have : 2 ^ 63 ≤ 2 ^ (blen 64 q - 1) := Nat.pow_le_pow_right (by decide) (by omega)
            omega
          · exact h
        have e1 : wrap64 ((blen 64 q : Int) - 1) = ((blen 64 q - 1 : Nat) : Int) := by unfold wrap64; omega
        rw [e1]
        unfold Op.shift
        have hb3 : min (((blen 64 q - 1 : Nat) : Int)).toNat IntKind.i64.bits = blen 64 q - 1 := by rw [Int.toNat_natCast]; show min _ 64 = _; omega
        have hhp := hp_bd q hq63 hz
        have e2 : IntKind.i64.wrap ((1 : Int) * 2 ^ (blen 64 q - 1)) = (hp q : Int) := by
          have e3 : (1 : Int) * 2 ^ (blen 64 q - 1) = (hp q : Int) := by rw [Int.one_mul]; exact (Int.natCast_pow 2 (blen 64 q - 1)).symm
          rw [e3]; exact IntWalk.i64_in _ (by omega)
        rw [if_neg (by omega)]
        simp only [hb3, e2]
        rfl
      have hhp := hp_bd q hq63 hz
      have g1 : (1 : Int) ≤ (hp q : Int) := by omega
      have g2 : (hp q : Int) ≤ (q : Int) := by omega
      have HH := Lib.hid hhp
      clear hhp
      gi_wp2_with fail
      refine hR.mono ?_
      rintro e W3 (⟨rfl, hJ3, hk3⟩ | ⟨rfl, hx3⟩)
      · have hb3 := hk3 _ hb
        have hc3 := hb3.cell
        have hf3 := hb3.frozen
        clear hsh
        gi_wp2_with fail
        go_roundw
        case rel =>
          obtain ⟨f, rfl⟩ : ∃ f2, f = f2 + 1 := ⟨f - 1, by omega⟩
          have hq0 : ¬ q = 0 := by omega
          have e5 : pws (f + 1) q = mkPw q :: pws f (q - hp q) := by simp only [pws]; rw [if_neg hq0]
          refine ⟨f, q - hp q, pre ++ [mkPw q], by omega, ?_, by omega, ?_, ?_, ?_, hJc _ _ _ hJ3⟩
          · have := HH.out
            rw [Nat.pow_succ] at hq1
            have h6 : hp q < 2 ^ (f + 1) := by rw [Nat.pow_succ]; omega
            obtain ⟨i1, i2, i3, i4⟩ := blen_bd 64 q (by omega) hz
            have h7 : 2 ^ (blen 64 q) ≤ 2 ^ (f + 1) := by
              unfold hp at h6
              have : blen 64 q - 1 < f + 1 := (Nat.pow_lt_pow_iff_right (by decide)).1 h6
              exact Nat.pow_le_pow_right (by decide) (by omega)
            have h8 : hp q ≤ 2 ^ f := by
              unfold hp
              have : blen 64 q ≤ f + 1 := (Nat.pow_le_pow_iff_right (by decide)).1 h7
              exact Nat.pow_le_pow_right (by decide) (by omega)
            omega
          · refine Lib.hid ?_
            have := HP.out; rw [e5] at this; rw [← this]; simp
          · refine Lib.hid ?_
            have := HS.out; rw [List.length_append]; simp; omega
          · rw [show ((q - hp q : Nat) : Int) = (q : Int) - (hp q : Int) by omega]; exact hb3.set _
        case measure =>
          rw [numAt_boxed hb, numAt_boxed (m := q - hp q) (by rw [show ((q - hp q : Nat) : Int) = (q : Int) - (hp q : Int) by omega]; exact hb3.set _)]
          have := HH.out
          omega
      · gi_wp2_with fail
        refine bodyPost_ret (results_none rfl _ _ _) rfl ?_
        obtain ⟨f, rfl⟩ : ∃ f2, f = f2 + 1 := ⟨f - 1, by omega⟩
        have e5 : pws (f + 1) q = mkPw q :: pws f (q - hp q) := by simp only [pws]; rw [if_neg (by omega)]
        exact ⟨⟨_, rfl⟩, .inr ⟨_, ⟨pws f (q - hp q), by have := HP.out; rw [e5] at this; rw [← this]; simp⟩, hx3⟩⟩
    · have hqz : (q : Int) ≤ 0 := by omega
      obtain rfl : q = 0 := by omega
      gi_wp2
      go_end0
      exact ⟨⟨_, rfl⟩, .inl ⟨_, by have := HP.out; rw [pws_zero, List.append_nil] at this; exact this, hJ⟩⟩

set_option maxRecDepth 100000 in
set_option maxHeartbeats 1000000 in
theorem powers0 (n : Nat) (_ : 1 ≤ n) (Bn : Nat) (z : Int) (hz : z ≤ 0) (w : World) (hBn : Bn < w.heap.size) (hc : Boxed w Bn 3 (.int .i64 z)) :
    CellSeq Fence.wide n Try.prog 103 #[.pointer (some ⟨Bn, 0, none⟩)] enc1 Bn (Keep1 Bn) (fun xs => xs = []) (fun _ => True) 64 w := fun l J Jx W hW hJc _ _ hY hJ0 => by
  have hcW : Boxed W Bn 3 (.int .i64 z) := (hW.block Bn hBn).trans hc
  have hce := hcW.cell
  refine callsIn_of_wp Try.func103 rfl trivial ?_ rfl
  simp only [Try.ntmps103, List.size_toArray, List.length_cons, List.length_nil, Nat.reduceAdd, Nat.reduceSub, Array.replicate_succ, Array.replicate_zero, List.push_toArray, List.append_toArray, List.nil_append, List.cons_append]
  gi_wp2
  gi_loopw [3] (fun _ wr => wr = W) (fun _ _ => 0)
  case atStart => rfl
  case round =>
    subst hrel
    gi_wp2
    go_end0
    exact ⟨⟨_, rfl⟩, .inl ⟨_, rfl, hJ0⟩⟩

theorem info3 : (Try.prog.info? 3).map (fun i => (i.zero, i.size, i.bytes)) = some (some (.int .i64 0), 1, 8) := by kernel_rfl
def ints (l : List Pw) : List Value := l.map fun x => .int .i64 (x.1 : Int)

theorem own_box (B : Nat) (t : TypeId) : Own (fun (_ : List Pw) W => ∃ u, Boxed W B t u) := by
  intro s A A2 row hs hg hr
  obtain ⟨u, hs⟩ := hs
  exact ⟨u, hs.kept hg (fun e => by obtain ⟨o, ho, hc⟩ := hr B e.symm; rw [show A.heap[B]? = _ from hs] at ho; cases ho; cases hc)⟩
theorem keep1_t {Bn : Nat} {A B C : World} (h : Keep1 Bn A B) (k : Keep1 Bn B C) : Keep1 Bn A C := fun v hv => k v (h v hv)
theorem keep1_b {Bn B0 : Nat} (hB : Bn < B0) (W : World) (l : Nat) (o o2 : Obj) (hl : B0 ≤ l) (_ : W.heap[l]? = some o) (_ : o.isCells = false) : Keep1 Bn W (W.putObj l o2) :=
  fun _ hv => (World.putObj_heap_other (by omega)).trans hv

set_option maxRecDepth 100000 in
set_option maxHeartbeats 2000000 in
theorem seq_in (L : List Pw) (hL : L.length ≤ 64) (Sp : List Pw → Prop) (Bn B0 : Nat) (hB0 : B0 ≤ Bn) (w : World) (hBn : Bn < w.heap.size) (u0 : Value) (bN : Boxed w Bn 3 u0)
    (hseq : CellSeq Fence.wide 2 Try.prog 103 #[.pointer (some ⟨Bn, 0, none⟩)] enc1 Bn (Keep1 Bn) (fun xs => xs = L) Sp 64 w) :
    CallsIn Fence.wide 3 Try.prog 102 #[.slice none 0 0, .func (.func 103) #[] #[.pointer (some ⟨Bn, 0, none⟩)]] w fun e w2 => ∃ v, e = .returned v ∧ w2.ownsRow w.heap.size 3 1 v L.length (ints L) ∧ Below B0 w w2 := by
  obtain ⟨i0, hi, hz0, hz1, hz2⟩ := info_parts info3
  refine callsIn_of_wp_marks Try.func102 rfl trivial ?_ rfl
  simp only [Try.ntmps102, List.size_toArray, List.length_cons, List.length_nil, Nat.reduceAdd, Nat.reduceSub, Array.replicate_succ, Array.replicate_zero, List.push_toArray, List.append_toArray, List.nil_append, List.cons_append]
  gi_wp2
  have bO := Boxed.new w 55 (.slice none 0 0)
  have bN2 := bN.alloc (.cells #[.slice none 0 0] 55)
  have hBw : Below B0 w (w.alloc (.cells #[.slice none 0 0] 55)) := (Below.refl _ w).alloc (by omega) _
  have hsz : (w.alloc (.cells #[.slice none 0 0] 55)).heap.size = w.heap.size + 1 := by simp
  obtain ⟨W0, hW0⟩ : ∃ W0, w.alloc (.cells #[.slice none 0 0] 55) = W0 := ⟨_, rfl⟩
  have hbw : Below w.heap.size w W0 := by rw [← hW0]; exact (Below.refl _ w).alloc (Nat.le_refl _) _
  rw [hW0] at hBw bO bN2 hsz ⊢
  clear hW0
  refine range_cell (α := Pw) (encs := enc1) (N := 64) (Bn := Bn) (Kp := Keep1 Bn) rfl (Nat.le_add_left 1 2) (gf := 103) (lb := #[.pointer (some ⟨Bn, 0, none⟩)]) rfl trivial (enters_of Try.func103 (by kernel_rfl) rfl)
    hseq keep1_t (fun V l o o2 hl h hc => keep1_b (Bn := Bn) (B0 := w.heap.size + 1) (by omega) V l o o2 (by rw [hsz] at hl; exact hl) h hc) hbw (fun _ => rfl)
    (fun (pre : List Pw) W => (∃ v, Boxed W w.heap.size 55 v ∧ W.ownsRow w.heap.size 3 1 v pre.length (ints pre) ∧ True) ∧ Below B0 w W ∧ ∃ u, Boxed W Bn 3 u)
    (fun _ _ _ => False)
    (OwnFrom.and (Own.from (holdsRow_own w.heap.size w.heap.size 55 3 1 (fun (pre : List Pw) => pre.length) (fun pre => ints pre) (fun _ _ => True)) _) (OwnFrom.and (ownFrom_below (by omega) (by rw [hsz]; omega)) (Own.from (own_box _ _) _)))
    (fun _ _ _ _ _ hs _ _ => hs)
    (fun s A v hs => by
      obtain ⟨⟨u, b1, r1, _⟩, hB, z, hz⟩ := hs
      have hne : some Bn ≠ u.ownBlock := by
        intro e
        have := r1.lt Bn e.symm
        omega
      exact ⟨⟨u, b1.other (by omega) v, r1.kept (grownBy_setCell' A Bn v) (.inr hne.symm), trivial⟩, hB.setCell (p := ⟨Bn, 0, none⟩) hB0 v, v, hz.set v⟩)
    ⟨⟨_, bO, World.ownsRow_nil _ _ _ _, trivial⟩, hBw, _, bN2⟩
    (fun x => { tmps := #[.slice none 0 0, .func (.func 103) #[] #[.pointer (some ⟨Bn, 0, none⟩)], .pointer (some ⟨w.heap.size, 0, none⟩), undef, .slice none 0 0, .int .i64 (x.1 : Int), .func (.func 103) #[] #[.pointer (some ⟨Bn, 0, none⟩)], .int .i64 (x.1 : Int), undef, undef, undef, undef, undef], defers := [] }) ?assign ?body ?done ?stop
  case assign =>
    intro l x W K hK
    gi_wp2
    exact hK
  case body =>
    rintro l pre x W ⟨⟨v, hv, hrow, _⟩, hB, z, hz⟩ hlt
    have hc := hv.cell
    have hww := hv.lt
    gi_wp2_with (gi_at_builtin; refine wpListIn_append_own _ rfl (.tmp 8) (.tmp 10) 55 rfl w.heap.size 3 i0 (.int .i64 0) 1 8 Try.underlying55 hi hz0 hz1 hz2 rfl (by decide) _ _ _ rfl (hrow.alloc _) ⟨W.heap.size, 0, none⟩ 1 1 [.int .i64 (x.1 : Int)] rfl rfl (cell_one_new _ _ _) (by simp [Value.oneCell']) (by simp only [maxLen]; omega) (by omega) (by simp; omega) ?_; intro v2 w1 hown2 hgrow _; obtain ⟨g2, cap2, rfl⟩ := ownsRow_succ hown2; obtain ⟨hv1, hv2, hr2, hk2, hb2⟩ := hv.appended (by decide) hrow (by omega) (Nat.le_refl _) hown2 hgrow; have hc1 := hv1.cell; have hf1 := hv1.frozen)
    have hu : ∀ u, Boxed W Bn 3 u → Boxed (w1.setCell ⟨w.heap.size, 0, none⟩ (.slice (some ⟨g2, 0, none⟩) (pre.length + 1) cap2)) Bn 3 u := fun u hu => (hb2.block Bn hBn).trans hu
    refine ⟨hk2.from _, hu, ⟨⟨_, hv2, ?_, trivial⟩, hB.trans (hb2.mono (by omega)), z, hu z hz⟩⟩
    have e : ints (pre ++ [x]) = ints pre ++ [.int .i64 (x.1 : Int)] := by simp [ints]
    rw [e, List.length_append]; exact hr2
  case done =>
    rintro D xs W hD rfl ⟨⟨v, hv, hrow, _⟩, hB, _⟩ hK
    have hc := hv.cell
    gi_wp2
    refine ⟨by simp, .inl ⟨_, _, rfl, run_takeDeferred hK, ?_⟩⟩
    exact ⟨_, results_tmp rfl _ _ _, v, rfl, ownsRow_putObj hrow _ hK rfl, hB.trans (belowK_b (w := w) (n₀ := B0) (by omega) W D _ _ (by rw [hsz] at hD; omega) hK rfl rfl)⟩
  case stop =>
    rintro D c pre W _ _ h _
    exact h.elim

theorem collect_c (L : List Pw) (hL : L.length ≤ 64) (Sp : List Pw → Prop) (Bn B0 : Nat) (hB0 : B0 ≤ Bn) (w : World) (hBn : Bn < w.heap.size) (u0 : Value) (bN : Boxed w Bn 3 u0)
    (hseq : CellSeq Fence.wide 2 Try.prog 103 #[.pointer (some ⟨Bn, 0, none⟩)] enc1 Bn (Keep1 Bn) (fun xs => xs = L) Sp 64 w) :
    Calls Try.prog 76 #[.func (.func 103) #[] #[.pointer (some ⟨Bn, 0, none⟩)]] w fun e w2 => ∃ v, e = .returned v ∧ w2.ownsRow w.heap.size 3 1 v L.length (ints L) ∧ Below B0 w w2 := by
  have HS := Lib.hid (callsIn_wide.1 (seq_in L hL Sp Bn B0 hB0 w hBn u0 bN hseq))
  clear hseq
  go_enter Try.func76, Try.ntmps76
  go_wp2_with fail
  refine HS.out.mono ?_
  rintro e w2 ⟨v, rfl, ho, hb⟩
  have HO := Lib.hid ho
  have HB := Lib.hid hb
  clear ho hb
  go_wp2
  go_ret
  exact ⟨_, rfl, HO.out, HB.out⟩
theorem powers_c (n : Int) (w : World) : Calls Try.prog 77 #[.int .i64 n] w fun e w2 => e = .returned (.func (.func 103) #[] #[.pointer (some ⟨w.heap.size, 0, none⟩)]) ∧ w2 = w.alloc (.cells #[.int .i64 n] 3) := by
  go_enter Try.func77, Try.ntmps77
  go_wp2
  go_ret
  exact ⟨rfl, rfl⟩
theorem pws_len (f : Nat) : ∀ m, (pws f m).length ≤ f := by
  induction f with
  | zero => intro m; simp [pws]
  | succ f ih =>
    intro m
    simp only [pws]
    split
    · simp
    · have := ih (m - hp m); simp only [List.length_cons]; omega
/-- the stretches of a number -/
def stretch (n : Int) : List Pw := pws 64 n.toNat
theorem stretches_c (HL : LenC) (n : Int) (h : n < 4611686018427387904) (w : World) : Calls Try.prog 35 #[.int .i64 n] w fun e w2 => ∃ v, e = .returned v ∧ w2.ownsRow w.heap.size 3 1 v (stretch n).length (ints (stretch n)) ∧ Below w.heap.size w w2 := by
  have HC : Hid (∀ W : World, Boxed W w.heap.size 3 (.int .i64 n) → Calls Try.prog 76 #[.func (.func 103) #[] #[.pointer (some ⟨w.heap.size, 0, none⟩)]] W fun e w2 => ∃ v, e = .returned v ∧ w2.ownsRow W.heap.size 3 1 v (stretch n).length (ints (stretch n)) ∧ Below w.heap.size W w2) := by
    refine Lib.hid fun W hb => ?_
    by_cases h0 : n ≤ 0
    · have e : stretch n = [] := by unfold stretch; rw [show n.toNat = 0 by omega, pws_zero]
      rw [e]
      exact collect_c [] (by simp) _ w.heap.size w.heap.size (Nat.le_refl _) W hb.lt _ hb (powers0 2 (by omega) w.heap.size n h0 W hb.lt hb)
    · exact collect_c (stretch n) (pws_len 64 _) _ w.heap.size w.heap.size (Nat.le_refl _) W hb.lt _ hb (powers1 HL 2 (by omega) w.heap.size n.toNat (by omega) W hb.lt (by rw [Int.toNat_of_nonneg (by omega)]; exact hb))
  have HP := Lib.hid (powers_c n)
  clear HL
  go_enter Try.func35, Try.ntmps35
  go_wp2_with fail
  refine (HP.out _).mono ?_
  rintro e w2 ⟨rfl, rfl⟩
  go_wp2_with fail
  refine (HC.out _ (Boxed.new w 3 _)).mono ?_
  rintro e w2 ⟨v, rfl, ho, hb⟩
  have HO := Lib.hid ho
  have HB := Lib.hid hb
  clear ho hb
  go_wp2
  go_ret
  exact ⟨_, rfl, own_mono HO.out (by simp), ((Below.refl _ w).alloc (Nat.le_refl _) _).trans HB.out⟩
end Go.Proofs.Ytolapikiflodfaa.Rng
