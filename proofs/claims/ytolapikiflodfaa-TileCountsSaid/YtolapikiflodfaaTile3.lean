/- Here is proved: what slices.DeleteFunc makes of a plan, and so what tile.Edge makes. Condition: tile.Width has its contract. -/
import Derived.Test.YtolapikiflodfaaTile2
import Derived.Deep.LoopGhost
import Derived.Lib.SliceRun
import Derived.Laws.IdiomCopy
import Derived.Lib.LazyBuf
namespace Go.Proofs.Ytolapikiflodfaa.Til
open Go Go.Proofs Go.RowKit Go.Shelf

section blocks
variable {w : World} {g t : Nat} {cs : Array Value}
def Blk (w : World) (g t : Nat) (cs : Array Value) : Prop := w.heap[g]? = some (.cells cs t (0, 0))
theorem Blk.cell (h : Blk w g t cs) (i : Nat) : w.cell? ⟨g, i, none⟩ = cs[i]? := by simp [World.cell?, show w.heap[g]? = _ from h]
theorem Blk.frozen (h : Blk w g t cs) (i : Nat) : w.frozen? ⟨g, i, none⟩ = false := by simp [World.frozen?, show w.heap[g]? = _ from h]
theorem Blk.lt (h : Blk w g t cs) : g < w.heap.size := (Array.getElem?_eq_some_iff.1 h).1
theorem Blk.below {w2 : World} {B : Nat} (h : Blk w g t cs) (hb : Below B w w2) (hB : g < B) : Blk w2 g t cs := (hb.block g hB).trans h
theorem Blk.put (h : Blk w g t cs) (i : Nat) (u : Value) : Blk (w.setCell ⟨g, i, none⟩ u) g t (cs.setIfInBounds i u) := by
  unfold Blk at h ⊢
  simp [World.setCell, Array.getElem?_modify, h]
theorem Blk.alloc' (h : Blk w g t cs) (o : Obj) : Blk (w.alloc o) g t cs := (Below.heap_alloc w o g h.lt).trans h
theorem new_blk (w : World) (cs : Array Value) (t : Nat) : Blk (w.alloc (.cells cs t)) w.heap.size t cs := World.alloc_heap_new w _
theorem Blk.puts (h : Blk w g t cs) : ∀ (vs : List Value) (o : Nat), ∃ c2, Blk (w.setCells g o vs) g t c2 ∧ c2.size = cs.size ∧ ∀ k, k < o → c2[k]? = cs[k]? := by
  intro vs
  induction vs generalizing w cs with
  | nil => intro o; exact ⟨cs, h, rfl, fun _ _ => rfl⟩
  | cons v vs ih =>
    intro o
    obtain ⟨c2, h2, hs, hk⟩ := ih (h.put o v) (o + 1)
    refine ⟨c2, h2, by rw [hs]; simp, fun k hlt => (hk k (by omega)).trans ?_⟩
    rw [Array.getElem?_setIfInBounds]
    rw [if_neg (by omega)]
end blocks

theorem zeros_len (cells : Array Value) (n : Nat) : (Builtin.zeroCells cells n).toList.length = n * cells.size := by simp [Builtin.zeroCells]; try omega
theorem run_clear_ids (w : World) (ty : TypeId) (g o n c : Nat) (cs : Array Value) (hb : Blk w g 26 cs) (hn : 0 < n) (hl : o + n * 2 ≤ cs.size) :
    ∃ vs : List Value, (Builtin.clear_ #[23] ty #[.slice (some ⟨g, o, none⟩) n c]).run Try.prog w = .ok (.tuple #[]) (w.setCells g o vs) := by
  obtain ⟨vs, hvs⟩ : ∃ vs, (Builtin.zeroCells (Value.agg #[.int .i64 0, .int .i64 0]).cells n).toList = vs := ⟨_, rfl⟩
  have hlen : vs.length = n * 2 := by rw [← hvs, zeros_len]; rfl
  have hone : ∀ v ∈ vs, v.oneCell' = true := by
    intro v hv
    rw [← hvs] at hv
    simp only [Builtin.zeroCells, Array.toList_map, List.mem_map] at hv
    obtain ⟨i, _, rfl⟩ := hv
    have h2 : i % (Value.agg #[.int .i64 0, .int .i64 0]).cells.size = 0 ∨ i % (Value.agg #[.int .i64 0, .int .i64 0]).cells.size = 1 := by
      show i % 2 = 0 ∨ i % 2 = 1
      omega
    rcases h2 with h2 | h2 <;> rw [h2] <;> rfl
  have hst := run_storeCells_cells (P := Try.prog) g o vs 0 w (fun j hj => by
    show (w.cell? ⟨g, o + 0 + j, none⟩).isSome = true
    rw [hb.cell, Array.getElem?_eq_getElem (by omega)]; rfl) (fun j hj => hb.frozen _) hone
  simp only [Nat.add_zero] at hst
  have hz : ∀ W, (zeroValue 26).run Try.prog W = .ok (.agg #[.int .i64 0, .int .i64 0]) W := Try.zeroValue26
  refine ⟨vs, ?_⟩
  obtain ⟨m, rfl⟩ : ∃ m, n = m + 1 := ⟨n - 1, by omega⟩
  simp [Builtin.clear_, run_underlying Try.underlying23, hz, hvs, hst]

/-- what the row holds when the elements from j on are still to be looked at -/
structure RowAt (p : Int × Int → Bool) (xs : List (Int × Int)) (cap i j : Nat) (cs : Array Value) : Prop where
  size : cs.size = cap * 2
  len : i = ((xs.take j).filter fun x => !p x).length
  lt : i < j
  kept : cs.toList.take (i * 2) = idc ((xs.take j).filter fun x => !p x)
  rest : ∀ t, j ≤ t → (h : t < xs.length) → cs[t * 2]? = some (.int .i64 xs[t].1) ∧ cs[t * 2 + 1]? = some (.int .i64 xs[t].2)

theorem take_one {α : Type} (xs : List α) (j : Nat) (h : j < xs.length) : xs.take (j + 1) = xs.take j ++ [xs[j]] := by
  rw [List.take_succ_eq_append_getElem h]
theorem RowAt.skip {p : Int × Int → Bool} {xs : List (Int × Int)} {cap i j : Nat} {cs : Array Value} (h : RowAt p xs cap i j cs) (hj : j < xs.length) (hp : p xs[j] = true) : RowAt p xs cap i (j + 1) cs := by
  have e : (xs.take (j + 1)).filter (fun x => !p x) = (xs.take j).filter (fun x => !p x) := by rw [take_one _ _ hj, List.filter_append]; simp [hp]
  exact ⟨h.size, by rw [e]; exact h.len, by have := h.lt; omega, by rw [e]; exact h.kept, fun t ht hl => h.rest t (by omega) hl⟩
theorem RowAt.keep {p : Int × Int → Bool} {xs : List (Int × Int)} {cap i j : Nat} {cs : Array Value} (h : RowAt p xs cap i j cs) (hj : j < xs.length) (hcap : xs.length ≤ cap) (hp : p xs[j] = false) :
    RowAt p xs cap (i + 1) (j + 1) ((cs.setIfInBounds (i * 2) (.int .i64 xs[j].1)).setIfInBounds (i * 2 + 1) (.int .i64 xs[j].2)) := by
  have e : (xs.take (j + 1)).filter (fun x => !p x) = (xs.take j).filter (fun x => !p x) ++ [xs[j]] := by rw [take_one _ _ hj, List.filter_append]; simp [hp]
  have hs := h.size
  have hlt := h.lt
  refine ⟨by simp [hs], by rw [e, List.length_append, ← h.len]; rfl, by omega, ?_, fun t ht hl => ?_⟩
  · rw [e, idc_app, ← h.kept]
    apply List.ext_getElem?
    intro k
    have hl0 : (cs.toList.take (i * 2)).length = i * 2 := by rw [List.length_take, Array.length_toList, hs]; omega
    simp only [List.getElem?_take, Array.getElem?_toList, Array.getElem?_setIfInBounds, Array.size_setIfInBounds, hs]
    by_cases h1 : k < i * 2
    · rw [List.getElem?_append_left (by rw [hl0]; exact h1), if_pos (by omega), if_neg (by omega), if_neg (by omega), List.getElem?_take, if_pos h1, Array.getElem?_toList]
    · rw [List.getElem?_append_right (by rw [hl0]; omega), hl0]
      by_cases h2 : k = i * 2
      · subst h2
        rw [if_pos (by omega), if_neg (by omega), if_pos rfl, if_pos (by omega), Nat.sub_self]; rfl
      · by_cases h3 : k = i * 2 + 1
        · subst h3
          rw [if_pos (by omega), if_pos rfl, if_pos (by omega), show i * 2 + 1 - i * 2 = 1 by omega]; rfl
        · rw [if_neg (by omega)]
          rw [List.getElem?_eq_none (by simp [idc]; omega)]
  · have := h.rest t (by omega) hl
    simp only [Array.getElem?_setIfInBounds]
    rw [if_neg (by omega), if_neg (by omega), if_neg (by omega), if_neg (by omega)]
    exact this

/-- what is asked of the predicate: it reads the number's box alone -/
def PredC (B : Nat) (n : Int) (p : Int × Int → Bool) : Prop :=
  ∀ (W : World) (x : Int × Int), Boxed W B 3 (.int .i64 n) → Calls Try.prog 64 #[.agg #[.int .i64 x.1, .int .i64 x.2], .pointer (some ⟨B, 0, none⟩)] W fun e w2 => e = .returned (.bool (p x)) ∧ Below W.heap.size W w2

def IxPost (p : Int × Int → Bool) (xs : List (Int × Int)) (w : World) (e : Ending) (w2 : World) : Prop :=
  Below w.heap.size w w2 ∧ ((e = .returned (.int .i64 (-1)) ∧ ∀ x ∈ xs, p x = false) ∨ ∃ k, ∃ h : k < xs.length, e = .returned (.int .i64 k) ∧ p xs[k] = true ∧ ∀ x ∈ xs.take k, p x = false)

theorem idc_at (xs : List (Int × Int)) (t : Nat) (h : t < xs.length) : (idc xs)[t * 2]? = some (.int .i64 xs[t].1) ∧ (idc xs)[t * 2 + 1]? = some (.int .i64 xs[t].2) := by
  induction xs generalizing t with
  | nil => simp at h
  | cons x xs ih =>
    match t, h with
    | 0, _ => exact ⟨rfl, rfl⟩
    | t + 1, h =>
      have e : idc (x :: xs) = .int .i64 x.1 :: .int .i64 x.2 :: idc xs := rfl
      rw [e, show (t + 1) * 2 = t * 2 + 1 + 1 by omega]
      exact ih t (by simpa using h)

theorem fnE64 : ∀ args w, (callFunc 64 args).run Try.prog w = .ok (.enter 64 args) w := enters_of Try.func64 (by kernel_rfl) rfl

set_option maxRecDepth 100000 in
set_option maxHeartbeats 2000000 in
theorem ix_c (B g : Nat) (n : Int) (p : Int × Int → Bool) (hp : PredC B n p) (xs : List (Int × Int)) (cap : Nat) (cs : Array Value) (w : World) (hB : Boxed w B 3 (.int .i64 n)) (hb : Blk w g 26 cs)
    (hN : xs.length ≤ 1000) (hc : ∀ t, (h : t < xs.length) → cs[t * 2]? = some (.int .i64 xs[t].1) ∧ cs[t * 2 + 1]? = some (.int .i64 xs[t].2)) :
    Calls Try.prog 97 #[.slice (some ⟨g, 0, none⟩) xs.length cap, .func (.func 64) #[] #[.pointer (some ⟨B, 0, none⟩)]] w (IxPost p xs w) := by
  have eg := fnE64
  have HP := Lib.hid hp
  have HC := Lib.hid hc
  have HB := Lib.hid hB
  have Hb := Lib.hid hb
  clear hp hc hB hb
  obtain ⟨N, HN⟩ : ∃ N, Hid (xs.length = N) := ⟨_, rfl⟩
  rw [HN.out] at hN ⊢
  go_enter Try.func97, Try.ntmps97
  go_wp2
  go_loopw [5, 8] (fun _ s8 wr => ∃ k : Nat, k ≤ N ∧ s8 = .int .i64 k ∧ Hid (Below w.heap.size w wr) ∧ Hid (∀ x ∈ xs.take k, p x = false)) (fun _ s8 _ => N - (intOf s8).toNat)
  case atStart => exact ⟨0, Nat.zero_le _, rfl, Below.refl _ w, fun j hj => by simp at hj⟩
  case round =>
    obtain ⟨k, hk, rfl, BW, A⟩ := hrel
    by_cases hlt : k < N
    · have hlx : k < xs.length := by rw [HN.out]; exact hlt
      have hltz : (k : Int) < (N : Int) := by omega
      have hbr := Hb.out.below BW.out Hb.out.lt
      have c1 := (hbr.cell (k * 2)).trans (HC.out k hlx).1
      have c2 := (hbr.cell (k * 2 + 1)).trans (HC.out k hlx).2
      have hcall := HP.out wr xs[k] ((BW.out.block _ HB.out.lt).trans HB.out)
      have At := Lib.hid (take_one xs k hlx)
      clear hbr
      generalize hy : xs[k] = y at c1 c2 hcall
      have Hy := Lib.hid hy
      clear hy
      cases hq : p y with
      | true =>
        rw [hq] at hcall
        go_wp2_with (go_at_fn 64; refine hcall.mono ?_; rintro e w2 ⟨rfl, hb2⟩)
        go_ret
        exact ⟨BW.out.trans (hb2.mono BW.out.size), .inr ⟨k, hlx, rfl, (congrArg p Hy.out).trans hq, A.out⟩⟩
      | false =>
        rw [hq] at hcall
        go_wp2_with (go_at_fn 64; refine hcall.mono ?_; rintro e w2 ⟨rfl, hb2⟩)
        go_roundw
        case rel =>
          refine ⟨k + 1, by omega, by go_num, (show Hid _ from BW.out.trans (hb2.mono BW.out.size)), (show Hid _ from fun x hx => ?_)⟩
          rw [At.out] at hx
          rcases List.mem_append.1 hx with h | h
          · exact A.out x h
          · rw [List.mem_singleton.1 h]; exact (congrArg p Hy.out).trans hq
        case measure => simp [intOf]; omega
    · have hltz : ¬ (k : Int) < (N : Int) := by omega
      obtain rfl : k = N := by omega
      go_wp2
      go_ret
      exact ⟨BW.out, .inl ⟨rfl, by have := A.out; rwa [List.take_of_length_le (by rw [HN.out]; exact Nat.le_refl _)] at this⟩⟩

theorem filter_none {p : Int × Int → Bool} {l : List (Int × Int)} (h : ∀ x ∈ l, p x = false) : l.filter (fun x => !p x) = l := List.filter_eq_self.2 (fun x hx => by rw [h x hx]; rfl)
theorem own_of_blk {w : World} {base g cap N : Nat} {cs : Array Value} (hb : Blk w g 26 cs) (hg : base ≤ g) (hs : cs.size = cap * 2) (hN : N ≤ cap) (hcap : cap ≤ maxLen) (ys : List Value) (hy : cs.toList.take (N * 2) = ys) :
    w.ownsRow base 26 2 (.slice (some ⟨g, 0, none⟩) N cap) N ys :=
  ⟨by rw [← hy, List.length_take, Array.length_toList, hs]; omega, .inr ⟨g, cap, cs, rfl, hg, hb, hN, hcap, hs, hy⟩⟩

def DelPost (xs : List (Int × Int)) (base g : Nat) (w : World) (e : Ending) (w2 : World) : Prop :=
  ∃ v, e = .returned v ∧ w2.ownsRow base 26 2 v xs.length (idc xs) ∧ Below g w w2

set_option maxRecDepth 100000 in
set_option maxHeartbeats 4000000 in
theorem del_c (B g base : Nat) (n : Int) (p : Int × Int → Bool) (hp : PredC B n p) (xs : List (Int × Int)) (cap : Nat) (cs : Array Value) (w : World) (hB : Boxed w B 3 (.int .i64 n)) (hb : Blk w g 26 cs)
    (hg : base ≤ g) (hgB : g ≠ B) (hN : xs.length ≤ 1000) (hcap : cap ≤ maxLen) (hNc : xs.length ≤ cap) (hs : cs.size = cap * 2) (hxs : cs.toList.take (xs.length * 2) = idc xs) :
    Calls Try.prog 63 #[.slice (some ⟨g, 0, none⟩) xs.length cap, .func (.func 64) #[] #[.pointer (some ⟨B, 0, none⟩)]] w (DelPost (xs.filter fun x => !p x) base base w) := by
  have hc : ∀ t, (h : t < xs.length) → cs[t * 2]? = some (.int .i64 xs[t].1) ∧ cs[t * 2 + 1]? = some (.int .i64 xs[t].2) := by
    intro t h
    have h1 := idc_at xs t h
    rw [← hxs, List.getElem?_take, if_pos (by omega), List.getElem?_take, if_pos (by omega), Array.getElem?_toList, Array.getElem?_toList] at h1
    exact h1
  have hix := ix_c B g n p hp xs cap cs w hB hb hN hc
  have HIX := Lib.hid hix
  have eg := fnE64
  have HP := Lib.hid hp
  have HC := Lib.hid hc
  have HB := Lib.hid hB
  have Hb := Lib.hid hb
  have Hs := Lib.hid hs
  have Hxs := Lib.hid hxs
  clear hp hc hB hb hs hxs hix
  obtain ⟨N, HN⟩ : ∃ N, Hid (xs.length = N) := ⟨_, rfl⟩
  rw [HN.out] at hN hNc HIX ⊢
  go_enter Try.func63, Try.ntmps63
  go_wp2_with fail
  refine HIX.out.mono ?_
  rintro e w1 ⟨hb1, ⟨rfl, hall⟩ | ⟨k, hk, rfl, hpk, hall⟩⟩
  · have Hall := Lib.hid hall
    have Hb1 := Lib.hid hb1
    clear hall hb1
    go_wp2
    go_ret
    exact ⟨_, rfl, by rw [filter_none Hall.out, HN.out]; exact own_of_blk (Hb.out.below Hb1.out Hb.out.lt) hg Hs.out hNc hcap _ (by rw [← HN.out]; exact Hxs.out), Hb1.out.mono (Nat.le_trans hg (Nat.le_of_lt Hb.out.lt))⟩
  have hkN : k < N := by rw [← HN.out]; exact hk
  have hne1 : ((k : Int) == -1) = false := beq_eq_false_iff_ne.2 (by omega)
  have HI0 : Hid (RowAt p xs cap k (k + 1) cs) := by
    refine (show RowAt p xs cap k (k + 1) cs from ⟨Hs.out, ?_, by omega, ?_, fun t _ h => HC.out t h⟩)
    · rw [take_one _ _ hk, List.filter_append, filter_none hall]; simp [hpk]; omega
    · rw [take_one _ _ hk, List.filter_append, filter_none hall]
      have h2 : [xs[k]].filter (fun x => !p x) = [] := by simp [hpk]
      rw [h2, List.append_nil]
      have h3 : cs.toList.take (k * 2) = (idc xs).take (k * 2) := by rw [← Hxs.out, List.take_take, Nat.min_eq_left (by omega)]
      rw [h3]
      have h4 : idc xs = idc (xs.take k) ++ idc (xs.drop k) := by rw [← idc_app, List.take_append_drop]
      have h5 : (idc (xs.take k)).length = k * 2 := by
        have : ∀ l : List (Int × Int), (idc l).length = l.length * 2 := fun l => by induction l with
          | nil => rfl
          | cons x l ih => have e : idc (x :: l) = .int .i64 x.1 :: .int .i64 x.2 :: idc l := rfl
                           rw [e]; simp [ih]; omega
        rw [this, List.length_take]; omega
      rw [h4, List.take_append_of_le_length (by omega), List.take_of_length_le (by omega)]
  have Hb1 := Lib.hid (Hb.out.below hb1 Hb.out.lt)
  have HB1 := Lib.hid ((hb1.block _ HB.out.lt).trans HB.out : Boxed w1 B 3 (.int .i64 n))
  have HW1 := Lib.hid (hb1.mono (Nat.le_trans hg (Nat.le_of_lt Hb.out.lt)) : Below base w w1)
  have hbw : base ≤ w1.heap.size := Nat.le_trans hg (Nat.le_trans (Nat.le_of_lt Hb.out.lt) hb1.size)
  clear hall hpk hb1 HC HIX
  go_wp2
  go_loopw [5, 6] (fun s5 s6 wr => ∃ (i j : Nat) (c2 : Array Value), s5 = .int .i64 i ∧ s6 = .int .i64 j ∧ j ≤ N ∧ Hid (Blk wr g 26 c2) ∧ Hid (RowAt p xs cap i j c2) ∧ Hid (Boxed wr B 3 (.int .i64 n)) ∧ Hid (Below base w wr)) (fun _ s6 _ => N - (intOf s6).toNat)
  case atStart => exact ⟨k, k + 1, cs, rfl, by go_num, by omega, Hb1, HI0, HB1, HW1⟩
  case round =>
    obtain ⟨i, j, c2, rfl, rfl, hjN, Rb, RI, RB, RW⟩ := hrel
    have hij := RI.out.lt
    by_cases hlt : j < N
    · have hltz : (j : Int) < (N : Int) := by omega
      have hlx : j < xs.length := by rw [HN.out]; exact hlt
      have c1 := (Rb.out.cell (j * 2)).trans (RI.out.rest j (Nat.le_refl _) hlx).1
      have c3 := (Rb.out.cell (j * 2 + 1)).trans (RI.out.rest j (Nat.le_refl _) hlx).2
      have hgr : base ≤ wr.heap.size := Nat.le_trans hg (Nat.le_of_lt Rb.out.lt)
      obtain ⟨y, Hy⟩ : ∃ y, Hid (xs[j] = y) := ⟨xs[j], Lib.hid rfl⟩
      rw [Hy.out] at c1 c3
      have hsz := RI.out.size
      have HI1 : ∃ u1 u2, c2[i * 2]? = some u1 ∧ c2[i * 2 + 1]? = some u2 := ⟨_, _, Array.getElem?_eq_getElem (by omega), Array.getElem?_eq_getElem (by omega)⟩
      obtain ⟨u1, u2, e1, e2⟩ := HI1
      have E1 := Lib.hid e1
      have E2 := Lib.hid e2
      have hcall := HP.out (wr.alloc (.cells #[.int .i64 y.1, .int .i64 y.2] 26)) y (RB.out.alloc _)
      have HSZ := Lib.hid hsz
      clear e1 e2 hsz
      cases hq : p y with
      | false =>
        rw [hq] at hcall
        go_wp2_with fail
        refine hcall.mono ?_
        rintro e w2 ⟨rfl, hb2⟩
        have N1 := Lib.hid ((Rb.out.alloc' (.cells #[.int .i64 y.1, .int .i64 y.2] 26)).below hb2 (by have := Rb.out.lt; simp; omega))
        have d1 := (N1.out.cell (i * 2)).trans E1.out
        have d2 := (N1.out.cell (i * 2 + 1)).trans E2.out
        have d3 := N1.out.frozen (i * 2)
        have d4 := N1.out.frozen (i * 2 + 1)
        have N2 := Lib.hid ((new_blk wr #[.int .i64 y.1, .int .i64 y.2] 26).below hb2 (by simp))
        have d5 := (N2.out.cell 0).trans rfl
        have d6 := (N2.out.cell 1).trans rfl
        have N3 := Lib.hid ((hb2.block _ (RB.out.alloc _).lt).trans (RB.out.alloc _))
        have N4 := Lib.hid ((RW.out.alloc hgr _).trans (hb2.mono (by rw [World.size_alloc]; exact Nat.le_succ_of_le hgr)))
        clear hb2
        go_wp2_with fail
        go_roundw
        case rel =>
          have K1 := RI.out.keep hlx (by rw [HN.out]; exact hNc) ((congrArg p Hy.out).trans hq)
          rw [Hy.out] at K1
          have K2 := (N1.out.put (i * 2) (.int .i64 y.1)).put (i * 2 + 1) (.int .i64 y.2)
          have K3 : Boxed ((w2.setCell ⟨g, i * 2, none⟩ (.int .i64 y.1)).setCell ⟨g, i * 2 + 1, none⟩ (.int .i64 y.2)) B 3 (.int .i64 n) := (Below.heap_setCell _ ⟨g, i * 2 + 1, none⟩ _ B (Ne.symm hgB)).trans ((Below.heap_setCell w2 ⟨g, i * 2, none⟩ _ B (Ne.symm hgB)).trans N3.out)
          have K4 := (N4.out.setCell (p := ⟨g, i * 2, none⟩) hg (.int .i64 y.1)).setCell (p := ⟨g, i * 2 + 1, none⟩) hg (.int .i64 y.2)
          clear N1 N2 N3 N4 d1 d2 d3 d4 d5 d6
          refine ⟨i + 1, j + 1, (c2.setIfInBounds (i * 2) (.int .i64 y.1)).setIfInBounds (i * 2 + 1) (.int .i64 y.2), by go_num, by go_num, by omega, ?_⟩
          exact ⟨K2, K1, K3, K4⟩
        case measure => simp [intOf]; omega
      | true =>
        rw [hq] at hcall
        go_wp2_with fail
        refine hcall.mono ?_
        rintro e w2 ⟨rfl, hb2⟩
        have N1 := Lib.hid ((Rb.out.alloc' (.cells #[.int .i64 y.1, .int .i64 y.2] 26)).below hb2 (by have := Rb.out.lt; simp; omega))
        have N3 := Lib.hid ((hb2.block _ (RB.out.alloc _).lt).trans (RB.out.alloc _))
        have N4 := Lib.hid ((RW.out.alloc hgr _).trans (hb2.mono (by rw [World.size_alloc]; exact Nat.le_succ_of_le hgr)))
        clear hb2
        go_wp2_with fail
        go_roundw
        case rel => exact ⟨i, j + 1, c2, rfl, by go_num, by omega, N1, RI.out.skip hlx ((congrArg p Hy.out).trans hq), N3, N4⟩
        case measure => simp [intOf]; omega
    · have hltz : ¬ (j : Int) < (N : Int) := by omega
      obtain rfl : N = j := by omega
      have hlenk := RI.out.len
      have hsz2 := RI.out.size
      have hiN : i ≤ N := by omega
      have hcl : ∃ vs : List Value, ∀ ty, (Builtin.clear_ #[23] ty #[.slice (some ⟨g, i * 2, none⟩) (N - i) (cap - i)]).run Try.prog wr = .ok (.tuple #[]) (wr.setCells g (i * 2) vs) := by
        obtain ⟨vs, h⟩ := run_clear_ids wr 0 g (i * 2) (N - i) (cap - i) c2 Rb.out (by omega) (by rw [hsz2]; omega)
        exact ⟨vs, fun ty => h⟩
      obtain ⟨vs, hcl⟩ := hcl
      obtain ⟨c4, hb4, hs4, hk4⟩ := Rb.out.puts vs (i * 2)
      have HB4 := Lib.hid hb4
      have HS4 := Lib.hid (hs4.trans hsz2)
      have HK4 := Lib.hid hk4
      have HLK := Lib.hid hlenk
      clear hb4 hs4 hk4 hlenk hsz2
      go_wp2
      go_ret
      have hf : (xs.take N).filter (fun x => !p x) = xs.filter (fun x => !p x) := by rw [List.take_of_length_le (by rw [HN.out]; exact Nat.le_refl _)]
      have hk5 := RI.out.kept
      have hl5 := HLK.out
      rw [hf] at hk5 hl5
      refine ⟨_, rfl, ?_, below_setCells hg vs _ _ RW.out⟩
      rw [← hl5]
      refine own_of_blk HB4.out hg HS4.out (by omega) hcap _ ?_
      rw [← hk5]
      apply List.ext_getElem?
      intro q
      rw [List.getElem?_take, List.getElem?_take]
      by_cases hq : q < i * 2
      · rw [if_pos hq, if_pos hq, Array.getElem?_toList, Array.getElem?_toList, HK4.out q hq]
      · rw [if_neg hq, if_neg hq]
end Go.Proofs.Ytolapikiflodfaa.Til
