/- Here is proved: what tile.Plan makes. Conditions: none. -/
import Derived.Test.YtolapikiflodfaaTile1
namespace Go.Proofs.Ytolapikiflodfaa.Til
open Go Go.Proofs Go.RowKit Go.Shelf
attribute [local go_sem] Oper.semAt_some

def rowK (lv : Int) (k : Nat) : List (Int × Int) := (List.range k).map fun (i : Nat) => (lv, (i : Int))
theorem rowK_succ (lv : Int) (k : Nat) : rowK lv (k + 1) = rowK lv k ++ [(lv, (k : Int))] := by simp [rowK, List.range_succ]
theorem rowK_len (lv : Int) (k : Nat) : (rowK lv k).length = k := by simp [rowK]
/-- how many tiles a level has -/
def nt (c : Int) : Nat := ((c + 3) / 4).toNat
def rowL (x : Lv) : List (Int × Int) := rowK x.1.1 (nt x.1.2)
def planL : List Lv → List (Int × Int) := List.foldl (fun l x => rowL x ++ l) []
theorem planL_snoc (pre : List Lv) (x : Lv) : planL (pre ++ [x]) = rowL x ++ planL pre := by simp [planL]
theorem nt_le (x : Lv) : nt x.1.2 ≤ 16 := by have := x.2; unfold nt; omega
theorem planL_len (pre : List Lv) : (planL pre).length ≤ 16 * pre.length := by
  suffices h : ∀ (l : List Lv) (acc : List (Int × Int)), (l.foldl (fun l x => rowL x ++ l) acc).length ≤ 16 * l.length + acc.length by
    have := h pre []; simpa [planL] using this
  intro l
  induction l with
  | nil => intro acc; simp
  | cons x l ih =>
    intro acc; rw [List.foldl_cons]; have h1 := ih (rowL x ++ acc); have h2 := nt_le x; have h3 : (rowL x ++ acc).length = nt x.1.2 + acc.length := by rw [List.length_append, rowL, rowK_len]
    simp only [List.length_cons]; omega
def idc (l : List (Int × Int)) : List Value := l.flatMap fun p => [.int .i64 p.1, .int .i64 p.2]
theorem idc_app (a b : List (Int × Int)) : idc (a ++ b) = idc a ++ idc b := by simp [idc]
theorem idc_one (l : List (Int × Int)) : ∀ u ∈ idc l, u.oneCell' = true := by
  intro u hu
  obtain ⟨p, _, hp⟩ := List.mem_flatMap.1 hu
  rcases List.mem_cons.1 hp with rfl | hp
  · rfl
  · rw [List.mem_singleton.1 hp]; rfl

theorem info26 : (Try.prog.info? 26).map (fun i => (i.zero, i.size, i.bytes)) = some (some (.agg #[.int .i64 0, .int .i64 0]), 2, 16) := by kernel_rfl

theorem two_new (w : World) (u v : Value) (t : TypeId) : ∀ j x, ([u, v] : List Value)[j]? = some x → (w.alloc (.cells #[u, v] t)).cell? ((⟨w.heap.size, 0, none⟩ : Addr).add j) = some x := by
  intro j x hx
  match j, hx with
  | 0, hx => obtain rfl : u = x := by simpa using hx
             simp [Addr.add]
  | 1, hx => obtain rfl : v = x := by simpa using hx
             simp [Addr.add]
  | j + 2, hx => simp at hx

/-- the inner loop's row, one longer -/
theorem row_more {W wr w1 : World} {B0 : Nat} {v : Value} {k : Nat} {xs : List Value} {tmp : Obj} (hrow : wr.ownsRow W.heap.size 26 2 v k xs) (hb : Below W.heap.size W wr) (hk : KeepsFrom B0 W wr)
    (hg : (wr.alloc tmp).grownBy w1 v.ownBlock) : Below W.heap.size W w1 ∧ KeepsFrom B0 W w1 := by
  refine ⟨(hb.alloc hb.size tmp).grown hg (by have := hb.size; simp; omega) (fun j ej => (hrow.lt j ej).1), hk.trans (((KeepsOthers.alloc wr tmp).trans (KeepsOthers.of_grownBy hg fun j o ej hj => ?_)).from B0)⟩
  rcases (hrow.alloc tmp).2 with ⟨rfl, _⟩ | ⟨g, cap, cur, rfl, _, hgb, _⟩
  · simp [Value.ownBlock] at ej
  · obtain rfl : g = j := by simpa [Value.ownBlock] using ej
    rw [hgb] at hj; cases hj; rfl

/-- the row laid ahead of what there was, in the variable's box -/
theorem box_more {W wr w1 : World} {B0 base Bo : Nat} {v v2 vo : Value} {k m : Nat} {xs ys : List Value} (hbase : base ≤ W.heap.size) (hBo : base ≤ Bo) (hvo : Boxed W Bo 23 vo)
    (hrow : wr.ownsRow W.heap.size 26 2 v k xs) (hb : Below W.heap.size W wr) (hk : KeepsFrom B0 W wr) (hown : w1.ownsRow W.heap.size 26 2 v2 m ys) (hg : wr.grownBy w1 v.ownBlock) :
    Boxed w1 Bo 23 vo ∧ Boxed (w1.setCell ⟨Bo, 0, none⟩ v2) Bo 23 v2 ∧ (w1.setCell ⟨Bo, 0, none⟩ v2).ownsRow base 26 2 v2 m ys ∧ KeepsFrom B0 W (w1.setCell ⟨Bo, 0, none⟩ v2) ∧ Below base W (w1.setCell ⟨Bo, 0, none⟩ v2) ∧ Below W.heap.size W w1 := by
  have h1 : Below W.heap.size W w1 := hb.grown hg hb.size (fun j ej => (hrow.lt j ej).1)
  have h2 : Boxed w1 Bo 23 vo := (h1.block Bo hvo.lt).trans hvo
  refine ⟨h2, h2.set v2, own_mono (hown.kept (grownBy_setCell' w1 Bo v2) (.inr ?_)) hbase, (hk.trans ((KeepsOthers.of_grownBy hg fun j o ej hj => ?_).from B0)).trans ((KeepsOthers.setCell _ _ _).from B0), (h1.mono hbase).setCell (p := ⟨Bo, 0, none⟩) hBo v2, h1⟩
  · intro e
    have := hown.lt Bo e
    have := hvo.lt
    omega
  · rcases hrow.2 with ⟨rfl, _⟩ | ⟨g, cap, cur, rfl, _, hgb, _⟩
    · simp [Value.ownBlock] at ej
    · obtain rfl : g = j := by simpa [Value.ownBlock] using ej
      rw [hgb] at hj; cases hj; rfl

theorem own_slice {w : World} {b e size : Nat} {v : Value} {n : Nat} {xs : List Value} (h : w.ownsRow b e size v n xs) : ∃ A m c, v = .slice A m c := by
  rcases h.2 with ⟨rfl, _⟩ | ⟨g, cap, cur, rfl, _⟩
  · exact ⟨_, _, _, rfl⟩
  · exact ⟨_, _, _, rfl⟩
theorem own_boxRow (base Bo : Nat) : Own (fun (pre : List Lv) W => ∃ v, Boxed W Bo 23 v ∧ W.ownsRow base 26 2 v (planL pre).length (idc (planL pre))) := by
  intro s A A2 row hs hg hr
  obtain ⟨v, h1, h2, _⟩ := holdsRow_own base Bo 23 26 2 (fun (pre : List Lv) => (planL pre).length) (fun pre => idc (planL pre)) (fun _ _ => True) s A A2 row (by obtain ⟨v, h1, h2⟩ := hs; exact ⟨v, h1, h2, trivial⟩) hg hr
  exact ⟨v, h1, h2⟩

def planF (n : Int) : List (Int × Int) := if 0 ≤ n ∧ n ≤ 64 then planL (lvs n (ln n)) else []

set_option maxRecDepth 100000 in
set_option maxHeartbeats 2000000 in
theorem plan_in (n : Int) (h0 : 0 ≤ n) (h1 : n ≤ 64) (w : World) : CallsIn Fence.wide 3 Try.prog 15 #[.int .i64 n] w fun e w' => ∃ v, e = .returned v ∧ w'.ownsRow w.heap.size 26 2 v (planL (lvs n (ln n))).length (idc (planL (lvs n (ln n)))) ∧ Below w.heap.size w w' := by
  obtain ⟨i0, hi, hz0, hz1, hz2⟩ := info_parts info26
  have hin : inB n = true := by simp [inB, h0, h1]
  have HPO := Lib.hid (fun W => in_c n true hin W)
  have HL := Lib.hid (levels_c n)
  clear hin
  refine callsIn_of_wp_marks Try.func15 rfl trivial ?_ rfl
  simp only [Try.ntmps15, List.size_toArray, List.length_cons, List.length_nil, Nat.reduceAdd, Nat.reduceSub, Array.replicate_succ, Array.replicate_zero, List.push_toArray, List.append_toArray, List.nil_append, List.cons_append]
  gi_wp2_with (first | (refine ⟨trivial, ?_⟩; gi_at_call 56; refine (callsIn_wide.2 (HPO.out _)).mono ?_; rintro e w' ⟨rfl, rfl⟩) | (refine ⟨trivial, ?_⟩; gi_at_call 57; refine (callsIn_wide.2 (HL.out _)).mono ?_; rintro e w' ⟨rfl, rfl⟩))
  have bO := Boxed.new w 23 (.slice none 0 0)
  have bN := Boxed.new (w.alloc (.cells #[.slice none 0 0] 23)) 3 (.int .i64 n)
  rw [World.size_alloc] at bN
  have hB0 : Below w.heap.size w ((w.alloc (.cells #[.slice none 0 0] 23)).alloc (.cells #[.int .i64 n] 3)) := ((Below.refl _ w).alloc (Nat.le_refl _) _).alloc (by simp) _
  have bO2 := bO.alloc (.cells #[.int .i64 n] 3)
  have hsz : ((w.alloc (.cells #[.slice none 0 0] 23)).alloc (.cells #[.int .i64 n] 3)).heap.size = w.heap.size + 2 := by simp
  obtain ⟨W0, hW0⟩ : ∃ W0, (w.alloc (.cells #[.slice none 0 0] 23)).alloc (.cells #[.int .i64 n] 3) = W0 := ⟨_, rfl⟩
  rw [hW0] at hB0 bO2 hsz bN ⊢
  clear hW0 bO
  refine range_cell (α := Lv) (encs := enc2) (N := 4) (Bn := w.heap.size + 1) (Kp := Keep1 (w.heap.size + 1)) rfl (Nat.le_add_left 1 2) (gf := 94) (lb := #[.pointer (some ⟨w.heap.size + 1, 0, none⟩)]) rfl trivial (enters_of Try.func94 (by kernel_rfl) rfl)
    (levels1 Fence.wide 2 trivial rfl (by omega) (w.heap.size + 1) n h0 h1 W0 (by rw [hsz]; omega) bN) keep1_t
    (fun V l o o2 hl h hc => keep1_b (Bn := w.heap.size + 1) (B0 := w.heap.size + 2) (by omega) V l o o2 (by rw [hsz] at hl; exact hl) h hc) (Below.refl _ _) (fun _ => rfl)
    (fun (pre : List Lv) W => (∃ v, Boxed W w.heap.size 23 v ∧ W.ownsRow w.heap.size 26 2 v (planL pre).length (idc (planL pre))) ∧ Below w.heap.size w W ∧ ∃ u, Boxed W (w.heap.size + 1) 3 u)
    (fun _ _ _ => False)
    (OwnFrom.and (Own.from (own_boxRow _ _) _) (OwnFrom.and (ownFrom_below (Nat.le_refl _) (by rw [hsz]; omega)) (Own.from (fun s A A2 row hs hg hr => by obtain ⟨u, hu⟩ := hs; exact ⟨u, own_boxed _ _ _ [] A A2 row hu hg hr⟩) _)))
    (fun _ _ _ _ _ hs _ _ => hs)
    (fun s A v hs => by
      obtain ⟨⟨u, b1, r1⟩, hB, z, hz⟩ := hs
      exact ⟨⟨u, b1.other (by omega) v, r1.kept (grownBy_setCell' A (w.heap.size + 1) v) (.inr (hz.not_row (by decide) r1).symm)⟩, hB.setCell (p := ⟨w.heap.size + 1, 0, none⟩) (by show w.heap.size ≤ w.heap.size + 1; omega) v, v, hz.set v⟩)
    ⟨⟨_, bO2, World.ownsRow_nil _ _ _ _⟩, hB0, _, bN⟩
    (fun x => { tmps := #[.int .i64 n, undef, .slice none 0 0, .pointer (some ⟨w.heap.size, 0, none⟩), .int .i64 x.1.1, .int .i64 x.1.2, undef, undef, .int .i64 n, .bool true, .bool false, .int .i64 n, .func (.func 94) #[] #[.pointer (some ⟨w.heap.size + 1, 0, none⟩)], .int .i64 x.1.1, .int .i64 x.1.2, undef, undef, undef, undef, undef, undef, undef, undef, undef, undef, undef, undef, undef, undef, undef, undef], defers := [] }) ?assign ?body ?done ?stop
  case assign =>
    intro l x W K hK
    gi_wp2
    exact hK
  case body =>
    rintro l pre x W ⟨⟨vo, bo, hro⟩, hB, z, hz⟩ hlen
    have hx := x.2
    have hpl := planL_len pre
    have hnt := nt_le x
    gi_wp2
    gi_loopw [6, 7] (fun v i wr => ∃ k : Nat, k ≤ nt x.1.2 ∧ i = .int .i64 k ∧ wr.ownsRow W.heap.size 26 2 v k (idc (rowK x.1.1 k)) ∧ Below W.heap.size W wr ∧ KeepsFrom (w.heap.size + 2) W wr) (fun _ i _ => 16 - (intOf i).toNat)
    case atStart => exact ⟨0, Nat.zero_le _, rfl, World.ownsRow_nil _ _ _ _, Below.refl _ _, KeepsFrom.refl _ _⟩
    case round =>
      obtain ⟨k, hk, rfl, hrow, hbW, hkW⟩ := hrel
      have bo2 : Boxed wr w.heap.size 23 vo := (hbW.block _ bo.lt).trans bo
      have hwW := hbW.size
      have hww := hB.size
      by_cases hlt : (k : Int) * 4 < x.1.2
      · have hkn : k < nt x.1.2 := by unfold nt; omega
        gi_wp2_with (gi_at_builtin; refine wpListIn_append_own _ rfl (.tmp 21) (.tmp 25) 23 rfl W.heap.size 26 i0 (.agg #[.int .i64 0, .int .i64 0]) 2 16 Try.underlying23 hi hz0 hz1 hz2 rfl (by decide) _ _ _ rfl (hrow.alloc _) ⟨wr.heap.size, 0, none⟩ 1 1 [.int .i64 x.1.1, .int .i64 k] rfl rfl (two_new _ _ _ _) (by simp [Value.oneCell']) (by simp only [maxLen]; omega) (by omega) (by simp; omega) ?_; intro v2 w1 hown2 hgrow _)
        go_roundw
        case rel =>
          obtain ⟨r1, r2⟩ := row_more hrow hbW hkW hgrow
          exact ⟨k + 1, by omega, by go_num, by rw [rowK_succ, idc_app]; simpa [idc] using hown2, r1, r2⟩
        case measure => simp [intOf]; omega
      · have hkn : k = nt x.1.2 := by unfold nt at *; omega
        have hco := bo2.cell
        have hro2 := own_below hro rfl hbW
        gi_wp2_with (gi_at_builtin; refine append_two _ rfl (.tmp 27) (.tmp 28) 23 rfl W.heap.size 26 i0 (.agg #[.int .i64 0, .int .i64 0]) 2 16 Try.underlying23 hi hz0 hz1 hz2 rfl (by decide) _ _ _ rfl hrow _ _ _ _ rfl hro2 (idc_one _) (by simp only [maxLen]; omega) (by omega) hwW ?_; intro v2 w1 hown2 hgrow; obtain ⟨A2, m2, q2, rfl⟩ := own_slice hown2; obtain ⟨c1, c2, c3, c4, c5, c6⟩ := box_more (B0 := w.heap.size + 2) hww (Nat.le_refl _) bo hrow hbW hkW hown2 hgrow; have hcn := c1.cell; have hfn := c1.frozen)
        refine ⟨c4, fun u hu => ?_, ⟨⟨_, c2, ?_⟩, hB.trans c5, z, ?_⟩⟩
        · exact Boxed.other ((c6.block _ hu.lt).trans hu) (by omega) _
        · rw [planL_snoc, idc_app, List.length_append, rowL, rowK_len, ← hkn]; exact c3
        · exact Boxed.other ((c6.block _ hz.lt).trans hz) (by omega) _
  case done =>
    rintro D xs W hD rfl ⟨⟨v, hv, hrow⟩, hB, _⟩ hK
    have hc := hv.cell
    gi_wp2
    refine ⟨by simp, .inl ⟨_, _, rfl, run_takeDeferred hK, ?_⟩⟩
    exact ⟨_, results_tmp rfl _ _ _, v, rfl, ownsRow_putObj hrow _ hK rfl, hB.trans (belowK_b (w := w) (Nat.le_refl _) W D _ _ (by rw [hsz] at hD; omega) hK rfl rfl)⟩
  case stop =>
    rintro D c pre W _ _ h _
    exact h.elim

theorem plan_c (n : Int) (w : World) : Calls Try.prog 15 #[.int .i64 n] w fun e w' => ∃ v, e = .returned v ∧ w'.ownsRow w.heap.size 26 2 v (planF n).length (idc (planF n)) ∧ Below w.heap.size w w' := by
  by_cases h : 0 ≤ n ∧ n ≤ 64
  · rw [planF, if_pos h]; exact callsIn_wide.1 (plan_in n h.1 h.2 w)
  · have HV := Lib.hid (show planF n = [] from if_neg h)
    have HPO := Lib.hid (fun W => in_c n false (by simp [inB]; omega) W)
    clear h
    go_enter Try.func15, Try.ntmps15
    go_wp2_with (go_at_call 56; refine (HPO.out _).mono ?_; rintro e w' ⟨rfl, rfl⟩)
    go_ret
    exact ⟨_, rfl, by rw [HV.out]; exact World.ownsRow_nil _ _ _ _, (Below.refl _ w).alloc (Nat.le_refl _) _⟩
end Go.Proofs.Ytolapikiflodfaa.Til
