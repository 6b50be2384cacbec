/- Here is proved: what the reference's Do of layer 18 does where a vote is kept. Conditions: none. -/
import Derived.Test.YtpflopenjbealaaPlay2
import Derived.Deep.RegionLaw
namespace Go.Proofs.Ytpflopenjbealaa.Play
open Go Go.Proofs Go.RowKit Go.Proofs.Ytpflopenjbealaa.PPropPlays Go.Proofs.YtpflopenjbealaaW.PrintWords

theorem own_ne_ref {W : World} {g : Nat} {n b : Int} {own : ByteArray} {vP vT : Value} {base k : Nat} {v : Value} {xs : List Value} (hb : RefAt W g n b own vP vT) (ho : W.ownsRow base 42 5 v k xs) : some g ≠ v.ownBlock := fun e => by
  obtain ⟨cells, hc⟩ := own_typed ho g e.symm
  unfold RefAt at hb
  rw [hb] at hc
  simp at hc
theorem drew_grown {W w1 : World} {o : Obj} {row : Option Nat} (h : (W.alloc o).drew.grownBy w1 row) : (W.alloc o).grownBy w1 row := ⟨h.os, h.tape, h.output, h.size, h.block⟩
theorem ref_added {base g : Nat} {n b : Int} {own : ByteArray} {vP vT : Value} {W5 w1 : World} {bx : Obj} {gg cap l : Nat} {xs ys : List Value} {vx vy : Value} {ly : Nat} {i : Nat}
    (hblk : RefAt W5 g n b own vP vT) (hg : base ≤ g) (hx : W5.ownsRow base 42 5 vx l xs) (hy : W5.ownsRow base 42 5 vy ly ys) (hap : ∀ k, vy.ownBlock = some k → vx.ownBlock ≠ some k) (hbase : base ≤ W5.heap.size)
    {ns : List Value} (hown : w1.ownsRow base 42 5 (.slice (some ⟨gg, 0, none⟩) (l + 1) cap) (l + 1) ns) (hgrow : (W5.alloc bx).drew.grownBy w1 vx.ownBlock) (hat : vx.ownBlock = some gg ∨ gg = W5.heap.size + 1) :
    RefAt w1 g n b own vP vT ∧ (w1.setCell ⟨g, i, none⟩ (.slice (some ⟨gg, 0, none⟩) (l + 1) cap)).ownsRow base 42 5 (.slice (some ⟨gg, 0, none⟩) (l + 1) cap) (l + 1) ns ∧
    (w1.setCell ⟨g, i, none⟩ (.slice (some ⟨gg, 0, none⟩) (l + 1) cap)).ownsRow base 42 5 vy ly ys ∧ (∀ k, vy.ownBlock = some k → gg ≠ k) ∧ Below base W5 (w1.setCell ⟨g, i, none⟩ (.slice (some ⟨gg, 0, none⟩) (l + 1) cap)) ∧
    (∀ (k t : Nat) (cs : Array Value), some k ≠ vx.ownBlock → k ≠ g → W5.heap[k]? = some (Obj.cells cs t (0, 0)) → (w1.setCell ⟨g, i, none⟩ (.slice (some ⟨gg, 0, none⟩) (l + 1) cap)).heap[k]? = some (Obj.cells cs t (0, 0))) := by
  have hgr := drew_grown hgrow
  have h1 : RefAt w1 g n b own vP vT := by
    have hlt := blk_lt hblk
    exact (hgr.block g (by simp; omega) (own_ne_ref hblk hx)).trans (alloc_heap bx hblk)
  refine ⟨h1, ?_, ?_, ?_, ?_, ?_⟩
  · refine own_move hown (fun k hk => Below.heap_setCell _ _ _ k ?_)
    rintro rfl
    exact own_ne_ref h1 hown hk.symm
  · have hy1 : w1.ownsRow base 42 5 vy ly ys := (hy.alloc bx).kept hgr (by
      rcases hv : vy.ownBlock with _ | k
      · exact .inl rfl
      · exact .inr (fun e => hap k hv (by rw [← e])))
    refine own_move hy1 (fun k hk => Below.heap_setCell _ _ _ k ?_)
    rintro rfl
    exact own_ne_ref h1 hy1 hk.symm
  · intro k hk e
    subst e
    rcases hat with h | h
    · exact hap _ hk h
    · have := (hy.lt _ hk).2; omega
  · exact (((Below.refl base W5).alloc hbase bx).grown hgr (by simp; omega) (fun k hk => (hx.lt k hk).1)).setCell (p := ⟨g, i, none⟩) hg _
  · intro k t cs h2 h3 hk
    have hlt := (Array.getElem?_eq_some_iff.1 hk).1
    exact (Below.heap_setCell _ _ _ k h3).trans ((hgr.block k (by simp; omega) h2).trans (alloc_heap bx hk))
theorem ref_addT {base g : Nat} {n b : Int} {own : ByteArray} {A3 : Option Addr} {q3 : Nat} {A4 : Option Addr} {q4 : Nat} {P T : List S42} {W5 w1 : World} {bx : Obj} {gg cap : Nat} (o : S42)
    (F : Ref base W5 g n b own A3 q3 A4 q4 P T) (hbase : base ≤ W5.heap.size) (hown : w1.ownsRow base 42 5 (.slice (some ⟨gg, 0, none⟩) (T.length + 1) cap) (T.length + 1) (opcs T ++ opc o))
    (hgrow : (W5.alloc bx).drew.grownBy w1 (Value.slice A4 T.length q4).ownBlock) (hat : (Value.slice A4 T.length q4).ownBlock = some gg ∨ gg = W5.heap.size + 1) :
    Ref base (w1.setCell ⟨g, 4, none⟩ (.slice (some ⟨gg, 0, none⟩) (T.length + 1) cap)) g n b own A3 q3 (some ⟨gg, 0, none⟩) cap P (T ++ [o]) := by
  obtain ⟨h1, h2, h3, h4, _, _⟩ := ref_added (i := 4) F.blk F.ge F.rowT F.rowP (fun k h => F.apart k h) hbase hown hgrow hat
  refine ⟨?_, F.ge, h3, ?_, fun k hk e => h4 k hk (by simpa [Value.ownBlock] using e)⟩
  · rw [List.length_append]; exact blk_put h1 4 _ rfl
  · rw [opcs_snoc, List.length_append]; exact h2
theorem ref_addP {base g : Nat} {n b : Int} {own : ByteArray} {A3 : Option Addr} {q3 : Nat} {A4 : Option Addr} {q4 : Nat} {P T : List S42} {W5 w1 : World} {bx : Obj} {gg cap : Nat} (o : S42)
    (F : Ref base W5 g n b own A3 q3 A4 q4 P T) (hbase : base ≤ W5.heap.size) (hown : w1.ownsRow base 42 5 (.slice (some ⟨gg, 0, none⟩) (P.length + 1) cap) (P.length + 1) (opcs P ++ opc o))
    (hgrow : (W5.alloc bx).drew.grownBy w1 (Value.slice A3 P.length q3).ownBlock) (hat : (Value.slice A3 P.length q3).ownBlock = some gg ∨ gg = W5.heap.size + 1) :
    Ref base (w1.setCell ⟨g, 3, none⟩ (.slice (some ⟨gg, 0, none⟩) (P.length + 1) cap)) g n b own (some ⟨gg, 0, none⟩) cap A4 q4 (P ++ [o]) T := by
  obtain ⟨h1, h2, h3, h4, _, _⟩ := ref_added (i := 3) F.blk F.ge F.rowP F.rowT (fun k h e => F.apart k e h) hbase hown hgrow hat
  refine ⟨?_, F.ge, ?_, h3, fun k hk e => h4 k e (by simpa [Value.ownBlock] using hk)⟩
  · rw [List.length_append]; exact blk_put h1 3 _ rfl
  · rw [opcs_snoc, List.length_append]; exact h2
theorem ref_drawn {base g : Nat} {n b : Int} {own : ByteArray} {A3 : Option Addr} {q3 : Nat} {A4 : Option Addr} {q4 : Nat} {P T : List S42} {w : World} (h : Ref base w g n b own A3 q3 A4 q4 P T) (m : Nat) : Ref base (w.drewN m) g n b own A3 q3 A4 q4 P T := ⟨h.blk, h.ge, h.rowP, h.rowT, h.apart⟩
theorem below_drawn {B : Nat} {a b : World} (h : Below B a b) (n : Nat) : Below B a (b.drewN n) := ⟨h.os, h.tape, h.output, h.size, h.block⟩
set_option maxRecDepth 100000 in
set_option maxHeartbeats 4000000 in
theorem do_a0 (base g : Nat) (n b : Int) (own : ByteArray) (A3 : Option Addr) (q3 : Nat) (A4 : Option Addr) (q4 : Nat) (P T : List S42) (of1 of3 : Int) (of4 : ByteArray) (w : World) (hR : Ref base w g n b own A3 q3 A4 q4 P T)
    (hbase : base ≤ w.heap.size) (hP : P.length ≤ 900) (hT : T.length ≤ 900) (d2 : 0 ≤ of1) (d3 : of1 < n) (h1 : phaseOf n P.length T.length = 2) (h2 : hadIn T of1 = false) :
    Calls Try.prog 27 #[.pointer (some ⟨g, 0, none⟩), opv ⟨true, of1, b, of3, of4⟩] w (DoPost base g n b own w ((phaseOf n P.length (T.length + 1) != 2, P, T ++ [⟨true, of1, b, of3, of4⟩]))) := by
  have hph := fun (W : World) (h : RefAt W g n b own (.slice A3 P.length q3) (.slice A4 T.length q4)) => phase_c g n b own A3 A4 P.length T.length q3 q4 (by omega) (by omega) W h
  have hbk : RefAt (w.alloc (.cells #[.bool true, .int .i64 of1, .int .i64 b, .int .i64 of3, .string of4] 42)) g n b own (.slice A3 P.length q3) (.slice A4 T.length q4) := alloc_heap _ hR.blk
  have HPH := Lib.hid hph
  have HK := Lib.hid hbk
  have HR := Lib.hid hR
  have k0 := hbk.c0
  have k1 := hbk.c1
  have k2 := hbk.c2
  have k3 := hbk.c3
  have k4 := hbk.c4
  clear hph hbk hR
  obtain ⟨ph, HP1⟩ : ∃ ph, Hid (phaseOf n P.length T.length = ph) := ⟨_, Lib.hid rfl⟩
  rw [HP1.out] at HPH
  have d2' : decide (of1 < 0) = false := decide_eq_false (by omega)
  have d3' : decide (n ≤ of1) = false := decide_eq_false (by omega)
  have hhad : ∀ a x, Calls Try.prog 33 #[.slice A4 T.length q4, .int .i64 of1] ((w.alloc (.cells #[.bool true, .int .i64 of1, .int .i64 b, .int .i64 of3, .string of4] 42)).drewN (a + x)) fun e w2 => e = .returned (.bool false) ∧ ∃ m, w2 = (w.alloc (.cells #[.bool true, .int .i64 of1, .int .i64 b, .int .i64 of3, .string of4] 42)).drewN (a + m) := fun a x =>
    let hr := reads_of_own (w := (w.alloc (.cells #[.bool true, .int .i64 of1, .int .i64 b, .int .i64 of3, .string of4] 42)).drewN (a + x)) (HR.out.rowT.alloc _) (by omega)
    (had_c A4 q4 T of1 (by omega) _ hr.1 hr.2 false h2).mono fun _ _ ⟨he, m, hm⟩ => ⟨he, x + m, by rw [hm, World.drewN_drewN, Nat.add_assoc]⟩
  have HHAD := Lib.hid hhad
  have HP2 := Lib.hid (HP1.out.symm.trans h1)
  clear hhad h1 h2
  obtain rfl : ph = 2 := HP2.out
  go_enter Try.func27, Try.ntmps27
  go_wp2_with fail
  refine (HPH.out _ HK.out).mono ?_
  rintro e w2 ⟨rfl, m, rfl⟩
  go_wp2_with fail
  go_quiet (fail)
  go_wp2_with fail
  go_quiet (fail)
  go_wp2_with fail
  go_quiet ((go_at_call 33; exact HHAD.out _ _))
  go_wp2_with fail
  simp only [World.drewN_drewN]
  refine wp_named (U := w.alloc (.cells #[.bool true, .int .i64 of1, .int .i64 b, .int .i64 of3, .string of4] 42)) ?_ _
  rintro W5 ⟨M, hM⟩
  have F1 := Lib.hid (show Ref base W5 g n b own A3 q3 A4 q4 P T by rw [hM]; exact ref_quiet HR.out _ _)
  have F2 := Lib.hid (show W5.heap[w.heap.size]? = some (.cells #[.bool true, .int .i64 of1, .int .i64 b, .int .i64 of3, .string of4] 42 (0, 0)) by rw [hM]; exact heap_alloc_new w _)
  have F3 : W5.heap.size = w.heap.size + 1 := by rw [hM]; show (w.alloc _).heap.size = _; simp
  have F4 := Lib.hid (show Below base w W5 by rw [hM]; exact (let hb := (Below.refl base w).alloc hbase (.cells #[.bool true, .int .i64 of1, .int .i64 b, .int .i64 of3, .string of4] 42); ⟨hb.os, hb.tape, hb.output, hb.size, hb.block⟩))
  have F5 := Lib.hid (show ∀ (k t : Nat) (cs : Array Value), w.heap[k]? = some (Obj.cells cs t (0, 0)) → W5.heap[k]? = some (Obj.cells cs t (0, 0)) by rw [hM]; exact fun _ _ _ hk => alloc_heap _ hk)
  have F6 := Lib.hid F3
  clear hM k0 k1 k2 k3 k4
  have e0 := F1.out.blk.c0
  have e1 := F1.out.blk.c1
  have e3 := F1.out.blk.c3
  have e4 := F1.out.blk.c4
  have b0 := (blk_cell F2.out 0).trans rfl
  have b1 := (blk_cell F2.out 1).trans rfl
  have b2 := (blk_cell F2.out 2).trans rfl
  have b3 := (blk_cell F2.out 3).trans rfl
  have b4 := (blk_cell F2.out 4).trans rfl
  have f3 := blk_frozen F1.out.blk 3
  have f4 := blk_frozen F1.out.blk 4
  have lg := blk_lt F1.out.blk
  have lb := blk_lt F2.out
  have hbw : base ≤ W5.heap.size := Nat.le_trans hbase (by omega)
  have ng : some g ≠ (Value.slice A4 T.length q4).ownBlock := fun e => by
    obtain ⟨cells, hc⟩ := own_typed F1.out.rowT g e.symm
    have := F1.out.blk
    unfold RefAt at this
    rw [this] at hc
    simp at hc
  have nb : some w.heap.size ≠ (Value.slice A4 T.length q4).ownBlock := fun e => by
    have := (HR.out.rowT.lt _ e.symm).2
    omega
  have HT := F1.out.rowT
  obtain ⟨i0, hi, hz0, hz1, hz2⟩ := info_parts info42
  have HL := Lib.hid (show T.length + 1 ≤ maxLen by unfold maxLen; omega)
  have HL2 := Lib.hid (show (T.length + 1) * 48 ≤ 140737488355328 by omega)
  have fz1 : (W5.alloc (.cells #[.bool true, .int .i64 of1, .int .i64 b, .int .i64 of3, .string of4] 42)).drew.frozen? ⟨g, 4, none⟩ = false := blk_frozen (show (W5.alloc _).heap[g]? = _ from alloc_heap _ F1.out.blk) 4
  have pc1 : (W5.alloc (.cells #[.bool true, .int .i64 of1, .int .i64 b, .int .i64 of3, .string of4] 42)).drew.cell? ⟨g, 4, none⟩ = some (.slice A4 T.length q4) := (blk_cell (show (W5.alloc _).heap[g]? = _ from alloc_heap _ F1.out.blk) 4).trans rfl
  have FZ := Lib.hid fz1
  have PC := Lib.hid pc1
  clear F3 fz1 pc1
  go_region_law
    ((refine step_append_lies _ (by rfl) _ _ _ (by rfl) base 42 i0 _ 5 48 Try.underlying37 hi hz0 hz1 hz2 rfl (by omega) (.slice A4 T.length q4) T.length (opcs T) (by rfl) ((HT.alloc _).drew)
        ⟨W5.heap.size, 0, none⟩ 1 1 [.bool true, .int .i64 of1, .int .i64 b, .int .i64 of3, .string of4] (by rfl) (by rfl) (World.news_of_block (cs := #[.bool true, .int .i64 of1, .int .i64 b, .int .i64 of3, .string of4]) (t := 42) (fr := (0, 0)) (heap_alloc_new W5 _)) (by simp [Value.oneCell'])
        (by omega) HL.out HL2.out (by simp; omega) (W5.heap.size + 1) (by simp) ?_; intro gg cap w1 hown1 hgrow hat hlt; have s1 := (hgrow.cell_far ⟨g, 4, none⟩ (by simp; omega) ng).trans PC.out; have s2 := (hgrow.frozen_far ⟨g, 4, none⟩ (by simp; omega) ng).trans FZ.out))
  all_goals
    have R6 := ref_addT ⟨true, of1, b, of3, of4⟩ F1.out hbw hown1 hgrow hat
    obtain ⟨_, _, _, _, B6, G6⟩ := ref_added (i := 4) F1.out.blk F1.out.ge F1.out.rowT F1.out.rowP (fun k h => F1.out.apart k h) hbw hown1 hgrow hat
    have HR6 := Lib.hid R6
    have HB6 := Lib.hid (F4.out.trans B6)
    have HG6 := Lib.hid G6
    have HPL := Lib.hid (phase_c g n b own A3 (some ⟨gg, 0, none⟩) P.length (T ++ [(⟨true, of1, b, of3, of4⟩ : S42)]).length q3 cap (by omega) (by simp; omega) _ R6.blk)
    clear R6 B6 G6 hown1 hgrow hat s1 s2
    generalize w1.setCell ⟨g, 4, none⟩ (.slice (some ⟨gg, 0, none⟩) (T.length + 1) cap) = W6 at HR6 HB6 HG6 HPL ⊢
    go_wp2_with fail
    refine HPL.out.mono ?_
    rintro e w2 ⟨rfl, m2, rfl⟩
    go_wp2_with fail
    go_ret
    refine ⟨by simp, ⟨_, _, _, _, ref_drawn HR6.out _⟩, below_drawn HB6.out _, fun k t cs ht1 ht2 hk => HG6.out k t cs ?_ ?_ (F5.out k t cs hk)⟩
    · intro e
      obtain ⟨cells, hc⟩ := own_typed F1.out.rowT k e.symm
      rw [F5.out k t cs hk] at hc
      simp at hc
      exact ht1 hc.2
    · rintro rfl
      have h7 := F1.out.blk
      unfold RefAt at h7
      rw [F5.out _ t cs hk] at h7
      simp at h7
      exact ht2 h7.2
set_option maxRecDepth 100000 in
set_option maxHeartbeats 4000000 in
theorem do_p0 (base g : Nat) (n b : Int) (own : ByteArray) (A3 : Option Addr) (q3 : Nat) (A4 : Option Addr) (q4 : Nat) (P T : List S42) (of1 of3 : Int) (of4 : ByteArray) (w : World) (hR : Ref base w g n b own A3 q3 A4 q4 P T)
    (hbase : base ≤ w.heap.size) (hP : P.length ≤ 900) (hT : T.length ≤ 900) (d2 : 0 ≤ of1) (d3 : of1 < n) (h1 : phaseOf n P.length T.length = 1) (h2 : hadIn P of1 = false) :
    Calls Try.prog 27 #[.pointer (some ⟨g, 0, none⟩), opv ⟨false, of1, b, of3, of4⟩] w (DoPost base g n b own w ((phaseOf n (P.length + 1) T.length != 1, P ++ [⟨false, of1, b, of3, of4⟩], T))) := by
  have hph := fun (W : World) (h : RefAt W g n b own (.slice A3 P.length q3) (.slice A4 T.length q4)) => phase_c g n b own A3 A4 P.length T.length q3 q4 (by omega) (by omega) W h
  have hbk : RefAt (w.alloc (.cells #[.bool false, .int .i64 of1, .int .i64 b, .int .i64 of3, .string of4] 42)) g n b own (.slice A3 P.length q3) (.slice A4 T.length q4) := alloc_heap _ hR.blk
  have HPH := Lib.hid hph
  have HK := Lib.hid hbk
  have HR := Lib.hid hR
  have k0 := hbk.c0
  have k1 := hbk.c1
  have k2 := hbk.c2
  have k3 := hbk.c3
  have k4 := hbk.c4
  clear hph hbk hR
  obtain ⟨ph, HP1⟩ : ∃ ph, Hid (phaseOf n P.length T.length = ph) := ⟨_, Lib.hid rfl⟩
  rw [HP1.out] at HPH
  have d2' : decide (of1 < 0) = false := decide_eq_false (by omega)
  have d3' : decide (n ≤ of1) = false := decide_eq_false (by omega)
  have hhad : ∀ a x, Calls Try.prog 33 #[.slice A3 P.length q3, .int .i64 of1] ((w.alloc (.cells #[.bool false, .int .i64 of1, .int .i64 b, .int .i64 of3, .string of4] 42)).drewN (a + x)) fun e w2 => e = .returned (.bool false) ∧ ∃ m, w2 = (w.alloc (.cells #[.bool false, .int .i64 of1, .int .i64 b, .int .i64 of3, .string of4] 42)).drewN (a + m) := fun a x =>
    let hr := reads_of_own (w := (w.alloc (.cells #[.bool false, .int .i64 of1, .int .i64 b, .int .i64 of3, .string of4] 42)).drewN (a + x)) (HR.out.rowP.alloc _) (by omega)
    (had_c A3 q3 P of1 (by omega) _ hr.1 hr.2 false h2).mono fun _ _ ⟨he, m, hm⟩ => ⟨he, x + m, by rw [hm, World.drewN_drewN, Nat.add_assoc]⟩
  have HHAD := Lib.hid hhad
  have HP2 := Lib.hid (HP1.out.symm.trans h1)
  clear hhad h1 h2
  obtain rfl : ph = 1 := HP2.out
  go_enter Try.func27, Try.ntmps27
  go_wp2_with fail
  refine (HPH.out _ HK.out).mono ?_
  rintro e w2 ⟨rfl, m, rfl⟩
  go_wp2_with fail
  go_quiet (fail)
  go_wp2_with fail
  go_quiet ((go_at_call 33; exact HHAD.out _ _))
  go_wp2_with fail
  simp only [World.drewN_drewN]
  refine wp_named (U := w.alloc (.cells #[.bool false, .int .i64 of1, .int .i64 b, .int .i64 of3, .string of4] 42)) ?_ _
  rintro W5 ⟨M, hM⟩
  have F1 := Lib.hid (show Ref base W5 g n b own A3 q3 A4 q4 P T by rw [hM]; exact ref_quiet HR.out _ _)
  have F2 := Lib.hid (show W5.heap[w.heap.size]? = some (.cells #[.bool false, .int .i64 of1, .int .i64 b, .int .i64 of3, .string of4] 42 (0, 0)) by rw [hM]; exact heap_alloc_new w _)
  have F3 : W5.heap.size = w.heap.size + 1 := by rw [hM]; show (w.alloc _).heap.size = _; simp
  have F4 := Lib.hid (show Below base w W5 by rw [hM]; exact (let hb := (Below.refl base w).alloc hbase (.cells #[.bool false, .int .i64 of1, .int .i64 b, .int .i64 of3, .string of4] 42); ⟨hb.os, hb.tape, hb.output, hb.size, hb.block⟩))
  have F5 := Lib.hid (show ∀ (k t : Nat) (cs : Array Value), w.heap[k]? = some (Obj.cells cs t (0, 0)) → W5.heap[k]? = some (Obj.cells cs t (0, 0)) by rw [hM]; exact fun _ _ _ hk => alloc_heap _ hk)
  have F6 := Lib.hid F3
  clear hM k0 k1 k2 k3 k4
  have e0 := F1.out.blk.c0
  have e1 := F1.out.blk.c1
  have e3 := F1.out.blk.c3
  have e4 := F1.out.blk.c4
  have b0 := (blk_cell F2.out 0).trans rfl
  have b1 := (blk_cell F2.out 1).trans rfl
  have b2 := (blk_cell F2.out 2).trans rfl
  have b3 := (blk_cell F2.out 3).trans rfl
  have b4 := (blk_cell F2.out 4).trans rfl
  have f3 := blk_frozen F1.out.blk 3
  have f4 := blk_frozen F1.out.blk 4
  have lg := blk_lt F1.out.blk
  have lb := blk_lt F2.out
  have hbw : base ≤ W5.heap.size := Nat.le_trans hbase (by omega)
  have ng : some g ≠ (Value.slice A3 P.length q3).ownBlock := fun e => by
    obtain ⟨cells, hc⟩ := own_typed F1.out.rowP g e.symm
    have := F1.out.blk
    unfold RefAt at this
    rw [this] at hc
    simp at hc
  have nb : some w.heap.size ≠ (Value.slice A3 P.length q3).ownBlock := fun e => by
    have := (HR.out.rowP.lt _ e.symm).2
    omega
  have HT := F1.out.rowP
  obtain ⟨i0, hi, hz0, hz1, hz2⟩ := info_parts info42
  have HL := Lib.hid (show P.length + 1 ≤ maxLen by unfold maxLen; omega)
  have HL2 := Lib.hid (show (P.length + 1) * 48 ≤ 140737488355328 by omega)
  have fz1 : (W5.alloc (.cells #[.bool false, .int .i64 of1, .int .i64 b, .int .i64 of3, .string of4] 42)).drew.frozen? ⟨g, 3, none⟩ = false := blk_frozen (show (W5.alloc _).heap[g]? = _ from alloc_heap _ F1.out.blk) 3
  have pc1 : (W5.alloc (.cells #[.bool false, .int .i64 of1, .int .i64 b, .int .i64 of3, .string of4] 42)).drew.cell? ⟨g, 3, none⟩ = some (.slice A3 P.length q3) := (blk_cell (show (W5.alloc _).heap[g]? = _ from alloc_heap _ F1.out.blk) 3).trans rfl
  have FZ := Lib.hid fz1
  have PC := Lib.hid pc1
  clear F3 fz1 pc1
  go_region_law
    ((refine step_append_lies _ (by rfl) _ _ _ (by rfl) base 42 i0 _ 5 48 Try.underlying37 hi hz0 hz1 hz2 rfl (by omega) (.slice A3 P.length q3) P.length (opcs P) (by rfl) ((HT.alloc _).drew)
        ⟨W5.heap.size, 0, none⟩ 1 1 [.bool false, .int .i64 of1, .int .i64 b, .int .i64 of3, .string of4] (by rfl) (by rfl) (World.news_of_block (cs := #[.bool false, .int .i64 of1, .int .i64 b, .int .i64 of3, .string of4]) (t := 42) (fr := (0, 0)) (heap_alloc_new W5 _)) (by simp [Value.oneCell'])
        (by omega) HL.out HL2.out (by simp; omega) (W5.heap.size + 1) (by simp) ?_; intro gg cap w1 hown1 hgrow hat hlt; have s1 := (hgrow.cell_far ⟨g, 3, none⟩ (by simp; omega) ng).trans PC.out; have s2 := (hgrow.frozen_far ⟨g, 3, none⟩ (by simp; omega) ng).trans FZ.out))
  all_goals
    have R6 := ref_addP ⟨false, of1, b, of3, of4⟩ F1.out hbw hown1 hgrow hat
    obtain ⟨_, _, _, _, B6, G6⟩ := ref_added (i := 3) F1.out.blk F1.out.ge F1.out.rowP F1.out.rowT (fun k h e => F1.out.apart k e h) hbw hown1 hgrow hat
    have HR6 := Lib.hid R6
    have HB6 := Lib.hid (F4.out.trans B6)
    have HG6 := Lib.hid G6
    have HPL := Lib.hid (phase_c g n b own (some ⟨gg, 0, none⟩) A4 (P ++ [(⟨false, of1, b, of3, of4⟩ : S42)]).length T.length cap q4 (by simp; omega) (by omega))
    have c60 := (blk_cell (HG6.out w.heap.size 42 _ nb (by have := blk_lt F1.out.blk; intro e; have h7 := F1.out.blk; unfold RefAt at h7; rw [← e, F2.out] at h7; simp at h7) F2.out) 0).trans rfl
    have R6b := Lib.hid R6.blk
    clear R6 B6 G6 hown1 hgrow hat s1 s2
    generalize w1.setCell ⟨g, 3, none⟩ (.slice (some ⟨gg, 0, none⟩) (P.length + 1) cap) = W6 at HR6 HB6 HG6 R6b c60 ⊢
    go_wp2_with fail
    go_quiet (fail)
    go_wp2_with fail
    refine (HPL.out _ (by exact R6b.out)).mono ?_
    rintro e w2 ⟨rfl, m2, rfl⟩
    go_wp2_with fail
    go_ret
    refine ⟨by simp, ⟨_, _, _, _, ref_drawn HR6.out _⟩, below_drawn HB6.out _, fun k t cs ht1 ht2 hk => HG6.out k t cs ?_ ?_ (F5.out k t cs hk)⟩
    · intro e
      obtain ⟨cells, hc⟩ := own_typed F1.out.rowP k e.symm
      rw [F5.out k t cs hk] at hc
      simp at hc
      exact ht1 hc.2
    · rintro rfl
      have h7 := F1.out.blk
      unfold RefAt at h7
      rw [F5.out _ t cs hk] at h7
      simp at h7
      exact ht2 h7.2
end Go.Proofs.Ytpflopenjbealaa.Play
