/- Here is proved: when collide.opened tells nil; what collide.Root tells. Conditions: none. -/
import Derived.Test.YtolapikiflodfaaQCollideLeavesx5
import Derived.Test.YtolapikiflodfaaMem
import Derived.Test.YtolapikiflodfaaShort
import Derived.Test.YtolapikiflodfaaHs
namespace Go.Proofs.Ytolapikiflodfaa.ColCollideLeaves
open Go Go.RowKit Go.Proofs.YtolapikiflodfaaW.PrintWords Go.Proofs.YtolapikiflodfaaW.PrintLast Go.Proofs.YtolapikiflodfaaW.PrintMore
open Go.Proofs.Ytolapikiflodfaa.PCollideLeaves
theorem texts_below {w w2 : World} {A : Option Addr} {l : List ByteArray} (h : Short.Texts w A l) (hb : Below w.heap.size w w2) : Short.Texts w2 A l := fun j hj =>
  let ⟨ad, e, hc⟩ := h j hj
  ⟨ad, e, (hb.cell (World.block_lt_of_cell? w _ hc)).trans hc⟩
theorem R_slice_ {α : Type} {d : Kd α} {e base : Nat} {ok : Nat → Prop} {w : World} {v : Value} {xs : List α} (h : d.R e w base ok v xs) : ∃ A c, v = .slice A xs.length c := by
  obtain ⟨inner, ho⟩ := Kd.R_own h
  obtain ⟨A, c, rfl⟩ := own_slice ho
  exact ⟨A, c, rfl⟩
set_option maxRecDepth 100000 in
set_option maxHeartbeats 4000000 in
theorem opened_sz (h9 : Hsh.Hs) (leaf : ByteArray) (i sz : Int) (A : Option Addr) (c : Nat) (l : List ByteArray) (w : World) (hm0 : l.length ≤ 140737488351232) (ht : Short.Texts w A l) (h : sz < 1) :
    Calls Try.prog 95 #[.func (.func h9.id) #[] #[], .agg #[.string leaf, .int .i64 i, .int .i64 sz, .slice A l.length c]] w fun e w' => e = .returned (.slice none 0 0) ∧ Below w.heap.size w w' := by
  have HT := Aside0.mk ht
  have hm : l.length ≤ maxLen := by unfold maxLen; omega
  have HM := Aside0.mk hm
  have d1 : decide (sz < 1) = true := decide_eq_true h
  clear ht hm hm0 h
  have OW := Aside0.mk (Mem.Own.nil w)
  go_enter Try.func95, Try.ntmps95
  go_wp2_with (first
    | ((with_reducible refine gate_dst (N := 3) rfl ?_); refine box_event ?hg (N := 3) ?hd (cs := #[.string leaf, .int .i64 i, .int .i64 sz, .slice A l.length c]) (t := 32) ?hr ?_; (case hd => rfl); (case hg => rfl); (case hr => first | (go_simp; done) | (go_simp; rfl)); intro gC hg W_ hb hbb; have T2 := Aside0.mk (texts_below HT.out hbb); clear HT; have c0 := (blk_cell hb 0).trans rfl; have c1 := (blk_cell hb 1).trans rfl; have c2 := (blk_cell hb 2).trans rfl; have c3 := (blk_cell hb 3).trans rfl; have n_ : Aside0 (Mem.Own w W_ [(gC, #[.string leaf, .int .i64 i, .int .i64 sz, .slice A l.length c], 32)]) := ⟨OW.out.new hg hb hbb⟩; clear OW hb hbb hg; have OW := n_; clear n_))
  go_ret
  exact ⟨rfl, OW.out.below⟩
set_option maxRecDepth 100000 in
set_option maxHeartbeats 4000000 in
theorem opened_big (h9 : Hsh.Hs) (leaf : ByteArray) (i sz : Int) (A : Option Addr) (c : Nat) (l : List ByteArray) (w : World) (hm0 : l.length ≤ 140737488351232) (ht : Short.Texts w A l) (h0 : ¬ sz < 1) (h : 1048576 < sz) :
    Calls Try.prog 95 #[.func (.func h9.id) #[] #[], .agg #[.string leaf, .int .i64 i, .int .i64 sz, .slice A l.length c]] w fun e w' => e = .returned (.slice none 0 0) ∧ Below w.heap.size w w' := by
  have HT := Aside0.mk ht
  have hm : l.length ≤ maxLen := by unfold maxLen; omega
  have HM := Aside0.mk hm
  have d1 : decide (sz < 1) = false := decide_eq_false h0
  have d2 : decide (1048576 < sz) = true := decide_eq_true h
  clear ht hm hm0 h0 h
  have OW := Aside0.mk (Mem.Own.nil w)
  go_enter Try.func95, Try.ntmps95
  go_wp2_with (first
    | ((with_reducible refine gate_dst (N := 3) rfl ?_); refine box_event ?hg (N := 3) ?hd (cs := #[.string leaf, .int .i64 i, .int .i64 sz, .slice A l.length c]) (t := 32) ?hr ?_; (case hd => rfl); (case hg => rfl); (case hr => first | (go_simp; done) | (go_simp; rfl)); intro gC hg W_ hb hbb; have T2 := Aside0.mk (texts_below HT.out hbb); clear HT; have c0 := (blk_cell hb 0).trans rfl; have c1 := (blk_cell hb 1).trans rfl; have c2 := (blk_cell hb 2).trans rfl; have c3 := (blk_cell hb 3).trans rfl; have n_ : Aside0 (Mem.Own w W_ [(gC, #[.string leaf, .int .i64 i, .int .i64 sz, .slice A l.length c], 32)]) := ⟨OW.out.new hg hb hbb⟩; clear OW hb hbb hg; have OW := n_; clear n_))
  go_ret
  exact ⟨rfl, OW.out.below⟩
set_option maxRecDepth 100000 in
set_option maxHeartbeats 4000000 in
theorem opened_neg (h9 : Hsh.Hs) (leaf : ByteArray) (i sz : Int) (A : Option Addr) (c : Nat) (l : List ByteArray) (w : World) (hm0 : l.length ≤ 140737488351232) (ht : Short.Texts w A l) (h0 : ¬ sz < 1) (h1 : ¬ 1048576 < sz) (h : i < 0) :
    Calls Try.prog 95 #[.func (.func h9.id) #[] #[], .agg #[.string leaf, .int .i64 i, .int .i64 sz, .slice A l.length c]] w fun e w' => e = .returned (.slice none 0 0) ∧ Below w.heap.size w w' := by
  have HT := Aside0.mk ht
  have hm : l.length ≤ maxLen := by unfold maxLen; omega
  have HM := Aside0.mk hm
  have d1 : decide (sz < 1) = false := decide_eq_false h0
  have d2 : decide (1048576 < sz) = false := decide_eq_false h1
  have d3 : decide (i < 0) = true := decide_eq_true h
  clear ht hm hm0 h0 h1 h
  have OW := Aside0.mk (Mem.Own.nil w)
  go_enter Try.func95, Try.ntmps95
  go_wp2_with (first
    | ((with_reducible refine gate_dst (N := 3) rfl ?_); refine box_event ?hg (N := 3) ?hd (cs := #[.string leaf, .int .i64 i, .int .i64 sz, .slice A l.length c]) (t := 32) ?hr ?_; (case hd => rfl); (case hg => rfl); (case hr => first | (go_simp; done) | (go_simp; rfl)); intro gC hg W_ hb hbb; have T2 := Aside0.mk (texts_below HT.out hbb); clear HT; have c0 := (blk_cell hb 0).trans rfl; have c1 := (blk_cell hb 1).trans rfl; have c2 := (blk_cell hb 2).trans rfl; have c3 := (blk_cell hb 3).trans rfl; have n_ : Aside0 (Mem.Own w W_ [(gC, #[.string leaf, .int .i64 i, .int .i64 sz, .slice A l.length c], 32)]) := ⟨OW.out.new hg hb hbb⟩; clear OW hb hbb hg; have OW := n_; clear n_))
  go_ret
  exact ⟨rfl, OW.out.below⟩
set_option maxRecDepth 100000 in
set_option maxHeartbeats 4000000 in
theorem opened_out (h9 : Hsh.Hs) (leaf : ByteArray) (i sz : Int) (A : Option Addr) (c : Nat) (l : List ByteArray) (w : World) (hm0 : l.length ≤ 140737488351232) (ht : Short.Texts w A l) (h0 : ¬ sz < 1) (h1 : ¬ 1048576 < sz) (h2 : ¬ i < 0) (h : sz ≤ i) :
    Calls Try.prog 95 #[.func (.func h9.id) #[] #[], .agg #[.string leaf, .int .i64 i, .int .i64 sz, .slice A l.length c]] w fun e w' => e = .returned (.slice none 0 0) ∧ Below w.heap.size w w' := by
  have HT := Aside0.mk ht
  have hm : l.length ≤ maxLen := by unfold maxLen; omega
  have HM := Aside0.mk hm
  have d1 : decide (sz < 1) = false := decide_eq_false h0
  have d2 : decide (1048576 < sz) = false := decide_eq_false h1
  have d3 : decide (i < 0) = false := decide_eq_false h2
  have d4 : decide (sz ≤ i) = true := decide_eq_true h
  clear ht hm hm0 h0 h1 h2 h
  have OW := Aside0.mk (Mem.Own.nil w)
  go_enter Try.func95, Try.ntmps95
  go_wp2_with (first
    | ((with_reducible refine gate_dst (N := 3) rfl ?_); refine box_event ?hg (N := 3) ?hd (cs := #[.string leaf, .int .i64 i, .int .i64 sz, .slice A l.length c]) (t := 32) ?hr ?_; (case hd => rfl); (case hg => rfl); (case hr => first | (go_simp; done) | (go_simp; rfl)); intro gC hg W_ hb hbb; have T2 := Aside0.mk (texts_below HT.out hbb); clear HT; have c0 := (blk_cell hb 0).trans rfl; have c1 := (blk_cell hb 1).trans rfl; have c2 := (blk_cell hb 2).trans rfl; have c3 := (blk_cell hb 3).trans rfl; have n_ : Aside0 (Mem.Own w W_ [(gC, #[.string leaf, .int .i64 i, .int .i64 sz, .slice A l.length c], 32)]) := ⟨OW.out.new hg hb hbb⟩; clear OW hb hbb hg; have OW := n_; clear n_))
  go_ret
  exact ⟨rfl, OW.out.below⟩
set_option maxRecDepth 100000 in
set_option maxHeartbeats 4000000 in
theorem opened_short (h9 : Hsh.Hs) (leaf : ByteArray) (i sz : Int) (A : Option Addr) (c : Nat) (l : List ByteArray) (w : World) (hm0 : l.length ≤ 140737488351232) (ht : Short.Texts w A l) (h0 : ¬ sz < 1) (h1 : ¬ 1048576 < sz) (h2 : ¬ i < 0) (h3 : ¬ sz ≤ i) (h : (!l.all fun s => s.size == 32) = true) :
    Calls Try.prog 95 #[.func (.func h9.id) #[] #[], .agg #[.string leaf, .int .i64 i, .int .i64 sz, .slice A l.length c]] w fun e w' => e = .returned (.slice none 0 0) ∧ Below w.heap.size w w' := by
  have HT := Aside0.mk ht
  have hm : l.length ≤ maxLen := by unfold maxLen; omega
  have HM := Aside0.mk hm
  have HS := Aside0.mk h
  have d1 : decide (sz < 1) = false := decide_eq_false h0
  have d2 : decide (1048576 < sz) = false := decide_eq_false h1
  have d3 : decide (i < 0) = false := decide_eq_false h2
  have d4 : decide (sz ≤ i) = false := decide_eq_false h3
  clear ht hm hm0 h0 h1 h2 h3 h
  have OW := Aside0.mk (Mem.Own.nil w)
  go_enter Try.func95, Try.ntmps95
  go_wp2_with (first
    | ((with_reducible refine gate_dst (N := 3) rfl ?_); refine box_event ?hg (N := 3) ?hd (cs := #[.string leaf, .int .i64 i, .int .i64 sz, .slice A l.length c]) (t := 32) ?hr ?_; (case hd => rfl); (case hg => rfl); (case hr => first | (go_simp; done) | (go_simp; rfl)); intro gC hg W_ hb hbb; have T2 := Aside0.mk (texts_below HT.out hbb); clear HT; have c0 := (blk_cell hb 0).trans rfl; have c1 := (blk_cell hb 1).trans rfl; have c2 := (blk_cell hb 2).trans rfl; have c3 := (blk_cell hb 3).trans rfl; have n_ : Aside0 (Mem.Own w W_ [(gC, #[.string leaf, .int .i64 i, .int .i64 sz, .slice A l.length c], 32)]) := ⟨OW.out.new hg hb hbb⟩; clear OW hb hbb hg; have OW := n_; clear n_)
    | (go_at_call 108; refine (Short.short_c A c l _ HM.out T2.out _ HS.out).mono ?_; rintro e w2 ⟨rfl, rfl⟩))
  go_ret
  exact ⟨rfl, OW.out.below⟩
set_option maxRecDepth 100000 in
set_option maxHeartbeats 4000000 in
theorem opened_path (h9 : Hsh.Hs) (leaf : ByteArray) (i sz : Int) (A : Option Addr) (c : Nat) (l : List ByteArray) (w : World) (hm0 : l.length ≤ 140737488351232) (ht : Short.Texts w A l) (h0 : ¬ sz < 1) (h1 : ¬ 1048576 < sz) (h2 : ¬ i < 0) (h3 : ¬ sz ≤ i) (h : (!l.all fun s => s.size == 32) = false) (k : Nat) (pl : List S157) (hp : collide_path.f k i sz = some pl) (hn : pl.length ≠ l.length + 1) :
    Calls Try.prog 95 #[.func (.func h9.id) #[] #[], .agg #[.string leaf, .int .i64 i, .int .i64 sz, .slice A l.length c]] w fun e w' => e = .returned (.slice none 0 0) ∧ Below w.heap.size w w' := by
  have HT := Aside0.mk ht
  have hm : l.length ≤ maxLen := by unfold maxLen; omega
  have HM := Aside0.mk hm
  have HS := Aside0.mk h
  have d1 : decide (sz < 1) = false := decide_eq_false h0
  have d2 : decide (1048576 < sz) = false := decide_eq_false h1
  have d3 : decide (i < 0) = false := decide_eq_false h2
  have d4 : decide (sz ≤ i) = false := decide_eq_false h3
  have HP := Aside0.mk hp
  have hn2 : ((pl.length : Int) == (l.length : Int) + 1) = false := beq_eq_false_iff_ne.mpr (by omega)
  have hn3 : ((pl.length : Int) != (l.length : Int) + 1) = true := bne_iff_ne.mpr (by omega)
  have hn4 : (pl.length == l.length + 1) = false := beq_eq_false_iff_ne.mpr hn
  have hn5 : (pl.length != l.length + 1) = true := bne_iff_ne.mpr hn
  have hm2 : (l.length : Int) + 1 ≤ 140737488351233 := by omega
  clear hp
  clear ht hm hm0 h0 h1 h2 h3 h
  have OW := Aside0.mk (Mem.Own.nil w)
  go_enter Try.func95, Try.ntmps95
  go_wp2_with (first
    | ((with_reducible refine gate_dst (N := 3) rfl ?_); refine box_event ?hg (N := 3) ?hd (cs := #[.string leaf, .int .i64 i, .int .i64 sz, .slice A l.length c]) (t := 32) ?hr ?_; (case hd => rfl); (case hg => rfl); (case hr => first | (go_simp; done) | (go_simp; rfl)); intro gC hg W_ hb hbb; have T2 := Aside0.mk (texts_below HT.out hbb); clear HT; have c0 := (blk_cell hb 0).trans rfl; have c1 := (blk_cell hb 1).trans rfl; have c2 := (blk_cell hb 2).trans rfl; have c3 := (blk_cell hb 3).trans rfl; have n_ : Aside0 (Mem.Own w W_ [(gC, #[.string leaf, .int .i64 i, .int .i64 sz, .slice A l.length c], 32)]) := ⟨OW.out.new hg hb hbb⟩; clear OW hb hbb hg; have OW := n_; clear n_)
    | (go_at_call 108; refine (Short.short_c A c l _ HM.out T2.out _ HS.out).mono ?_; rintro e w2 ⟨rfl, rfl⟩)
    | (go_at_call 125; refine (collide_path.calls k i sz pl _ HP.out).mono ?_; rintro e w2 ⟨v, rfl, hR, hbb⟩; obtain ⟨A2, c2_, rfl⟩ := R_slice_ hR; have n_ : Aside0 (Mem.Own w (w2) [(gC, #[.string leaf, .int .i64 i, .int .i64 sz, .slice A l.length c], 32)]) := ⟨OW.out.step hbb⟩; clear OW; have OW := n_; clear n_; have c4 := OW.out.cell 0 rfl 3; clear hbb))
  go_ret
  exact ⟨rfl, OW.out.below⟩
end Go.Proofs.Ytolapikiflodfaa.ColCollideLeaves
