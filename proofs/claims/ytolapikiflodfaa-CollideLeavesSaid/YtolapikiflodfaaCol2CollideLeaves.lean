/- Here is proved: when what collide.opened tells has no node; what collide.Root tells then. Conditions: none. -/
import Derived.Test.YtolapikiflodfaaCol1CollideLeaves
namespace Go.Proofs.Ytolapikiflodfaa.ColCollideLeaves
open Go Go.RowKit Go.Proofs.YtolapikiflodfaaW.PrintWords Go.Proofs.YtolapikiflodfaaW.PrintLast Go.Proofs.YtolapikiflodfaaW.PrintMore
open Go.Proofs.Ytolapikiflodfaa.PCollideLeaves
theorem of_if {α : Type} {c : Prop} [Decidable c] {a : Option α} {r : α} (h : (if c then a else none) = some r) : a = some r := by
  split at h
  · exact h
  · cases h
theorem l0_len : ∀ (k : Nat) (x0 : Hsh.Hs) (x5 : List S157) (x6 x7 : Int) (a : ByteArray) (b c : Int) (d : List ByteArray) (r : List S157), collide_opened.l0 k x0 x5 x6 x7 a b c d = some r → r.length = x5.length
  | 0, _, _, _, _, _, _, _, _, r, h => by rw [collide_opened.l0] at h; cases h
  | k + 1, x0, x5, x6, x7, a, b, c, d, r, h => by
    have ih := l0_len k
    rw [collide_opened.l0] at h
    by_cases hx : x7 ≥ 0
    · rw [if_pos hx] at h
      have h := of_if (of_if h)
      obtain ⟨t, _, h⟩ := Option.bind_eq_some_iff.1 h
      have h := of_if (of_if (of_if (of_if h)))
      by_cases hy : (rd_T157 x5 (wrap64 (x7 + 1))).f0 = (rd_T157 x5 x7).f0
      · rw [if_pos hy] at h
        have h := of_if (of_if h)
        rw [ih _ _ _ _ _ _ _ _ _ h, List.length_set]
      · rw [if_neg hy] at h
        have h := of_if (of_if h)
        rw [ih _ _ _ _ _ _ _ _ _ h, List.length_set]
    · rw [if_neg hx] at h
      cases h
      rfl
theorem j0_empty (k : Nat) (x0 : Hsh.Hs) (b : Bool) (leaf : ByteArray) (i sz : Int) (l : List ByteArray) (hl : l.length ≤ 1000000) (h : collide_opened.j0 k x0 b leaf i sz l = some []) :
    b = true ∨ ∃ k2 pl, collide_path.f k2 i sz = some pl ∧ pl.length ≠ l.length + 1 := by
  cases k with
  | zero => rw [collide_opened.j0] at h; cases h
  | succ k =>
    rw [collide_opened.j0] at h
    by_cases hb : b = true
    · exact .inl hb
    · rw [if_neg hb] at h
      obtain ⟨t, ht, h⟩ := Option.bind_eq_some_iff.1 h
      refine .inr ⟨k, t, ht, fun hn => ?_⟩
      rw [if_pos (by unfold wrap64; omega)] at h
      have h := l0_len _ _ _ _ _ _ _ _ _ _ (of_if (of_if (of_if h)))
      rw [List.length_set, hn] at h
      simp at h
theorem opened_empty (k : Nat) (x0 : Hsh.Hs) (leaf : ByteArray) (i sz : Int) (l : List ByteArray) (hl : l.length ≤ 1000000) (h : collide_opened.f k x0 leaf i sz l = some []) :
    sz < 1 ∨ 1048576 < sz ∨ i < 0 ∨ sz ≤ i ∨ (!l.all fun s => s.size == 32) = true ∨ ∃ k2 pl, collide_path.f k2 i sz = some pl ∧ pl.length ≠ l.length + 1 := by
  unfold collide_opened.f at h
  split at h
  · exact .inl (by assumption)
  split at h
  · exact .inr (.inl (by omega))
  split at h
  · exact .inr (.inr (.inl (by assumption)))
  split at h
  · exact .inr (.inr (.inr (.inl (by omega))))
  obtain ⟨t, ht, h⟩ := Option.bind_eq_some_iff.1 h
  unfold collide_short.f at ht
  cases ht
  exact .inr (.inr (.inr (.inr (j0_empty k x0 _ leaf i sz l hl h))))
theorem opened_nil (k : Nat) (h9 : Hsh.Hs) (leaf : ByteArray) (i sz : Int) (A : Option Addr) (c : Nat) (l : List ByteArray) (w : World) (hl : l.length ≤ 1000000) (ht : Short.Texts w A l) (h : collide_opened.f k h9 leaf i sz l = some []) :
    Calls Try.prog 95 #[.func (.func h9.id) #[] #[], .agg #[.string leaf, .int .i64 i, .int .i64 sz, .slice A l.length c]] w fun e w' => e = .returned (.slice none 0 0) ∧ Below w.heap.size w w' := by
  have hm : l.length ≤ 140737488351232 := by omega
  have hc := opened_empty k h9 leaf i sz l hl h
  clear h
  by_cases h0 : sz < 1
  · exact opened_sz h9 leaf i sz A c l w hm ht h0
  by_cases h1 : 1048576 < sz
  · exact opened_big h9 leaf i sz A c l w hm ht h0 h1
  by_cases h2 : i < 0
  · exact opened_neg h9 leaf i sz A c l w hm ht h0 h1 h2
  by_cases h3 : sz ≤ i
  · exact opened_out h9 leaf i sz A c l w hm ht h0 h1 h2 h3
  by_cases h4 : (!l.all fun s => s.size == 32) = true
  · exact opened_short h9 leaf i sz A c l w hm ht h0 h1 h2 h3 h4
  rcases hc with hc | hc | hc | hc | hc | ⟨k2, pl, hp, hn⟩
  · exact absurd hc h0
  · exact absurd hc h1
  · exact absurd hc h2
  · exact absurd hc h3
  · exact absurd hc h4
  · exact opened_path h9 leaf i sz A c l w hm ht h0 h1 h2 h3 (by simpa using h4) k2 pl hp hn
set_option maxRecDepth 100000 in
set_option maxHeartbeats 4000000 in
theorem root_nil (k : Nat) (h9 : Hsh.Hs) (leaf : ByteArray) (i sz : Int) (A : Option Addr) (c : Nat) (l : List ByteArray) (w : World) (hl : l.length ≤ 1000000) (ht : Short.Texts w A l) (h : collide_opened.f k h9 leaf i sz l = some []) :
    Calls Try.prog 59 #[.func (.func h9.id) #[] #[], .agg #[.string leaf, .int .i64 i, .int .i64 sz, .slice A l.length c]] w fun e w' => e = .returned (.tuple #[.string ⟨#[]⟩, .bool false]) ∧ Below w.heap.size w w' := by
  have HT := Aside0.mk ht
  have HL := Aside0.mk hl
  have HP := Aside0.mk h
  clear ht hl h
  have OW := Aside0.mk (Mem.Own.nil w)
  have hu32 := Try.underlying32
  have hsn := fun (W : World) (a : Option Addr) (n c : Nat) => Lib.run_eql_slice_nil (P := Try.prog) W 121 157 a n c 0 0 Try.underlying121
  go_enter Try.func59, Try.ntmps59
  go_wp2_with (first
    | ((with_reducible refine gate_dst (N := 3) rfl ?_); refine box_event ?hg (N := 3) ?hd (cs := #[.string leaf, .int .i64 i, .int .i64 sz, .slice A l.length c]) (t := 32) ?hr ?_; (case hd => rfl); (case hg => rfl); (case hr => first | (go_simp; done) | (go_simp; rfl)); intro gC hg W_ hb hbb; have T2 := Aside0.mk (texts_below HT.out hbb); clear HT; have c0 := (blk_cell hb 0).trans rfl; have c1 := (blk_cell hb 1).trans rfl; have c2 := (blk_cell hb 2).trans rfl; have c3 := (blk_cell hb 3).trans rfl; have n_ : Aside0 (Mem.Own w W_ [(gC, #[.string leaf, .int .i64 i, .int .i64 sz, .slice A l.length c], 32)]) := ⟨OW.out.new hg hb hbb⟩; clear OW hb hbb hg; have OW := n_; clear n_)
    | (go_at_call 95; refine (opened_nil k h9 leaf i sz A c l _ HL.out T2.out HP.out).mono ?_; rintro e w2 ⟨rfl, hbb⟩; have n_ := Aside0.mk (OW.out.step hbb); clear OW; have OW := n_; clear n_ hbb))
  go_ret2
  exact ⟨rfl, OW.out.below⟩
theorem own_first {e base : Nat} {ok : Nat → Prop} {w : World} {v : Value} {xs : List S157} (h : Kd.R k157 e w base ok v xs) (hn : 0 < xs.length) :
    ∃ g cap, v = .slice (some ⟨g, 0, none⟩) xs.length cap ∧ w.cell? ⟨g, 2, none⟩ = some (.string (rd_T157 xs 0).f2) ∧ 0 < xs.length := by
  obtain ⟨inner, ho⟩ := Kd.R_own h
  obtain ⟨_, _, he, _, hC⟩ := Kd.R_reads h
  rcases ho.2 with ⟨_, h0⟩ | ⟨g, cap, cur, rfl, _⟩
  · omega
  · injection he with e1 e2 e3
    subst e1
    obtain ⟨ad, ea, _, _, h2⟩ := at_T157 hC 0 (Int.le_refl 0) (by omega)
    cases ea
    exact ⟨g, cap, rfl, h2, hn⟩
set_option maxRecDepth 100000 in
set_option maxHeartbeats 4000000 in
theorem root_some (k : Nat) (h9 : Hsh.Hs) (leaf : ByteArray) (i sz : Int) (A : Option Addr) (c : Nat) (l : List ByteArray) (w : World) (hr : Kd.C Kd.string w A l.length l) (hc : l.length ≤ c) (r : List S157) (h : collide_opened.f k h9 leaf i sz l = some r) (hne : 0 < r.length) (t : ByteArray) (hh : Hsh.hs_call.f h9 (rd_T157 r 0).f2 = some t) :
    Calls Try.prog 59 #[.func (.func h9.id) #[] #[], .agg #[.string leaf, .int .i64 i, .int .i64 sz, .slice A l.length c]] w fun e w' => e = .returned (.tuple #[.string t, .bool true]) ∧ Below w.heap.size w w' := by
  have HR := Aside0.mk hr
  have HC := Aside0.mk hc
  have HP := Aside0.mk h
  have HH := Aside0.mk hh
  clear hr hc h hh
  have OW := Aside0.mk (Mem.Own.nil w)
  have hu32 := Try.underlying32
  have hsn := fun (W : World) (a : Option Addr) (n c : Nat) => Lib.run_eql_slice_nil (P := Try.prog) W 121 157 a n c 0 0 Try.underlying121
  have hz : (0 : Int) < (r.length : Int) := by omega
  have hen := h9.enters
  go_enter Try.func59, Try.ntmps59
  go_wp2_with (first
    | ((with_reducible refine gate_dst (N := 3) rfl ?_); refine box_event ?hg (N := 3) ?hd (cs := #[.string leaf, .int .i64 i, .int .i64 sz, .slice A l.length c]) (t := 32) ?hr ?_; (case hd => rfl); (case hg => rfl); (case hr => first | (go_simp; done) | (go_simp; rfl)); intro gC hg W_ hb hbb; have H2 := Aside0.mk (Kd.C_below HR.out hbb); clear HR; have c0 := (blk_cell hb 0).trans rfl; have c1 := (blk_cell hb 1).trans rfl; have c2 := (blk_cell hb 2).trans rfl; have c3 := (blk_cell hb 3).trans rfl; have n_ : Aside0 (Mem.Own w W_ [(gC, #[.string leaf, .int .i64 i, .int .i64 sz, .slice A l.length c], 32)]) := ⟨OW.out.new hg hb hbb⟩; clear OW hb hbb hg; have OW := n_; clear n_)
    | (go_at_call 95; refine (collide_opened.calls k h9 leaf i sz A c l r _ H2.out HC.out HP.out).mono ?_; rintro e w2 ⟨v, rfl, hR, hbb⟩; have n_ := Aside0.mk (OW.out.step hbb); clear OW; have OW := n_; clear n_ hbb c0 c1 c2 c3; obtain ⟨g, cap, rfl, x2, hs⟩ := own_first hR hne; have X2 := Aside0.mk x2)
    | (refine (Hsh.hs_call.calls h9 _ t _ HH.out).mono ?_; rintro e w3 ⟨rfl, hbb⟩; have n_ := Aside0.mk (OW.out.step hbb); clear OW; have OW := n_; clear n_ hbb))
  go_ret2
  exact ⟨rfl, OW.out.below⟩
end Go.Proofs.Ytolapikiflodfaa.ColCollideLeaves
