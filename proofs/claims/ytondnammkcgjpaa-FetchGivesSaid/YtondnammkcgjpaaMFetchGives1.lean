/- Here is proved: what annalistref21.Same answers. Conditions: none. -/
import Derived.Test.YtondnammkcgjpaaMTileCuts1
import Derived.Maps.OwnSet
import Derived.Maps.RangeRun
import Derived.RowKit3
import Derived.Test.YtondnammkcgjpaaRows
import Derived.WalkKit
import Derived.ProofKit
import Derived.OpenShut
import Derived.ShutString
import Derived.ChangeOld
import Derived.Below
import Derived.SizedLaws
namespace Go.Proofs.Ytondnammkcgjpaa.Fg
open Go Go.RowKit Go.Shelf Go.Proofs.YtondnammkcgjpaaW.PrintWords Go.Proofs.YtondnammkcgjpaaW.PrintLast Go.Proofs.YtondnammkcgjpaaW.PrintMore
open Go.Proofs.Ytondnammkcgjpaa.ShaP Go.Proofs.Ytondnammkcgjpaa.Mk Go.Proofs.Ytondnammkcgjpaa.Rg Go.Proofs.Ytondnammkcgjpaa.Rng Go.Proofs.Ytondnammkcgjpaa.RgP Go.Proofs.Ytondnammkcgjpaa.Rf Go.Proofs.Ytondnammkcgjpaa.RgL Go.Proofs.Ytondnammkcgjpaa.Til
set_option linter.unusedVariables false
set_option linter.unusedSimpArgs false
set_option maxRecDepth 100000 in
set_option maxHeartbeats 2000000 in
theorem same21_c (A B : Option Addr) (c1 c2 : Nat) (l1 l2 : List ByteArray) (w : World) (hr1 : Kd.C Kd.string w A l1.length l1) (hr2 : Kd.C Kd.string w B l2.length l2) :
    Calls Try.prog 33 #[.slice A l1.length c1, .slice B l2.length c2] w fun e w' => e = .returned (.bool (decide (l1 = l2))) ∧ Below w.heap.size w w' := by
  have HR1 := Aside0.mk hr1
  have HR2 := Aside0.mk hr2
  have hm := hr1.2.1
  have hm2 := hr2.2.1
  clear hr1 hr2
  by_cases hl : l1.length = l2.length
  · have hli : ((l1.length : Int) != (l2.length : Int)) = false := by rw [hl]; simp
    have HL := Aside0.mk hl
    clear hl
    go_enter Try.func33, Try.ntmps33
    go_wp2
    go_loopw [5] (fun t wr => ∃ k : Nat, t = .int .i64 k ∧ k ≤ l1.length ∧ Aside0 (l1.take k = l2.take k) ∧ Aside0 (Below w.heap.size w wr)) (fun t _ => l1.length - (intOf t).toNat)
    case atStart => exact ⟨0, rfl, Nat.zero_le _, ⟨rfl⟩, ⟨Below.refl _ _⟩⟩
    case round =>
      obtain ⟨k, rfl, hk1, HA, HB⟩ := hrel
      by_cases h1 : k < l1.length
      · have h1i : (k : Int) < (l1.length : Int) := by omega
        have h12 : k < l2.length := by have := HL.out; omega
        have h12i : (k : Int) < (l2.length : Int) := by omega
        obtain ⟨a1, e, hx⟩ := Kd.at_string (Kd.C_below HR1.out HB.out) (k : Int) (by omega) h1i
        cases e
        obtain ⟨a2, e, hy⟩ := Kd.at_string (Kd.C_below HR2.out HB.out) (k : Int) (by omega) h12i
        cases e
        have hg : rdOf ByteArray.empty l1 (k : Int) = l1[k] := rdOf_at l1 k h1
        have hg2 : rdOf ByteArray.empty l2 (k : Int) = l2[k] := rdOf_at l2 k h12
        rw [hg, Int.toNat_natCast] at hx
        rw [hg2, Int.toNat_natCast] at hy
        by_cases h3 : l1[k] = l2[k]
        · have HA2 : Aside0 (l1.take (k + 1) = l2.take (k + 1)) := ⟨by rw [List.take_succ_eq_append_getElem h1, List.take_succ_eq_append_getElem h12, HA.out, h3]⟩
          rw [h3] at hx
          generalize l2[k] = s at *
          clear HA hg hg2
          go_wp2_with fail
          go_quiet (fail)
          go_wp2
          go_roundw
          case rel => exact ⟨k + 1, by go_num, by omega, HA2, ⟨pw_below_drewN HB.out _⟩⟩
          case measure => simp [intOf]; omega
        · have HF : Aside0 (decide (l1 = l2) = false) := ⟨decide_eq_false (fun e => h3 (by simp only [e]))⟩
          have h3b : (l1[k].toList != l2[k].toList) = true := bne_iff_ne.2 (fun e => h3 (toList_inj e))
          have h3c : (l1[k].toList == l2[k].toList) = false := beq_eq_false_iff_ne.2 (fun e => h3 (toList_inj e))
          generalize l1[k] = s1 at *
          generalize l2[k] = s2 at *
          clear HA hg hg2
          go_wp2_with fail
          go_quiet (fail)
          go_wp2
          go_ret
          exact ⟨by rw [HF.out]; rfl, pw_below_drewN HB.out _⟩
      · have h1i : ¬ (k : Int) < (l1.length : Int) := by omega
        have HF : Aside0 (decide (l1 = l2) = true) := ⟨decide_eq_true (by
          obtain rfl : k = l1.length := by omega
          have h := HA.out
          rwa [List.take_length, HL.out, List.take_length] at h)⟩
        clear HA
        go_wp2
        go_ret
        exact ⟨by rw [HF.out]; rfl, HB.out⟩
  · have hli : ((l1.length : Int) != (l2.length : Int)) = true := by rw [bne_iff_ne]; omega
    have HF : Aside0 (decide (l1 = l2) = false) := ⟨decide_eq_false (fun e => hl (by rw [e]))⟩
    clear hl
    go_enter Try.func33, Try.ntmps33
    go_wp2
    go_ret
    exact ⟨by rw [HF.out]; rfl, Below.refl _ _⟩
end Go.Proofs.Ytondnammkcgjpaa.Fg
namespace Go.Proofs.Ytondnammkcgjpaa.Fg
open Go Go.RowKit Go.Shelf Go.Proofs.YtondnammkcgjpaaW.PrintWords Go.Proofs.YtondnammkcgjpaaW.PrintLast Go.Proofs.YtondnammkcgjpaaW.PrintMore
open Go.Proofs.Ytondnammkcgjpaa.ShaP Go.Proofs.Ytondnammkcgjpaa.Mk Go.Proofs.Ytondnammkcgjpaa.Rg Go.Proofs.Ytondnammkcgjpaa.Rng Go.Proofs.Ytondnammkcgjpaa.RgP Go.Proofs.Ytondnammkcgjpaa.Rf Go.Proofs.Ytondnammkcgjpaa.RgL Go.Proofs.Ytondnammkcgjpaa.Til
set_option linter.unusedVariables false
set_option linter.unusedSimpArgs false
set_option maxRecDepth 100000 in
set_option maxHeartbeats 2000000 in
theorem mleaf_c (a : ByteArray) (ha : a.size ≤ 100000) (w : World) :
    Calls Try.prog 63 #[.agg TV, .string a] w fun e w' => e = .returned (.string (leafF a)) ∧ Below w.heap.size w w' := by
  have OW := Aside0.mk (Mem.Own.nil w)
  have HI := Aside0.mk info_tab
  have HS := Aside0.mk (fun W => sha_c ((⟨#[0]⟩ : ByteArray) ++ a) (by rw [ByteArray.size_append]; show 1 + a.size ≤ _; omega) W)
  have hfold : Ref01.sumF ((⟨#[0]⟩ : ByteArray) ++ a) = leafF a := rfl
  rw [hfold] at HS
  have z1 : (1 + a.size ≤ 9223372036854775807) = True := eq_true (by omega)
  have z3 : (9223372036854775807 < 1 + a.size) = False := eq_false (by omega)
  clear hfold
  go_enter Try.func63, Try.ntmps63
  go_wp2_with (first
    | ((with_reducible refine gate_dst (N := 2) rfl ?_); refine box_event ?hg (N := 2) ?hd (cs := TV) (t := 31) ?hr ?_; (case hd => rfl); (case hg => rfl); (case hr => first | (go_simp; done) | (go_simp; rfl)); intro gT hg W_ hb hbb; have n_ : Aside0 (Mem.Own w W_ [(gT, TV, 31)]) := ⟨OW.out.new hg hb hbb⟩; clear OW hb hbb hg; have OW := n_; clear n_)
    | ((with_reducible refine gate_dst (N := 5) rfl ?_); refine wpList_load_row rfl 31 (.tmp 2) rfl gT rfl 31 TV (0, 0) _ (OW.out.blk 0 rfl) Try.underlying31 rfl HI.out ?_)
    | (go_at_call 58; with_reducible refine (HS.out _).mono ?_; rintro e w_ ⟨rfl, hB⟩; have OB := Aside0.mk (below_step OW.out.below hB); clear OW hB))
  go_ret
  exact ⟨rfl, OB.out⟩
end Go.Proofs.Ytondnammkcgjpaa.Fg
namespace Go.Proofs.Ytondnammkcgjpaa.Fg
open Go Go.RowKit Go.Shelf Go.Proofs.YtondnammkcgjpaaW.PrintWords Go.Proofs.YtondnammkcgjpaaW.PrintLast Go.Proofs.YtondnammkcgjpaaW.PrintMore
open Go.Proofs.Ytondnammkcgjpaa.ShaP Go.Proofs.Ytondnammkcgjpaa.Mk Go.Proofs.Ytondnammkcgjpaa.Rg Go.Proofs.Ytondnammkcgjpaa.Rng Go.Proofs.Ytondnammkcgjpaa.RgP Go.Proofs.Ytondnammkcgjpaa.Rf Go.Proofs.Ytondnammkcgjpaa.RgL Go.Proofs.Ytondnammkcgjpaa.Til
set_option linter.unusedVariables false
set_option linter.unusedSimpArgs false
/-- is nothing to be given? -/
def offB (m : Nat) (size : Int) (b : Bool) (lv : Int) : Bool := decide (size < 0) || decide (64 < size) || decide ((m : Int) < size) || (b && decide (lv ≠ 0))
set_option maxRecDepth 100000 in
set_option maxHeartbeats 4000000 in
theorem give_off (A : Option Addr) (m c : Nat) (size : Int) (b : Bool) (lv ix : Int) (w : World) (h : offB m size b lv = true) :
    Calls Try.prog 32 #[.agg TV, .slice A m c, .int .i64 size, .agg #[.bool b, .int .i64 lv, .int .i64 ix]] w fun e w' => e = .returned (.tuple #[.slice none 0 0, .int .i64 5]) ∧ Below w.heap.size w w' := by
  have OW := Aside0.mk (Mem.Own.nil w)
  have HI := Aside0.mk info_tab
  have hcase : size < 0 ∨ (¬ size < 0 ∧ 64 < size) ∨ (¬ size < 0 ∧ ¬ 64 < size ∧ (m : Int) < size) ∨ (¬ size < 0 ∧ ¬ 64 < size ∧ ¬ (m : Int) < size ∧ b = true ∧ lv ≠ 0) := by
    unfold offB at h
    by_cases h1 : size < 0
    · exact .inl h1
    · by_cases h2 : 64 < size
      · exact .inr (.inl ⟨h1, h2⟩)
      · by_cases h3 : (m : Int) < size
        · exact .inr (.inr (.inl ⟨h1, h2, h3⟩))
        · simp [h1, h2, h3] at h
          exact .inr (.inr (.inr ⟨h1, h2, h3, h.1, h.2⟩))
  clear h
  rcases hcase with h1 | ⟨h1, h2⟩ | ⟨h1, h2, h3⟩ | ⟨h1, h2, h3, rfl, h5⟩
  · go_enter Try.func32, Try.ntmps32
    go_wp2_with (first
      | ((with_reducible refine gate_dst (N := 4) rfl ?_); refine box_event ?hg (N := 4) ?hd (cs := TV) (t := 31) ?hr ?_; (case hd => rfl); (case hg => rfl); (case hr => first | (go_simp; done) | (go_simp; rfl)); intro gT hg W_ hb hbb; have n_ : Aside0 (Mem.Own w W_ [(gT, TV, 31)]) := ⟨OW.out.new hg hb hbb⟩; clear OW hb hbb hg; have OW := n_; clear n_))
    go_ret2
    exact ⟨rfl, below_alloc OW.out.below _⟩
  · go_enter Try.func32, Try.ntmps32
    go_wp2_with (first
      | ((with_reducible refine gate_dst (N := 4) rfl ?_); refine box_event ?hg (N := 4) ?hd (cs := TV) (t := 31) ?hr ?_; (case hd => rfl); (case hg => rfl); (case hr => first | (go_simp; done) | (go_simp; rfl)); intro gT hg W_ hb hbb; have n_ : Aside0 (Mem.Own w W_ [(gT, TV, 31)]) := ⟨OW.out.new hg hb hbb⟩; clear OW hb hbb hg; have OW := n_; clear n_))
    go_ret2
    exact ⟨rfl, below_alloc OW.out.below _⟩
  · go_enter Try.func32, Try.ntmps32
    go_wp2_with (first
      | ((with_reducible refine gate_dst (N := 4) rfl ?_); refine box_event ?hg (N := 4) ?hd (cs := TV) (t := 31) ?hr ?_; (case hd => rfl); (case hg => rfl); (case hr => first | (go_simp; done) | (go_simp; rfl)); intro gT hg W_ hb hbb; have n_ : Aside0 (Mem.Own w W_ [(gT, TV, 31)]) := ⟨OW.out.new hg hb hbb⟩; clear OW hb hbb hg; have OW := n_; clear n_))
    go_ret2
    exact ⟨rfl, below_alloc OW.out.below _⟩
  · have h5b : (lv == 0) = false := beq_eq_false_iff_ne.2 h5
    go_enter Try.func32, Try.ntmps32
    go_wp2_with (first
      | ((with_reducible refine gate_dst (N := 4) rfl ?_); refine box_event ?hg (N := 4) ?hd (cs := TV) (t := 31) ?hr ?_; (case hd => rfl); (case hg => rfl); (case hr => first | (go_simp; done) | (go_simp; rfl)); intro gT hg W_ hb hbb; have n_ : Aside0 (Mem.Own w W_ [(gT, TV, 31)]) := ⟨OW.out.new hg hb hbb⟩; clear OW hb hbb hg; have OW := n_; clear n_))
    go_ret2
    exact ⟨rfl, below_alloc OW.out.below _⟩
end Go.Proofs.Ytondnammkcgjpaa.Fg
namespace Go.Proofs.Ytondnammkcgjpaa.Fg
open Go Go.RowKit Go.Shelf Go.Proofs.YtondnammkcgjpaaW.PrintWords Go.Proofs.YtondnammkcgjpaaW.PrintLast Go.Proofs.YtondnammkcgjpaaW.PrintMore
open Go.Proofs.Ytondnammkcgjpaa.ShaP Go.Proofs.Ytondnammkcgjpaa.Mk Go.Proofs.Ytondnammkcgjpaa.Rg Go.Proofs.Ytondnammkcgjpaa.Rng Go.Proofs.Ytondnammkcgjpaa.RgP Go.Proofs.Ytondnammkcgjpaa.Rf Go.Proofs.Ytondnammkcgjpaa.RgL Go.Proofs.Ytondnammkcgjpaa.Til
set_option linter.unusedVariables false
set_option linter.unusedSimpArgs false
theorem wr_nat (a : Nat) (h : a ≤ 1000000000) : wrap64 (a : Int) = (a : Int) := by unfold wrap64; omega
set_option maxRecDepth 100000 in
set_option maxHeartbeats 4000000 in
theorem give_nil (A : Option Addr) (m c s : Nat) (b : Bool) (lv ix : Int) (w : World) (hs : s ≤ 64) (hsm : s ≤ m) (hb : b = true → lv = 0) (hw : inTile ix (cntv s lv) = 0) :
    Calls Try.prog 32 #[.agg TV, .slice A m c, .int .i64 (s : Int), .agg #[.bool b, .int .i64 lv, .int .i64 ix]] w fun e w' => e = .returned (.tuple #[.slice none 0 0, .int .i64 5]) ∧ Below w.heap.size w w' := by
  have OW := Aside0.mk (Mem.Own.nil w)
  have HI := Aside0.mk info_tab
  have HW := Aside0.mk (fun W => width_c (s : Int) lv ix W)
  rw [hw] at HW
  clear hw
  have h1 : ¬ (64 : Int) < (s : Int) := by omega
  have h2 : ¬ (m : Int) < (s : Int) := by omega
  clear hs hsm
  rcases b with _ | _
  · clear hb
    go_enter Try.func32, Try.ntmps32
    go_wp2_with (first
      | ((with_reducible refine gate_dst (N := 4) rfl ?_); refine box_event ?hg (N := 4) ?hd (cs := TV) (t := 31) ?hr ?_; (case hd => rfl); (case hg => rfl); (case hr => first | (go_simp; done) | (go_simp; rfl)); intro gT hg W_ hb hbb; have n_ : Aside0 (Mem.Own w W_ [(gT, TV, 31)]) := ⟨OW.out.new hg hb hbb⟩; clear OW hb hbb hg; have OW := n_; clear n_)
      | ((with_reducible refine gate_dst (N := 7) rfl ?_); refine box_event ?hg (N := 7) ?hd (cs := #[.bool false, .int .i64 lv, .int .i64 ix]) (t := 58) ?hr ?_; (case hd => rfl); (case hg => rfl); (case hr => first | (go_simp; done) | (go_simp; rfl)); intro gW hg W_ hb hbb; have j0 := (blk_cell hb 0).trans rfl; have j1 := (blk_cell hb 1).trans rfl; have j2 := (blk_cell hb 2).trans rfl; have n_ : Aside0 (Mem.Own w W_ [(gT, TV, 31), (gW, #[.bool false, .int .i64 lv, .int .i64 ix], 58)]) := ⟨OW.out.new hg hb hbb⟩; clear OW hb hbb hg; have OW := n_; clear n_)
      | (go_at_call 50; go_loud ((with_reducible refine (HW.out _).mono ?_); rintro e wz ⟨rfl, hB⟩; have n_ := Aside0.mk (OW.out.step hB); clear OW hB; have OW := n_; clear n_)))
    go_ret2
    exact ⟨rfl, OW.out.below⟩
  · obtain rfl := hb rfl
    go_enter Try.func32, Try.ntmps32
    go_wp2_with (first
      | ((with_reducible refine gate_dst (N := 4) rfl ?_); refine box_event ?hg (N := 4) ?hd (cs := TV) (t := 31) ?hr ?_; (case hd => rfl); (case hg => rfl); (case hr => first | (go_simp; done) | (go_simp; rfl)); intro gT hg W_ hb hbb; have n_ : Aside0 (Mem.Own w W_ [(gT, TV, 31)]) := ⟨OW.out.new hg hb hbb⟩; clear OW hb hbb hg; have OW := n_; clear n_)
      | ((with_reducible refine gate_dst (N := 7) rfl ?_); refine box_event ?hg (N := 7) ?hd (cs := #[.bool true, .int .i64 0, .int .i64 ix]) (t := 58) ?hr ?_; (case hd => rfl); (case hg => rfl); (case hr => first | (go_simp; done) | (go_simp; rfl)); intro gW hg W_ hb hbb; have j0 := (blk_cell hb 0).trans rfl; have j1 := (blk_cell hb 1).trans rfl; have j2 := (blk_cell hb 2).trans rfl; have n_ : Aside0 (Mem.Own w W_ [(gT, TV, 31), (gW, #[.bool true, .int .i64 0, .int .i64 ix], 58)]) := ⟨OW.out.new hg hb hbb⟩; clear OW hb hbb hg; have OW := n_; clear n_)
      | (go_at_call 50; (with_reducible refine (HW.out _).mono ?_); rintro e wz ⟨rfl, hB⟩; have n_ := Aside0.mk (OW.out.step hB); clear OW hB; have OW := n_; clear n_))
    go_ret2
    exact ⟨rfl, OW.out.below⟩
set_option maxRecDepth 100000 in
set_option maxHeartbeats 4000000 in
theorem give_bundle (A : Option Addr) (c : Nat) (l : List ByteArray) (s i n : Nat) (w : World) (hs : s ≤ 64) (hsm : s ≤ l.length) (hi : i ≤ 16) (hn : 0 < n) (hw : inTile (i : Int) (cntv s 0) = n) (hfit : 4 * i + n ≤ s) (hc : l.length ≤ c) (hr : Kd.C Kd.string w A l.length l) :
    Calls Try.prog 32 #[.agg TV, .slice A l.length c, .int .i64 (s : Int), .agg #[.bool true, .int .i64 0, .int .i64 (i : Int)]] w fun e w' => ∃ A' c', e = .returned (.tuple #[.slice A' n c', .int .i64 0]) ∧ SR w' w.heap.size (.slice A' n c') (seg l (4 * i) n) ∧ Below w.heap.size w w' := by
  have OW := Aside0.mk (Mem.Own.nil w)
  have HI := Aside0.mk info_tab
  have HR := Aside0.mk hr
  have HW := Aside0.mk (fun W => width_c (s : Int) 0 (i : Int) W)
  rw [hw] at HW
  clear hw
  have h1 : ¬ (64 : Int) < (s : Int) := by omega
  have h2 : ¬ (l.length : Int) < (s : Int) := by omega
  obtain ⟨a, ha⟩ : ∃ a, a = 4 * i := ⟨_, rfl⟩
  obtain ⟨b, hb⟩ : ∃ b, b = a + n := ⟨_, rfl⟩
  rw [← ha] at hfit ⊢
  have hsl := seg_len l a n (by omega)
  have hseg : (l.take b).drop a = seg l a n := by rw [hb]; rfl
  obtain ⟨A9, hcut, hC9, _⟩ := cut_mid A c l a b (by omega) (by omega) hc
  rw [hseg, hsl] at hcut hC9
  have HC9 := Aside0.mk (fun W h => hC9 W (Kd.C_below HR.out h))
  have HCL := Aside0.mk (fun (A9 : Option Addr) (c9 : Nat) (W : World) h => clone_c A9 c9 (seg l a n) W (by rw [hsl]; omega) h)
  rw [hsl] at HCL
  generalize seg l a n = sg at *
  have hm0 : ¬ (n : Int) = 0 := by omega
  have hia : (i : Int) * 4 = (a : Int) := by omega
  have hab : (a : Int) + (n : Int) = (b : Int) := by omega
  have hwa : wrap64 (a : Int) = (a : Int) := wr_nat _ (by omega)
  have hwb : wrap64 (b : Int) = (b : Int) := wr_nat _ (by omega)
  have HSG := Aside0.mk hsl
  clear hs hsm hr hi hn hfit hc ha hb hsl hseg hC9
  go_enter Try.func32, Try.ntmps32
  go_wp2_with (first
    | ((with_reducible refine gate_dst (N := 4) rfl ?_); refine box_event ?hg (N := 4) ?hd (cs := TV) (t := 31) ?hr ?_; (case hd => rfl); (case hg => rfl); (case hr => first | (go_simp; done) | (go_simp; rfl)); intro gT hg W_ hb hbb; have n_ : Aside0 (Mem.Own w W_ [(gT, TV, 31)]) := ⟨OW.out.new hg hb hbb⟩; clear OW hb hbb hg; have OW := n_; clear n_)
    | ((with_reducible refine gate_dst (N := 7) rfl ?_); refine box_event ?hg (N := 7) ?hd (cs := #[.bool true, .int .i64 0, .int .i64 (i : Int)]) (t := 58) ?hr ?_; (case hd => rfl); (case hg => rfl); (case hr => first | (go_simp; done) | (go_simp; rfl)); intro gW hg W_ hb hbb; have j0 := (blk_cell hb 0).trans rfl; have j1 := (blk_cell hb 1).trans rfl; have j2 := (blk_cell hb 2).trans rfl; have n_ : Aside0 (Mem.Own w W_ [(gT, TV, 31), (gW, #[.bool true, .int .i64 0, .int .i64 (i : Int)], 58)]) := ⟨OW.out.new hg hb hbb⟩; clear OW hb hbb hg; have OW := n_; clear n_)
    | (go_at_call 50; (with_reducible refine (HW.out _).mono ?_); rintro e wz ⟨rfl, hB⟩; have n_ := Aside0.mk (OW.out.step hB); clear OW hB j0 j1 j2; have OW := n_; clear n_; have j0 := (OW.out.cell 1 rfl 0).trans rfl; have j2 := (OW.out.cell 1 rfl 2).trans rfl)
    | (go_at_call 51; (with_reducible refine (HCL.out A9 (c - a) _ (HC9.out _ OW.out.below)).mono ?_); rintro e wb ⟨v, rfl, hr9, hB⟩; obtain ⟨A5, c5, e5⟩ := Kd.R_slice hr9; rw [HSG.out] at e5; subst e5; have HV := Aside0.mk (Kd.R_lower hr9 OW.out.size); have n_ := Aside0.mk (OW.out.step hB); clear OW hB hr9; have OW := n_; clear n_))
  go_ret2
  exact ⟨_, _, rfl, HV.out, OW.out.below⟩
end Go.Proofs.Ytondnammkcgjpaa.Fg
namespace Go.Proofs.Ytondnammkcgjpaa.Fg
open Go Go.RowKit Go.Shelf Go.Proofs.YtondnammkcgjpaaW.PrintWords Go.Proofs.YtondnammkcgjpaaW.PrintLast Go.Proofs.YtondnammkcgjpaaW.PrintMore
open Go.Proofs.Ytondnammkcgjpaa.ShaP Go.Proofs.Ytondnammkcgjpaa.Mk Go.Proofs.Ytondnammkcgjpaa.Rg Go.Proofs.Ytondnammkcgjpaa.Rng Go.Proofs.Ytondnammkcgjpaa.RgP Go.Proofs.Ytondnammkcgjpaa.Rf Go.Proofs.Ytondnammkcgjpaa.RgL Go.Proofs.Ytondnammkcgjpaa.Til
set_option linter.unusedVariables false
set_option linter.unusedSimpArgs false
set_option maxRecDepth 100000 in
set_option maxHeartbeats 8000000 in
theorem give_tile (A : Option Addr) (c : Nat) (l : List ByteArray) (s : Nat) (lv ix : Int) (w : World) (hs : s ≤ 64) (hsm : s ≤ l.length) (hsz : ∀ x ∈ l, x.size ≤ 10000) (hw : inTile ix (cntv s lv) ≠ 0) (hc : l.length ≤ c) (hr : Kd.C Kd.string w A l.length l) :
    Calls Try.prog 32 #[.agg TV, .slice A l.length c, .int .i64 (s : Int), .agg #[.bool false, .int .i64 lv, .int .i64 ix]] w fun e w' => ∃ A' c', e = .returned (.tuple #[.slice A' (tileF (leavesF (l.take s)) lv ix).length c', .int .i64 0]) ∧ SR w' w.heap.size (.slice A' (tileF (leavesF (l.take s)) lv ix).length c') (tileF (leavesF (l.take s)) lv ix) ∧ Below w.heap.size w w' := by
  have OW := Aside0.mk (Mem.Own.nil w)
  have HI := Aside0.mk info_tab
  have HR := Aside0.mk hr
  obtain ⟨n, hn⟩ : ∃ n, inTile ix (cntv s lv) = n := ⟨_, rfl⟩
  have HW := Aside0.mk (fun W => width_c (s : Int) lv ix W)
  rw [hn] at HW
  have h1 : ¬ (64 : Int) < (s : Int) := by omega
  have h2 : ¬ (l.length : Int) < (s : Int) := by omega
  obtain ⟨hcut, hC9, _⟩ := cut_take A c l s hsm hc
  have htl : (l.take s).length = s := by rw [List.length_take]; omega
  have hll := leaves_len (l.take s)
  have h32 := leaves_32 (l.take s)
  have HSZ := Aside0.mk (show ∀ x ∈ l.take s, x.size ≤ 10000 from fun x hx => hsz x (List.mem_of_mem_take hx))
  rw [htl] at hcut hC9 hll
  have HC9 := Aside0.mk (fun W h => hC9 W (Kd.C_below HR.out h))
  have hm0 : ¬ n = 0 := by rw [← hn]; exact hw
  have hm0b : (n == 0) = false := beq_eq_false_iff_ne.2 hm0
  have HCT := Aside0.mk (fun (A8 : Option Addr) (c8 : Nat) (h8 : s ≤ c8) (W : World) h => cut_any A8 c8 (leavesF (l.take s)) lv ix W (by rw [hll]; exact hs) h32 (by rw [hll]; exact h8) h)
  rw [hll, hn] at HCT
  generalize l.take s = ls at *
  obtain ⟨L, hL⟩ : ∃ L, leavesF ls = L := ⟨_, rfl⟩
  rw [hL] at HCT hll ⊢
  have HLE := Aside0.mk hL
  have HLL := Aside0.mk hll
  have HTL := Aside0.mk htl
  have hsi : (s : Int) ≤ 64 := by omega
  clear hw hs hsm hr hc hsz htl hll h32 hC9 hn hL
  go_enter Try.func32, Try.ntmps32
  go_wp2_with (first
    | ((with_reducible refine gate_dst (N := 4) rfl ?_); refine box_event ?hg (N := 4) ?hd (cs := TV) (t := 31) ?hr ?_; (case hd => rfl); (case hg => rfl); (case hr => first | (go_simp; done) | (go_simp; rfl)); intro gT hg W_ hb hbb; have n_ : Aside0 (Mem.Own w W_ [(gT, TV, 31)]) := ⟨OW.out.new hg hb hbb⟩; clear OW hb hbb hg; have OW := n_; clear n_)
    | ((with_reducible refine gate_dst (N := 7) rfl ?_); refine box_event ?hg (N := 7) ?hd (cs := #[.bool false, .int .i64 lv, .int .i64 ix]) (t := 58) ?hr ?_; (case hd => rfl); (case hg => rfl); (case hr => first | (go_simp; done) | (go_simp; rfl)); intro gW hg W_ hb hbb; have j0 := (blk_cell hb 0).trans rfl; have j1 := (blk_cell hb 1).trans rfl; have j2 := (blk_cell hb 2).trans rfl; have n_ : Aside0 (Mem.Own w W_ [(gT, TV, 31), (gW, #[.bool false, .int .i64 lv, .int .i64 ix], 58)]) := ⟨OW.out.new hg hb hbb⟩; clear OW hb hbb hg; have OW := n_; clear n_)
    | (go_at_call 50; (with_reducible refine (HW.out _).mono ?_); rintro e wz ⟨rfl, hB⟩; have n_ := Aside0.mk (OW.out.step hB); clear OW hB j0 j1 j2; have OW := n_; clear n_; have j0 := (OW.out.cell 1 rfl 0).trans rfl))
  clear j0
  go_loopw [12, 14, 62] (fun v12 v14 v62 wr => ∃ (k : Nat) (A3 : Option Addr) (c3 : Nat), v62 = .int .i64 k ∧ v12 = .slice A3 k c3 ∧ k ≤ s ∧ Aside0 (SR wr w.heap.size (.slice A3 k c3) (leavesF (ls.take k))) ∧ Aside0 (Mem.Own w (wr) [(gT, TV, 31), (gW, #[.bool false, .int .i64 lv, .int .i64 ix], 58)])) (fun _ _ v62 _ => s - (intOf v62).toNat)
  case atStart => exact ⟨0, none, 0, rfl, rfl, Nat.zero_le _, ⟨Kd.R_nil _ _ _ _ _⟩, OW⟩
  case round =>
    clear OW
    obtain ⟨k, A3, c3, rfl, rfl, hk, HO, OW⟩ := hrel
    by_cases h3 : k < s
    · have h3i : (k : Int) < (s : Int) := by omega
      have hkl : k < ls.length := by rw [HTL.out]; exact h3
      obtain ⟨ad, e, hx⟩ := Kd.at_string (HC9.out _ OW.out.below) (k : Int) (by omega) h3i
      cases e
      rw [rdOf_at ls k hkl, Int.toNat_natCast] at hx
      have HT : Aside0 (leavesF (ls.take (k + 1)) = leavesF (ls.take k) ++ [leafF ls[k]]) := ⟨by unfold leavesF; rw [List.take_succ_eq_append_getElem hkl, List.map_append]; rfl⟩
      have hsz : ls[k].size ≤ 10000 := HSZ.out _ (List.getElem_mem hkl)
      have hlt : (leavesF (ls.take k)).length = k := by unfold leavesF; rw [List.length_map, List.length_take, HTL.out]; omega
      generalize ls[k] = x at *
      have HH := Aside0.mk (fun W => mleaf_c x (by omega) W)
      have HLT := Aside0.mk hlt
      generalize leavesF (ls.take k) = ol at *
      clear hlt hsz hkl
      go_wp2_with (first
        | ((with_reducible refine gate_dst (N := 67) rfl ?_); refine wpList_load_row rfl 31 (.tmp 4) rfl gT rfl 31 TV (0, 0) _ (OW.out.blk 0 rfl) Try.underlying31 rfl HI.out ?_)
        | (go_at_call 63; with_reducible refine (HH.out _).mono ?_; rintro e w1 ⟨rfl, hB⟩; have n_ := Aside0.mk (OW.out.step hB); have HO1 := Aside0.mk (Kd.R_below HO.out hB); clear hB OW HO hx; have OW := n_; clear n_)
        | ((with_reducible refine gate_builtin (b := .append) (xs := #[.tmp 66, .tmp 70]) rfl ?_); at_builtin; refine Kd.R_append (P := Try.prog) Kd.string (w0 := w) (W := w1) w.heap.size rfl (.tmp 66) (.tmp 70) 22 9 (.string ⟨#[]⟩) 16 rfl Try.underlying22 info_str rfl (by decide) (by decide) (.slice A3 k c3) ol (leafF x) [.string (leafF x)] (fun _ => True) (fun _ => False) rfl rfl rfl (fun _ h => h.elim) (fun _ _ => trivial) HO1.out OW.out.below OW.out.size (by rw [HLT.out]; omega) ?_; intro v2 w2 hr2 hb2 hg2 hat2; have n_ := Aside0.mk (OW.out.grown hg2 (fun k hk => Kd.R_base HO1.out k hk) (fun i b hb => (by
            rcases i with _ | _ | i
            · cases hb; exact fun e => Kd.R_ne HO1.out (OW.out.blk 0 rfl) (by decide) e
            · cases hb; exact fun e => Kd.R_ne HO1.out (OW.out.blk 1 rfl) (by decide) e
            · cases hb))); obtain ⟨A4, c4, e4⟩ := Kd.R_slice hr2; have e5 : (ol ++ [leafF x]).length = k + 1 := (by rw [List.length_append, HLT.out]; rfl); rw [e5] at e4; subst e4; have HR2 := Aside0.mk hr2; clear hr2 hb2 hg2 hat2 e5 OW; have OW := n_; clear n_))
      go_roundw
      case rel => exact ⟨k + 1, A4, c4, by go_num, rfl, by omega, by rw [HT.out]; exact HR2, OW⟩
      case measure => simp [intOf]; omega
    · have h3i : ¬ (k : Int) < (s : Int) := by omega
      obtain rfl : k = s := by omega
      have j1 := (OW.out.cell 1 rfl 1).trans rfl
      have j2 := (OW.out.cell 1 rfl 2).trans rfl
      have htk : ls.take k = ls := List.take_of_length_le (by rw [HTL.out]; exact Nat.le_refl _)
      rw [htk, HLE.out] at HO
      have hcap := (Kd.R_reads' HO.out).2.1
      have hlen := HLL.out
      have HCC : Aside0 (Kd.C Kd.string wr A3 k L) := ⟨by have := (Kd.R_reads' HO.out).2.2; rw [hlen] at this; exact this⟩
      have HCT2 := Aside0.mk (HCT.out A3 c3 (hcap))
      clear hcap hlen htk HCT
      go_wp2_with (first
        | ((with_reducible refine gate_dst (N := 74) rfl ?_); refine wpList_load_row rfl 31 (.tmp 4) rfl gT rfl 31 TV (0, 0) _ (OW.out.blk 0 rfl) Try.underlying31 rfl HI.out ?_)
        | (go_at_call 18; (with_reducible refine (HCT2.out _ HCC.out).mono ?_); rintro e wz ⟨x0, x1, E, A5, c5, hcs, rfl, hr5, hB⟩; obtain ⟨rfl, rfl, rfl⟩ : lv = x0 ∧ ix = x1 ∧ E = 0 := (by rcases hcs with h | h; exact absurd h.1 hm0; exact ⟨h.2.1.symm, h.2.2.1.symm, h.2.2.2⟩); have HV := Aside0.mk (Kd.R_lower hr5 OW.out.size); have n_ := Aside0.mk (OW.out.step hB); clear OW hB hr5 hcs j1 j2; have OW := n_; clear n_)
        | ((with_reducible refine gate_dst (N := 15) rfl ?_); refine box_event ?hg (N := 15) ?hd (cs := #[.int .i64 0, .int .i64 0, .slice none 0 0]) (t := 35) ?hr ?_; (case hd => rfl); (case hg => rfl); (case hr => first | (go_simp; done) | (go_simp; rfl)); intro gX hg W_ hb hbb; have n4 := Aside0.mk (Kd.R_below HV.out hbb); clear HV; have HV := n4; clear n4; have z0 := (blk_cell hb 0).trans rfl; have z1 := (blk_cell hb 1).trans rfl; have z2 := (blk_cell hb 2).trans rfl; have y0 := blk_frozen hb 0; have y1 := blk_frozen hb 1; have y2 := blk_frozen hb 2; have n_ : Aside0 (Mem.Own w W_ [(gT, TV, 31), (gW, #[.bool false, .int .i64 lv, .int .i64 ix], 58), (gX, #[.int .i64 0, .int .i64 0, .slice none 0 0], 35)]) := ⟨OW.out.new hg hb hbb⟩; clear OW hb hbb hg; have OW := n_; clear n_))
      have P0 := OW.out.put 2 rfl 0 (.int .i64 lv) rfl
      have P1 := P0.put 2 rfl 1 (.int .i64 ix) rfl
      have P2 := P1.put 2 rfl 2 (.slice A5 (tileF L lv ix).length c5) rfl
      have V2 := Kd.R_set (Kd.R_set (Kd.R_set HV.out (OW.out.blk 2 rfl) (by decide) 0 (.int .i64 lv)) (P0.blk 2 rfl) (by decide) 1 (.int .i64 ix)) (P1.blk 2 rfl) (by decide) 2 (.slice A5 (tileF L lv ix).length c5)
      go_ret2
      exact ⟨_, _, rfl, V2, P2.below⟩
end Go.Proofs.Ytondnammkcgjpaa.Fg
namespace Go.Proofs.Ytondnammkcgjpaa.Fg
open Go Go.RowKit Go.Shelf Go.Proofs.YtondnammkcgjpaaW.PrintWords Go.Proofs.YtondnammkcgjpaaW.PrintLast Go.Proofs.YtondnammkcgjpaaW.PrintMore
open Go.Proofs.Ytondnammkcgjpaa.ShaP Go.Proofs.Ytondnammkcgjpaa.Mk Go.Proofs.Ytondnammkcgjpaa.Rg Go.Proofs.Ytondnammkcgjpaa.Rng Go.Proofs.Ytondnammkcgjpaa.RgP Go.Proofs.Ytondnammkcgjpaa.Rf Go.Proofs.Ytondnammkcgjpaa.RgL Go.Proofs.Ytondnammkcgjpaa.Til
set_option linter.unusedVariables false
set_option linter.unusedSimpArgs false
set_option maxRecDepth 100000 in
set_option maxHeartbeats 4000000 in
theorem rgive_bundle (A : Option Addr) (c : Nat) (ls : List ByteArray) (s i n : Nat) (w : World) (hs : s ≤ 64) (hls : ls.length = s) (hi : i ≤ 16) (hn : 0 < n) (hw : inTile (i : Int) (cntv s 0) = n) (hfit : 4 * i + n ≤ s) (hc : s ≤ c) (hr : Kd.C Kd.string w A s ls) :
    Calls Try.prog 34 #[.slice A s c, .agg #[.bool true, .int .i64 0, .int .i64 (i : Int)]] w fun e w' => ∃ A' c', e = .returned (.slice A' n c') ∧ Kd.C Kd.string w' A' n (seg ls (4 * i) n) ∧ Below w.heap.size w w' := by
  subst hls
  have OW := Aside0.mk (Mem.Own.nil w)
  have HR := Aside0.mk hr
  have HW := Aside0.mk (fun W => rwidth_c (ls.length : Int) 0 (i : Int) W)
  rw [hw] at HW
  clear hw
  obtain ⟨a, ha⟩ : ∃ a, a = 4 * i := ⟨_, rfl⟩
  obtain ⟨b, hb⟩ : ∃ b, b = a + n := ⟨_, rfl⟩
  rw [← ha] at hfit ⊢
  have hsl := seg_len ls a n (by omega)
  have hseg : (ls.take b).drop a = seg ls a n := by rw [hb]; rfl
  obtain ⟨A9, hcut, hC9, _⟩ := cut_mid A c ls a b (by omega) (by omega) hc
  rw [hseg, hsl] at hcut hC9
  have HC9 := Aside0.mk (fun W h => hC9 W (Kd.C_below HR.out h))
  generalize seg ls a n = sg at *
  have hia : (4 : Int) * (i : Int) = (a : Int) := by omega
  have hab : (a : Int) + (n : Int) = (b : Int) := by omega
  have hwa : wrap64 (a : Int) = (a : Int) := wr_nat _ (by omega)
  have hwb : wrap64 (b : Int) = (b : Int) := wr_nat _ (by omega)
  clear hs hr hi hn hfit hc ha hb hsl hseg hC9
  go_enter Try.func34, Try.ntmps34
  go_wp2_with (first
    | ((with_reducible refine gate_dst (N := 3) rfl ?_); refine box_event ?hg (N := 3) ?hd (cs := #[.bool true, .int .i64 0, .int .i64 (i : Int)]) (t := 58) ?hr ?_; (case hd => rfl); (case hg => rfl); (case hr => first | (go_simp; done) | (go_simp; rfl)); intro gW hg W_ hb hbb; have j0 := (blk_cell hb 0).trans rfl; have j1 := (blk_cell hb 1).trans rfl; have j2 := (blk_cell hb 2).trans rfl; have n_ : Aside0 (Mem.Own w W_ [(gW, #[.bool true, .int .i64 0, .int .i64 (i : Int)], 58)]) := ⟨OW.out.new hg hb hbb⟩; clear OW hb hbb hg; have OW := n_; clear n_)
    | (go_at_call 25; (with_reducible refine (HW.out _).mono ?_); rintro e w_ ⟨rfl, rfl⟩))
  go_ret
  exact ⟨_, _, rfl, HC9.out _ OW.out.below, OW.out.below⟩
set_option maxRecDepth 100000 in
set_option maxHeartbeats 8000000 in
theorem rgive_tile (A : Option Addr) (c : Nat) (ls : List ByteArray) (s k i m : Nat) (w : World) (hs : s ≤ 64) (hls : ls.length = s) (hsz : ∀ x ∈ ls, x.size ≤ 10000) (hk : k < 4) (hi : i ≤ 16) (hm : 0 < m) (hm4 : m ≤ 4)
    (hw : inTile (i : Int) (cntv s k) = m) (hfit : 4 * i + m ≤ s / 4 ^ k) (hc : s ≤ c) (hr : Kd.C Kd.string w A s ls) :
    Calls Try.prog 34 #[.slice A s c, .agg #[.bool false, .int .i64 (k : Int), .int .i64 (i : Int)]] w fun e w' => ∃ A' c', e = .returned (.slice A' m c') ∧ SR w' w.heap.size (.slice A' m c') (tileF (leavesF ls) k i) ∧ Below w.heap.size w w' := by
  subst hls
  have OW := Aside0.mk (Mem.Own.nil w)
  have HR := Aside0.mk hr
  have HW := Aside0.mk (fun W => rwidth_c (ls.length : Int) (k : Int) (i : Int) W)
  rw [hw] at HW
  have HLV := Aside0.mk (fun W h => leaves_c A c ls W (by omega) hsz h)
  have hll := leaves_len ls
  have h32 := leaves_32 ls
  have e0 : tileF (leavesF ls) k i = (List.range m).map fun t => hashF (leavesF ls) k (4 * i + t) := by
    unfold tileF
    rw [hll, if_neg (by rw [hw]; omega), hw]
    rfl
  rw [e0]
  have hL : (leavesF ls).length ≤ 64 := by rw [hll]; exact hs
  rw [← hll] at hfit
  generalize leavesF ls = L at *
  have HH := Aside0.mk (fun (t : Nat) (ht : t < m) (A8 : Option Addr) (c8 : Nat) (h8 : L.length ≤ c8) (W : World) h => rhash_c A8 c8 L k (4 * i + t) W hk hL h32 (by
    have h1 : (4 * i + t + 1) * 4 ^ k ≤ L.length := Nat.le_trans (Nat.mul_le_mul_right _ (by omega : 4 * i + t + 1 ≤ L.length / 4 ^ k)) (Nat.div_mul_le_self _ _)
    rw [Nat.add_mul, Nat.one_mul] at h1
    exact h1) h8 h)
  have hm4i : (m : Int) ≤ 4 := by omega
  have hki : (k : Int) < 4 := by omega
  have hii : (i : Int) ≤ 16 := by omega
  have hw4 : wrap64 (4 * (i : Int)) = 4 * (i : Int) := by have := wr_nat (4 * i) (by omega); rw [← show ((4 * i : Nat) : Int) = 4 * (i : Int) by omega]; exact this
  clear hw hs hr hi hfit hc hll h32 hsz hk hm hm4 e0 hL
  go_enter Try.func34, Try.ntmps34
  go_wp2_with (first
    | ((with_reducible refine gate_dst (N := 3) rfl ?_); refine box_event ?hg (N := 3) ?hd (cs := #[.bool false, .int .i64 (k : Int), .int .i64 (i : Int)]) (t := 58) ?hr ?_; (case hd => rfl); (case hg => rfl); (case hr => first | (go_simp; done) | (go_simp; rfl)); intro gW hg W_ hb hbb; have j0 := (blk_cell hb 0).trans rfl; have j1 := (blk_cell hb 1).trans rfl; have j2 := (blk_cell hb 2).trans rfl; have n_ : Aside0 (Mem.Own w W_ [(gW, #[.bool false, .int .i64 (k : Int), .int .i64 (i : Int)], 58)]) := ⟨OW.out.new hg hb hbb⟩; clear OW hb hbb hg; have OW := n_; clear n_)
    | (go_at_call 25; (with_reducible refine (HW.out _).mono ?_); rintro e w_ ⟨rfl, rfl⟩)
    | (go_at_call 17; (with_reducible refine (HLV.out _ (Kd.C_below HR.out OW.out.below)).mono ?_); rintro e wz ⟨v4, rfl, hr4, hB⟩; obtain ⟨A8, c8, rfl, h8, _⟩ := Kd.R_reads hr4; have HC8 := Aside0.mk (Kd.R_lower hr4 OW.out.size); have H8 := Aside0.mk h8; have n_ := Aside0.mk (OW.out.step hB); clear OW hB hr4 h8 j0 j1 j2; have OW := n_; clear n_))
  have OZ := Aside0.mk OW.out
  clear OW
  go_loopw [7, 8] (fun v7 v8 wr => ∃ (t : Nat) (A3 : Option Addr) (c3 : Nat), v8 = .int .i64 t ∧ v7 = .slice A3 t c3 ∧ t ≤ m ∧ Aside0 (SR wr wz.heap.size (.slice A3 t c3) ((List.range t).map fun t => hashF L k (4 * i + t))) ∧ Aside0 (Below wz.heap.size wz wr)) (fun _ v8 _ => m - (intOf v8).toNat)
  case atStart => exact ⟨0, none, 0, rfl, rfl, Nat.zero_le _, ⟨Kd.R_nil _ _ _ _ _⟩, ⟨Below.refl _ _⟩⟩
  case round =>
    obtain ⟨t, A3, c3, rfl, rfl, ht, HO, HB⟩ := hrel
    by_cases h1 : t < m
    · have h1i : (t : Int) < (m : Int) := by omega
      obtain ⟨q, hq⟩ : ∃ q, 4 * i + t = q := ⟨_, rfl⟩
      have HQ := HH.out t h1
      rw [hq] at HQ
      have HHQ := Aside0.mk HQ
      have HT : Aside0 (((List.range (t + 1)).map fun t => hashF L k (4 * i + t)) = ((List.range t).map fun t => hashF L k (4 * i + t)) ++ [hashF L k q]) := ⟨by rw [List.range_succ, List.map_append, ← hq]; rfl⟩
      have hlt : ((List.range t).map fun t => hashF L k (4 * i + t)).length = t := by rw [List.length_map, List.length_range]
      have HLT := Aside0.mk hlt
      generalize ((List.range t).map fun t => hashF L k (4 * i + t)) = ol at *
      generalize hashF L k q = x at *
      have hqi : 4 * (i : Int) + (t : Int) = (q : Int) := by omega
      have e10 : wrap64 (q : Int) = (q : Int) := wr_nat _ (by omega)
      have O1 := Aside0.mk (OZ.out.step HB.out)
      have C8 := Aside0.mk (Kd.R_below HC8.out HB.out)
      have j1 := (O1.out.cell 0 rfl 1).trans rfl
      have j2 := (O1.out.cell 0 rfl 2).trans rfl
      clear hlt HQ hq
      go_wp2_with (first
        | (go_at_call 26; (with_reducible refine (HHQ.out A8 c8 H8.out _ (Kd.R_reads' C8.out).2.2).mono ?_); rintro e w1 ⟨rfl, hB⟩; have HB1 := Aside0.mk (below_step HB.out hB); have HO1 := Aside0.mk (Kd.R_below HO.out hB); clear hB HB HO j1 j2 O1 C8)
        | ((with_reducible refine gate_builtin (b := .append) (xs := #[.tmp 39, .tmp 51]) rfl ?_); at_builtin; refine Kd.R_append (P := Try.prog) Kd.string (w0 := wz) (W := w1) wz.heap.size rfl (.tmp 39) (.tmp 51) 22 9 (.string ⟨#[]⟩) 16 rfl Try.underlying22 info_str rfl (by decide) (by decide) (.slice A3 t c3) ol x [.string x] (fun _ => True) (fun _ => False) rfl rfl rfl (fun _ h => h.elim) (fun _ _ => trivial) HO1.out HB1.out HB1.out.size (by rw [HLT.out]; omega) ?_; intro v2 w2 hr2 hb2 hg2 hat2; obtain ⟨A4, c4, e4⟩ := Kd.R_slice hr2; have e5 : (ol ++ [x]).length = t + 1 := (by rw [List.length_append, HLT.out]; rfl); rw [e5] at e4; subst e4; have HR2 := Aside0.mk hr2; have HB2 := Aside0.mk hb2; clear hr2 hb2 hg2 hat2 e5))
      go_roundw
      case rel => exact ⟨t + 1, A4, c4, by go_num, rfl, by omega, by rw [HT.out]; exact HR2, HB2⟩
      case measure => simp [intOf]; omega
    · have h1i : ¬ (t : Int) < (m : Int) := by omega
      obtain rfl : t = m := by omega
      go_wp2
      go_ret
      exact ⟨_, _, rfl, Kd.R_lower HO.out OZ.out.size, below_step OZ.out.below HB.out⟩
end Go.Proofs.Ytondnammkcgjpaa.Fg
namespace Go.Proofs.Ytondnammkcgjpaa.Mp
open Go Go.RowKit Go.MapKept
open Go.Maps (Keyed)
open Go.ChangeMaps (setBlock heap_setBlock_same heap_setBlock_other)
set_option linter.unusedVariables false
set_option linter.unusedSimpArgs false
abbrev Cont := Value → Option Value
open Classical in
/-- the content with one key's element otherwise -/
noncomputable def put (f : Cont) (k v : Value) : Cont := fun x => if x = k then some v else f x
open Classical in
noncomputable def drop (f : Cont) (k : Value) : Cont := fun x => if x = k then none else f x
theorem put_self (f : Cont) (k v : Value) : put f k v k = some v := if_pos rfl
theorem put_ne (f : Cont) {k x : Value} (v : Value) (h : x ≠ k) : put f k v x = f x := if_neg h
theorem drop_self (f : Cont) (k : Value) : drop f k k = none := if_pos rfl
theorem drop_ne (f : Cont) {k x : Value} (h : x ≠ k) : drop f k x = f x := if_neg h
/-- the entries es have just the content f -/
structure Ents (P : Program) (k : TypeId) (es : Array MapEntry) (clock : Nat) (f : Cont) : Prop where
  st : Stamped es clock
  ks : ∀ e, e ∈ es.toList → (∃ l, keyOf P k e.key = some l) ∧ f e.key = some e.val
  all : ∀ x v, f x = some v → ∃ e, e ∈ es.toList ∧ e.key = x
/-- block b is a map whose content is f -/
def IMap (w : World) (P : Program) (k : TypeId) (b : Nat) (f : Cont) : Prop := ∃ es clock, w.heap[b]? = some (.map es clock) ∧ Ents P k es clock f
variable {P : Program} {k t e ty : TypeId} {w w2 : World} {b : Nat} {f : Cont}
theorem IMap.made (w : World) (P : Program) (k : TypeId) : IMap (w.alloc (.map #[] 0)) P k w.heap.size (fun _ => none) :=
  ⟨#[], 0, (MapKept.heap_alloc w _).1, stamped_empty 0, fun e h => by simp at h, fun x v h => by cases h⟩
theorem IMap.lt (h : IMap w P k b f) : b < w.heap.size := by
  obtain ⟨es, clock, hb, _⟩ := h
  exact (Array.getElem?_eq_some_iff.1 hb).1
theorem IMap.block (h : IMap w P k b f) (e : w2.heap[b]? = w.heap[b]?) : IMap w2 P k b f := by
  obtain ⟨es, clock, hb, r⟩ := h
  exact ⟨es, clock, e.trans hb, r⟩
theorem IMap.below {n : Nat} (h : IMap w P k b f) (hB : Below n w w2) (hn : b < n) : IMap w2 P k b f := h.block (hB.block b hn)
theorem IMap.below' (h : IMap w P k b f) (hB : Below w.heap.size w w2) : IMap w2 P k b f := h.below hB h.lt
theorem IMap.set (h : IMap w P k b f) {p : Addr} (hp : b ≠ p.block) (v : Value) : IMap (w.setCell p v) P k b f := h.block (RowKit.Below.heap_setCell _ _ _ _ hp)
theorem IMap.set_cell (h : IMap w P k b f) {p : Addr} {v0 : Value} (hc : w.cell? p = some v0) (v : Value) : IMap (w.setCell p v) P k b f := h.set (fun hh => by
  obtain ⟨es, clock, hb, _⟩ := h
  rw [hh] at hb
  unfold World.cell? at hc
  rw [hb] at hc
  cases hc) v
theorem IMap.drew (h : IMap w P k b f) : IMap w.drew P k b f := h
theorem IMap.grown {row : Option Nat} (h : IMap w P k b f) (hg : w.grownBy w2 row) (hne : some b ≠ row) : IMap w2 P k b f := h.block (hg.block b h.lt hne)
theorem IMap.turned {c : Nat} (h : IMap w P k b f) (hg : w.mapTurned w2 c) (hne : b ≠ c) : IMap w2 P k b f := h.grown hg.grown (fun e => hne (Option.some.inj e))
/-- looked up -/
theorem IMap.look (h : IMap w P k b f) (c : Bool) (K : Keyed P k) (ht : P.underlying t = some (.map k e)) {z : Value} (hz : (zeroValue e).run P w = .ok z w) {key : Value} {kl : Lit} (hkey : keyOf P k key = some kl) :
    (Instr.lookup t (.map (some b)) key c).run P w = .ok (if c then .tuple #[(f key).getD z, .bool (f key).isSome] else (f key).getD z) w := by
  obtain ⟨es, clock, hb, st, ks, all⟩ := h
  rcases K.find w hkey es.toList (fun e he => (ks e he).1) with ⟨h1, h2⟩ | ⟨j, e0, h1, h2, h3⟩
  · have hf : f key = none := by
      cases hv : f key with
      | none => rfl
      | some v => obtain ⟨e, he, hek⟩ := all key v hv; exact absurd hek (h2 e he)
    rw [hf]
    simp [Instr.lookup, run_underlying ht, MapKept.run_getObj_map hb, K.check w _ hkey, h1, hz, Result.andThen]
  · have hf : f key = some e0.val := by rw [← h3]; exact (ks e0 (List.mem_of_getElem? h2)).2
    rw [hf]
    simp [Instr.lookup, run_underlying ht, MapKept.run_getObj_map hb, K.check w _ hkey, h1, Result.andThen]
/-- stored -/
theorem IMap.store (h : IMap w P k b f) (K : Keyed P k) (ht : P.underlying t = some (.map k e)) {key val : Value} {kl : Lit} (hkey : keyOf P k key = some kl) :
    ∃ w2, (Instr.mapUpdate t (.map (some b)) key val).run P w = .ok () w2 ∧ IMap w2 P k b (put f key val) ∧ w.mapTurned w2 b := by
  obtain ⟨es, clock, hb, st, ks, all⟩ := h
  rcases K.find w hkey es.toList (fun e he => (ks e he).1) with ⟨h1, h2⟩ | ⟨j, e0, h1, h2, h3⟩
  · refine ⟨_, ?_, ⟨es.push ⟨key, val, clock⟩, clock + 1, heap_setBlock_same hb _, stamped_push st h2, fun x hx => ?_, fun x v hv => ?_⟩, ⟨es, clock, _, _, hb, rfl⟩⟩
    · simp [Instr.mapUpdate, run_underlying ht, MapKept.run_getObj_map hb, K.check w false hkey, h1, MapKept.run_setObj_map _ hb, Result.andThen, setBlock]
    · simp only [Array.toList_push, List.mem_append, List.mem_singleton] at hx
      rcases hx with hx | rfl
      · exact ⟨(ks x hx).1, by rw [put_ne _ _ (h2 x hx)]; exact (ks x hx).2⟩
      · exact ⟨⟨_, hkey⟩, put_self _ _ _⟩
    · by_cases hxk : x = key
      · exact ⟨⟨key, val, clock⟩, by simp, hxk.symm⟩
      · rw [put_ne _ _ hxk] at hv
        obtain ⟨y, hy, hyk⟩ := all x v hv
        exact ⟨y, by simp [hy], hyk⟩
  · have hj : es[j]? = some e0 := by simpa using h2
    have hlist : (es.modify j (fun e' => { e' with key := key, val := val })).toList = es.toList.set j { e0 with key := key, val := val } := by rw [Array.toList_modify, Go.ChangeMaps.modify_eq_set _ _ _ _ h2]
    have hkeyf : ∀ e', es[j]? = some e' → ({ e' with key := key, val := val } : MapEntry).key = e'.key := fun e' he' => by rw [hj] at he'; cases he'; exact h3.symm
    have hpw := ((stamped_iff es clock).1 st).2.2
    have hjl : j < es.toList.length := (List.getElem?_eq_some_iff.1 h2).1
    refine ⟨_, ?_, ⟨es.modify j (fun e' => { e' with key := key, val := val }), clock, heap_setBlock_same hb _, stamped_modify st _ _ (fun _ _ => rfl) (fun e' _ he' => hkeyf e' he'), fun x hx => ?_, fun x v hv => ?_⟩, ⟨es, clock, _, _, hb, rfl⟩⟩
    · simp [Instr.mapUpdate, run_underlying ht, MapKept.run_getObj_map hb, K.check w false hkey, h1, hj, h3, K.stays w hkey, MapKept.run_setObj_map _ hb, Result.andThen, setBlock]
    · rw [hlist] at hx
      obtain ⟨i, hi, ex⟩ := List.getElem_of_mem hx
      rw [List.getElem_set] at ex
      by_cases hij : j = i
      · rw [if_pos hij] at ex
        subst ex
        exact ⟨⟨_, hkey⟩, put_self _ _ _⟩
      · rw [if_neg hij] at ex
        have hi' : i < es.toList.length := by simpa using hi
        have hxm : x ∈ es.toList := ex ▸ List.getElem_mem hi'
        have hne : x.key ≠ key := fun hh => by
          have ej : es.toList[j] = e0 := (List.getElem?_eq_some_iff.1 h2).2
          have ejk : es.toList[j].key = es.toList[i].key := (congrArg MapEntry.key ej).trans (h3.trans (hh.symm.trans (congrArg MapEntry.key ex).symm))
          rcases Nat.lt_or_gt_of_ne hij with q | q
          · exact List.pairwise_iff_getElem.1 hpw j i hjl hi' q ejk
          · exact List.pairwise_iff_getElem.1 hpw i j hi' hjl q ejk.symm
        exact ⟨(ks x hxm).1, by rw [put_ne _ _ hne]; exact (ks x hxm).2⟩
    · rw [hlist]
      by_cases hxk : x = key
      · exact ⟨{ e0 with key := key, val := val }, List.mem_iff_getElem.2 ⟨j, by simpa using hjl, by simp⟩, hxk.symm⟩
      · rw [put_ne _ _ hxk] at hv
        obtain ⟨y, hy, hyk⟩ := all x v hv
        obtain ⟨i, hi, ey⟩ := List.getElem_of_mem hy
        have hij : j ≠ i := fun hh => by
          subst hh
          have : es.toList[j] = e0 := (List.getElem?_eq_some_iff.1 h2).2
          rw [this] at ey
          exact hxk (by rw [← hyk, ← ey, h3])
        exact ⟨y, List.mem_iff_getElem.2 ⟨i, by simpa using hi, by rw [List.getElem_set_ne hij]; exact ey⟩, hyk⟩
/-- taken out -/
theorem IMap.del (h : IMap w P k b f) (K : Keyed P k) (ht : P.underlying t = some (.map k e)) {key : Value} {kl : Lit} (hkey : keyOf P k key = some kl) (ty : TypeId) :
    ∃ w2, (Builtin.delete_ #[t, k] ty #[.map (some b), key]).run P w = .ok (.tuple #[]) w2 ∧ IMap w2 P k b (drop f key) ∧ w.mapTurned w2 b := by
  obtain ⟨es, clock, hb, st, ks, all⟩ := h
  rcases K.find w hkey es.toList (fun e he => (ks e he).1) with ⟨h1, h2⟩ | ⟨j, e0, h1, h2, h3⟩
  · refine ⟨_, ?_, ⟨es, clock, heap_setBlock_same hb _, st, fun x hx => ⟨(ks x hx).1, by rw [drop_ne _ (h2 x hx)]; exact (ks x hx).2⟩, fun x v hv => ?_⟩, ⟨es, clock, _, _, hb, rfl⟩⟩
    · simp [Builtin.delete_, run_underlying ht, MapKept.run_getObj_map hb, K.check w _ hkey, h1, MapKept.run_setObj_map _ hb, Result.andThen, setBlock]
    · by_cases hxk : x = key
      · rw [hxk, drop_self] at hv; cases hv
      · rw [drop_ne _ hxk] at hv
        exact all x v hv
  · have hpw := ((stamped_iff es clock).1 st).2.2
    have hjl : j < es.toList.length := (List.getElem?_eq_some_iff.1 h2).1
    have hjs : j < es.size := by simpa using hjl
    have ej : es.toList[j] = e0 := (List.getElem?_eq_some_iff.1 h2).2
    have hsub : (es.eraseIdxIfInBounds j).toList = es.toList.eraseIdx j := by
      unfold Array.eraseIdxIfInBounds
      rw [dif_pos hjs]
      simp
    refine ⟨_, ?_, ⟨es.eraseIdxIfInBounds j, clock, heap_setBlock_same hb _, stamped_erase st j, fun x hx => ?_, fun x v hv => ?_⟩, ⟨es, clock, _, _, hb, rfl⟩⟩
    · simp [Builtin.delete_, run_underlying ht, MapKept.run_getObj_map hb, K.check w _ hkey, h1, MapKept.run_setObj_map _ hb, Result.andThen, setBlock]
    · rw [hsub] at hx
      obtain ⟨i, hij, hi⟩ := List.mem_eraseIdx_iff_getElem?.1 hx
      have hi' : i < es.toList.length := (List.getElem?_eq_some_iff.1 hi).1
      have ei : es.toList[i] = x := (List.getElem?_eq_some_iff.1 hi).2
      have hne : x.key ≠ key := fun hh => by
        have ejk : es.toList[j].key = es.toList[i].key := (congrArg MapEntry.key ej).trans (h3.trans (hh.symm.trans (congrArg MapEntry.key ei).symm))
        rcases Nat.lt_or_gt_of_ne hij with q | q
        · exact List.pairwise_iff_getElem.1 hpw i j hi' hjl q ejk.symm
        · exact List.pairwise_iff_getElem.1 hpw j i hjl hi' q ejk
      have hxm := List.mem_of_getElem? hi
      exact ⟨(ks x hxm).1, by rw [drop_ne _ hne]; exact (ks x hxm).2⟩
    · by_cases hxk : x = key
      · rw [hxk, drop_self] at hv; cases hv
      · rw [drop_ne _ hxk] at hv
        obtain ⟨y, hy, hyk⟩ := all x v hv
        obtain ⟨i, hi, ey⟩ := List.getElem_of_mem hy
        refine ⟨y, ?_, hyk⟩
        rw [hsub]
        refine List.mem_eraseIdx_iff_getElem?.2 ⟨i, fun hh => ?_, by rw [List.getElem?_eq_getElem hi, ey]⟩
        subst hh
        rw [ej] at ey
        exact hxk (by rw [← hyk, ← ey, h3])
/-- at the operation: a look-up -/
theorem wpList_look {ops : Array Oper} {rest : List Oper} {o : Oper} {a : Act} {Q : Exit → Act → World → Prop} (hg : o.guard = none) (m x : Operand) (t : TypeId) (c : Bool) (hop : o.op = Op.lookup t m x c)
    (k e : TypeId) (K : Keyed P k) (ht : P.underlying t = some (.map k e)) (z : Value) (hz : (zeroValue e).run P w = .ok z w) (b : Nat) (f : Cont) (hm : a.eval m = .map (some b)) (hM : IMap w P k b f) (key : Value) (kl : Lit) (hx : a.eval x = key) (hkey : keyOf P k key = some kl)
    (hK : wpList P ops Q rest (a.put o.dst (if c then .tuple #[(f key).getD z, .bool (f key).isSome] else (f key).getD z)) w) : wpList P ops Q (o :: rest) a w := by
  refine wpList_plain hg fun K' hK' => ?_
  have hrun := hM.look c K ht hz hkey
  unfold Oper.wp
  simp [execOp, hop, hm, hx, hrun, Result.andThen]
  exact hK' _ _ hK
/-- at the operation: a store -/
theorem wpList_store {ops : Array Oper} {rest : List Oper} {o : Oper} {a : Act} {Q : Exit → Act → World → Prop} (hg : o.guard = none) (m x v : Operand) (t : TypeId) (hop : o.op = Op.mapUpdate t m x v)
    (k e : TypeId) (K : Keyed P k) (ht : P.underlying t = some (.map k e)) (b : Nat) (f : Cont) (hm : a.eval m = .map (some b)) (hM : IMap w P k b f) (key val : Value) (kl : Lit) (hx : a.eval x = key) (hv : a.eval v = val) (hkey : keyOf P k key = some kl)
    (hK : ∀ w2, IMap w2 P k b (put f key val) → w.mapTurned w2 b → wpList P ops Q rest (a.put o.dst undef) w2) : wpList P ops Q (o :: rest) a w := by
  refine wpList_plain hg fun K' hK' => ?_
  obtain ⟨w2, hrun, r1, r2⟩ := hM.store (val := val) K ht hkey
  unfold Oper.wp
  simp [execOp, hop, hm, hx, hv, hrun, Result.andThen]
  exact hK' _ _ (hK w2 r1 r2)
end Go.Proofs.Ytondnammkcgjpaa.Mp
namespace Go.Proofs.Ytondnammkcgjpaa.Ft
open Go Go.RowKit Go.Shelf Go.Proofs.YtondnammkcgjpaaW.PrintWords Go.Proofs.YtondnammkcgjpaaW.PrintLast Go.Proofs.YtondnammkcgjpaaW.PrintMore Go.Proofs.Ytondnammkcgjpaa.Mp
open Go.Proofs.Ytondnammkcgjpaa.ShaP Go.Proofs.Ytondnammkcgjpaa.Mk Go.Proofs.Ytondnammkcgjpaa.Rg Go.Proofs.Ytondnammkcgjpaa.RgP Go.Proofs.Ytondnammkcgjpaa.Rf Go.Proofs.Ytondnammkcgjpaa.Til Go.Proofs.Ytondnammkcgjpaa.Fg
set_option linter.unusedVariables false
set_option linter.unusedSimpArgs false
/-- what kind of block it is -/
def tag (W : World) (k : Nat) : Option Nat := match W.heap[k]? with | some (.cells _ t _) => some t | some (.map _ _) => some 1000000 | _ => none
theorem tag_cells {W : World} {k t : Nat} {cs : Array Value} {fr : Nat × Nat} (h : W.heap[k]? = some (.cells cs t fr)) : tag W k = some t := by unfold tag; rw [h]
theorem ne_tag {W : World} {a b s t : Nat} (ha : tag W a = some s) (hb : tag W b = some t) (h : s ≠ t) : a ≠ b := fun e => by
  subst e; rw [ha] at hb; exact h (Option.some.inj hb)
theorem tag_map {W : World} {P : Program} {k : TypeId} {b : Nat} {f : Cont} (h : IMap W P k b f) : tag W b = some 1000000 := by
  obtain ⟨es, clock, hb, _⟩ := h
  unfold tag; rw [hb]
theorem tag_row {α : Type} {kd : Kd α} {e base : Nat} {ok : Nat → Prop} {W : World} {v : Value} {xs : List α} (h : kd.R e W base ok v xs) (k : Nat) (hk : v.ownBlock = some k) : tag W k = some e := by
  obtain ⟨inner, ho⟩ := Kd.R_own h
  obtain ⟨cells, hc⟩ := own_typed ho k hk
  exact tag_cells hc
theorem lt_row {α : Type} {kd : Kd α} {e base : Nat} {ok : Nat → Prop} {W : World} {v : Value} {xs : List α} (h : kd.R e W base ok v xs) (k : Nat) (hk : v.ownBlock = some k) : k < W.heap.size := by
  obtain ⟨inner, ho⟩ := Kd.R_own h
  exact own_lt ho k hk
theorem only_s {e base : Nat} {W : World} {ok : Nat → Prop} {v : Value} {xs : List ByteArray} (h : Kd.string.R e W base ok v xs) : Kd.string.R e W base (fun k => v.ownBlock = some k) v xs := ⟨fun k hk => hk, h.2.imp_ (fun _ _ hp => hp)⟩
theorem sr_keep {base : Nat} {W W1 : World} {v : Value} {l : List ByteArray} (h : SR W base v l) (hk : ∀ k, k < W.heap.size → tag W k = some 9 → W1.heap[k]? = W.heap[k]?) : SR W1 base v l :=
  Kd.R_mono (Kd.R_step (only_s h) (fun k ho hlt => hk k hlt (tag_row h k ho))) (fun _ _ => trivial)
/-- what was fetched -/
structure FS where
  size : Nat
  root : ByteArray
  tiles : Int × Int → Option (List ByteArray)
  bund : Int → Option (List ByteArray)
  asked : Int
def idV (x : Int × Int) : Value := .agg #[.int .i64 x.1, .int .i64 x.2]
def inV (x : Int) : Value := .int .i64 x
theorem idV_inj {x y : Int × Int} (h : idV x = idV y) : x = y := by
  obtain ⟨a, b⟩ := x; obtain ⟨c, d⟩ := y
  simp [idV] at h
  exact Prod.ext h.1 h.2
theorem inV_inj {x y : Int} (h : inV x = inV y) : x = y := by simpa [inV] using h
/-- a map of lists of texts, each a row of its own -/
def Rows {K : Type} (W : World) (base gm : Nat) (k : TypeId) (enc : K → Value) (F : K → Option (List ByteArray)) : Prop :=
  ∃ f : Cont, IMap W Try.prog k gm f ∧ ∀ x, (F x = none → f (enc x) = none) ∧ ∀ l, F x = some l → ∃ v, f (enc x) = some v ∧ SR W base v l ∧ 0 < l.length ∧ l.length ≤ 4
variable {K : Type} {W W1 W2 : World} {base g gt gb gm : Nat} {k : TypeId} {enc : K → Value} {F : K → Option (List ByteArray)}
theorem Rows.tag (h : Rows W base gm k enc F) : tag W gm = some 1000000 := by obtain ⟨f, h1, _⟩ := h; exact tag_map h1
theorem Rows.lt (h : Rows W base gm k enc F) : gm < W.heap.size := by obtain ⟨f, h1, _⟩ := h; exact h1.lt
theorem Rows.keep (h : Rows W base gm k enc F) (hg : W1.heap[gm]? = W.heap[gm]?) (hk : ∀ k, k < W.heap.size → Ft.tag W k = some 9 → W1.heap[k]? = W.heap[k]?) : Rows W1 base gm k enc F := by
  obtain ⟨f, h1, h2⟩ := h
  refine ⟨f, h1.block hg, fun x => ⟨(h2 x).1, fun l hl => ?_⟩⟩
  obtain ⟨v, e, hr, hn⟩ := (h2 x).2 l hl
  exact ⟨v, e, sr_keep hr hk, hn⟩
open Classical in
noncomputable def upd (F : K → Option (List ByteArray)) (x : K) (l : Option (List ByteArray)) : K → Option (List ByteArray) := fun y => if y = x then l else F y
theorem upd_self (F : K → Option (List ByteArray)) (x : K) (l : Option (List ByteArray)) : upd F x l x = l := if_pos rfl
theorem upd_ne (F : K → Option (List ByteArray)) {x y : K} (l : Option (List ByteArray)) (h : y ≠ x) : upd F x l y = F y := if_neg h
theorem turned_other (hT : W.mapTurned W1 gm) (ht : Ft.tag W gm = some 1000000) : ∀ k, k < W.heap.size → Ft.tag W k = some 9 → W1.heap[k]? = W.heap[k]? := fun k hk htk => hT.grown.block k hk (fun e => by
  cases e; rw [ht] at htk; exact absurd (Option.some.inj htk) (by decide))
/-- a row of texts is stored -/
theorem Rows.put (hinj : ∀ {x y : K}, enc x = enc y → x = y) (h : Rows W base gm k enc F) (x : K) (v : Value) (l : List ByteArray) (hv : SR W base v l) (h0 : 0 < l.length) (h4 : l.length ≤ 4)
    (hT : W.mapTurned W1 gm) (hm : ∀ f, IMap W Try.prog k gm f → IMap W1 Try.prog k gm (Mp.put f (enc x) v)) : Rows W1 base gm k enc (upd F x (some l)) := by
  have hk := turned_other hT h.tag
  obtain ⟨f, h1, h2⟩ := h
  refine ⟨_, hm f h1, fun y => ?_⟩
  by_cases e : y = x
  · subst e
    rw [upd_self, put_self]
    exact ⟨fun q => (by cases q), fun l' q => by cases q; exact ⟨v, rfl, sr_keep hv hk, h0, h4⟩⟩
  · rw [upd_ne _ _ e, put_ne _ _ (fun q => e (hinj q))]
    refine ⟨(h2 y).1, fun l' q => ?_⟩
    obtain ⟨v', e1, hr, hn⟩ := (h2 y).2 l' q
    exact ⟨v', e1, sr_keep hr hk, hn⟩
theorem Rows.drop (hinj : ∀ {x y : K}, enc x = enc y → x = y) (h : Rows W base gm k enc F) (x : K) (hT : W.mapTurned W1 gm) (hm : ∀ f, IMap W Try.prog k gm f → IMap W1 Try.prog k gm (Mp.drop f (enc x))) : Rows W1 base gm k enc (upd F x none) := by
  have hk := turned_other hT h.tag
  obtain ⟨f, h1, h2⟩ := h
  refine ⟨_, hm f h1, fun y => ?_⟩
  by_cases e : y = x
  · subst e
    rw [upd_self, drop_self]
    exact ⟨fun q => rfl, fun l' q => by cases q⟩
  · rw [upd_ne _ _ e, drop_ne _ (fun q => e (hinj q))]
    refine ⟨(h2 y).1, fun l' q => ?_⟩
    obtain ⟨v', e1, hr, hn⟩ := (h2 y).2 l' q
    exact ⟨v', e1, sr_keep hr hk, hn⟩
/-- the block's cells -/
def fcs (s : FS) (gt gb : Nat) : Array Value := TV ++ #[.int .i64 (s.size : Int), .string s.root, .map (some gt), .map (some gb), .int .i64 s.asked]
theorem fcs_get (s : FS) (gt gb i : Nat) : (fcs s gt gb)[72 + i]? = (#[.int .i64 (s.size : Int), .string s.root, .map (some gt), .map (some gb), .int .i64 s.asked] : Array Value)[i]? := by
  unfold fcs
  rw [Array.getElem?_append_right (by rw [tv_size]; omega), tv_size, Nat.add_sub_cancel_left]
theorem fcs_set (s : FS) (gt gb : Nat) (a : Int) : (fcs s gt gb).setIfInBounds 76 (.int .i64 a) = fcs { s with asked := a } gt gb := by
  unfold fcs
  rw [Array.setIfInBounds_append_right (by rw [tv_size]; omega), tv_size]
  rfl
/-- block g of W is what was fetched: its maps lie in gt and gb -/
structure IsF (base : Nat) (W : World) (g gt gb : Nat) (s : FS) : Prop where
  blk : W.heap[g]? = some (.cells (fcs s gt gb) 114 (0, 0))
  tl : Rows W base gt 24 idV s.tiles
  bn : Rows W base gb 3 inV s.bund
  ne : gt ≠ gb
  ge : base ≤ g ∧ base ≤ gt ∧ base ≤ gb
  sz : s.size ≤ 64
variable {s : FS}
theorem IsF.tg (h : IsF base W g gt gb s) : tag W g = some 114 := tag_cells h.blk
theorem IsF.keep (h : IsF base W g gt gb s) (hk : ∀ k, k < W.heap.size → (k = g ∨ k = gt ∨ k = gb ∨ tag W k = some 9) → W1.heap[k]? = W.heap[k]?) : IsF base W1 g gt gb s where
  blk := (hk g (blk_lt h.blk) (.inl rfl)).trans h.blk
  tl := h.tl.keep (hk gt h.tl.lt (.inr (.inl rfl))) (fun k h1 h2 => hk k h1 (.inr (.inr (.inr h2))))
  bn := h.bn.keep (hk gb h.bn.lt (.inr (.inr (.inl rfl)))) (fun k h1 h2 => hk k h1 (.inr (.inr (.inr h2))))
  ne := h.ne
  ge := h.ge
  sz := h.sz
theorem IsF.below (h : IsF base W g gt gb s) (hB : Below W.heap.size W W1) : IsF base W1 g gt gb s := h.keep (fun k hk _ => hB.block k hk)
theorem IsF.drew (h : IsF base W g gt gb s) : IsF base W.drew g gt gb s := h.keep (fun _ _ _ => rfl)
theorem IsF.setOff (h : IsF base W g gt gb s) {p : Addr} {t : Nat} (hp : tag W p.block = some t) (h1 : t ≠ 114) (h2 : t ≠ 1000000) (h3 : t ≠ 9) (v : Value) : IsF base (W.setCell p v) g gt gb s :=
  h.keep (fun k _ hf => Below.heap_setCell _ _ _ k (fun e => by
    subst e
    rcases hf with e | e | e | e
    · rw [e, h.tg] at hp; exact h1 (Option.some.inj hp).symm
    · rw [e, h.tl.tag] at hp; exact h2 (Option.some.inj hp).symm
    · rw [e, h.bn.tag] at hp; exact h2 (Option.some.inj hp).symm
    · rw [e] at hp; exact h3 (Option.some.inj hp).symm))
theorem IsF.cell (h : IsF base W g gt gb s) (i : Nat) : W.cell? ⟨g, 72 + i, none⟩ = (#[.int .i64 (s.size : Int), .string s.root, .map (some gt), .map (some gb), .int .i64 s.asked] : Array Value)[i]? := (blk_cell h.blk (72 + i)).trans (fcs_get s gt gb i)
/-- its own blocks -/
def Foot (g gt gb k : Nat) : Prop := k = g ∨ k = gt ∨ k = gb
/-- what a call may turn: the blocks of F, and new ones -/
structure Turn (F : Nat → Prop) (W W' : World) : Prop where
  os : W'.os = W.os
  tape : W'.tape = W.tape
  output : W'.output = W.output
  size : W.heap.size ≤ W'.heap.size
  keep : ∀ k, k < W.heap.size → ¬ F k → W'.heap[k]? = W.heap[k]?
variable {P : Nat → Prop}
theorem Turn.below (h : Below W.heap.size W W1) : Turn P W W1 := ⟨h.os, h.tape, h.output, h.size, fun k hk _ => h.block k hk⟩
theorem Turn.refl (W : World) : Turn P W W := ⟨rfl, rfl, rfl, Nat.le_refl _, fun _ _ _ => rfl⟩
theorem Turn.trans (h : Turn P W W1) (k : Turn P W1 W2) : Turn P W W2 :=
  ⟨k.os.trans h.os, k.tape.trans h.tape, k.output.trans h.output, Nat.le_trans h.size k.size, fun j hj hf => (k.keep j (Nat.lt_of_lt_of_le hj h.size) hf).trans (h.keep j hj hf)⟩
theorem Turn.drew (h : Turn P W W1) : Turn P W W1.drew := ⟨h.os, h.tape, h.output, h.size, h.keep⟩
theorem Turn.to_below {B : Nat} (h : Turn P W W1) (hF : ∀ k, P k → B ≤ k) (hB : B ≤ W.heap.size) : Below B W W1 :=
  ⟨h.os, h.tape, h.output, h.size, fun k hk => h.keep k (Nat.lt_of_lt_of_le hk hB) (fun hf => absurd (hF k hf) (Nat.not_le.2 hk))⟩
theorem IsF.foot_ge (h : IsF base W g gt gb s) (k : Nat) (hk : Foot g gt gb k) : base ≤ k := by
  obtain ⟨h1, h2, h3⟩ := h.ge
  rcases hk with rfl | rfl | rfl <;> assumption
theorem IsF.turned (h : IsF base W g gt gb s) (hT : W.mapTurned W1 gm) (hm : Foot g gt gb gm) : Turn (Foot g gt gb) W W1 :=
  ⟨hT.grown.os, hT.grown.tape, hT.grown.output, hT.grown.size, fun k hk hf => hT.grown.block k hk (fun e => hf (by cases e; exact hm))⟩
/-- the counter is otherwise -/
theorem IsF.asks (h : IsF base W g gt gb s) (a : Int) : IsF base (W.setCell ⟨g, 76, none⟩ (.int .i64 a)) g gt gb { s with asked := a } ∧ Turn (Foot g gt gb) W (W.setCell ⟨g, 76, none⟩ (.int .i64 a)) := by
  have hk : ∀ k, k ≠ g → (W.setCell ⟨g, 76, none⟩ (.int .i64 a)).heap[k]? = W.heap[k]? := fun k hk => Below.heap_setCell _ _ _ k hk
  have h1 := blk_put h.blk 76 (.int .i64 a) (fcs_set s gt gb a)
  refine ⟨⟨h1, h.tl.keep (hk gt (ne_tag h.tl.tag h.tg (by decide))) (fun k _ h2 => hk k (ne_tag h2 h.tg (by decide))), h.bn.keep (hk gb (ne_tag h.bn.tag h.tg (by decide))) (fun k _ h2 => hk k (ne_tag h2 h.tg (by decide))), h.ne, h.ge, h.sz⟩, ⟨rfl, rfl, rfl, by simp, fun k _ hf => hk k (fun e => hf (.inl e))⟩⟩
/-- a tile is stored -/
theorem IsF.putTile (h : IsF base W g gt gb s) (x : Int × Int) (v : Value) (l : List ByteArray) (hv : SR W base v l) (h0 : 0 < l.length) (h4 : l.length ≤ 4) (hT : W.mapTurned W1 gt) (hm : ∀ f, IMap W Try.prog 24 gt f → IMap W1 Try.prog 24 gt (Mp.put f (idV x) v)) :
    IsF base W1 g gt gb { s with tiles := upd s.tiles x (some l) } := by
  have hk := turned_other hT h.tl.tag
  have ho : ∀ k, k < W.heap.size → k ≠ gt → W1.heap[k]? = W.heap[k]? := fun k hk hne => hT.grown.block k hk (fun e => hne (Option.some.inj e))
  exact ⟨(ho g (blk_lt h.blk) (ne_tag h.tg h.tl.tag (by decide))).trans h.blk, h.tl.put idV_inj x v l hv h0 h4 hT hm, h.bn.keep (ho gb h.bn.lt h.ne.symm) hk, h.ne, h.ge, h.sz⟩
theorem IsF.dropTile (h : IsF base W g gt gb s) (x : Int × Int) (hT : W.mapTurned W1 gt) (hm : ∀ f, IMap W Try.prog 24 gt f → IMap W1 Try.prog 24 gt (Mp.drop f (idV x))) :
    IsF base W1 g gt gb { s with tiles := upd s.tiles x none } := by
  have hk := turned_other hT h.tl.tag
  have ho : ∀ k, k < W.heap.size → k ≠ gt → W1.heap[k]? = W.heap[k]? := fun k hk hne => hT.grown.block k hk (fun e => hne (Option.some.inj e))
  exact ⟨(ho g (blk_lt h.blk) (ne_tag h.tg h.tl.tag (by decide))).trans h.blk, h.tl.drop idV_inj x hT hm, h.bn.keep (ho gb h.bn.lt h.ne.symm) hk, h.ne, h.ge, h.sz⟩
theorem IsF.putBund (h : IsF base W g gt gb s) (x : Int) (v : Value) (l : List ByteArray) (hv : SR W base v l) (h0 : 0 < l.length) (h4 : l.length ≤ 4) (hT : W.mapTurned W1 gb) (hm : ∀ f, IMap W Try.prog 3 gb f → IMap W1 Try.prog 3 gb (Mp.put f (inV x) v)) :
    IsF base W1 g gt gb { s with bund := upd s.bund x (some l) } := by
  have hk := turned_other hT h.bn.tag
  have ho : ∀ k, k < W.heap.size → k ≠ gb → W1.heap[k]? = W.heap[k]? := fun k hk hne => hT.grown.block k hk (fun e => hne (Option.some.inj e))
  exact ⟨(ho g (blk_lt h.blk) (ne_tag h.tg h.bn.tag (by decide))).trans h.blk, h.tl.keep (ho gt h.tl.lt h.ne) hk, h.bn.put inV_inj x v l hv h0 h4 hT hm, h.ne, h.ge, h.sz⟩
end Go.Proofs.Ytondnammkcgjpaa.Ft
namespace Go.Proofs.Ytondnammkcgjpaa.Ft
open Go Go.RowKit Go.Shelf Go.Proofs.YtondnammkcgjpaaW.PrintWords Go.Proofs.YtondnammkcgjpaaW.PrintLast Go.Proofs.YtondnammkcgjpaaW.PrintMore Go.Proofs.Ytondnammkcgjpaa.Mp
open Go.Proofs.Ytondnammkcgjpaa.ShaP Go.Proofs.Ytondnammkcgjpaa.Mk Go.Proofs.Ytondnammkcgjpaa.Rg Go.Proofs.Ytondnammkcgjpaa.RgP Go.Proofs.Ytondnammkcgjpaa.Rf Go.Proofs.Ytondnammkcgjpaa.Til Go.Proofs.Ytondnammkcgjpaa.Fg
set_option linter.unusedVariables false
set_option linter.unusedSimpArgs false
/-- a whole block loaded in an operation that is guarded, and wanted -/
theorem load_row_on {P : Program} {ops : Array Oper} {rest : List Oper} {o : Oper} {a : Act} {w : World} {Q : Exit → Act → World → Prop} (hw : Region.wanted o (yielded ops a.tmps) = true) (ty : TypeId) (x : Operand) (ho : o.op = .load ty x)
    (g : Nat) (hx : a.eval x = .pointer (some ⟨g, 0, none⟩)) (t : TypeId) (cs : Array Value) (fr : Nat × Nat) (d : TypeDesc) (hg : w.heap[g]? = some (.cells cs t fr))
    (hu : P.underlying ty = some d) (hd : (match d with | .struct _ | .array _ _ => true | _ => false) = true) (hi : (P.info? ty).map (·.size) = some cs.size)
    (h : wpList P ops Q rest (a.put o.dst (.agg cs)) w) : wpList P ops Q (o :: rest) a w :=
  wpList_step fun K hK => by simp only [hw, if_true]; exact wp_load_row ty x ho g hx t cs fr d hg hu hd hi (hK _ _ h)
def emptyF : ByteArray := Ref01.sumF ⟨#[]⟩
/-- can it not be a head? -/
def badB (size : Int) (r : ByteArray) : Bool := decide (size < 0) || decide (64 < size) || decide (r.size ≠ 32) || (decide (size = 0) && decide (r ≠ emptyF))
theorem mroot_nil (w : World) : Calls Try.prog 30 #[.agg TV, .slice none 0 0] w fun e w' => e = .returned (.string emptyF) ∧ Below w.heap.size w w' := by
  have h := root_c 100000 none 0 [] w (by decide) (by decide) (fun s hs => by cases hs) (Nat.le_refl _) (Kd.R_reads' (Kd.R_nil Kd.string 9 w w.heap.size (fun _ => True))).2.2
  rw [show rootN 100000 ([] : List ByteArray) = rootF [] from rfl, rootF_nil] at h
  exact h
set_option maxRecDepth 100000 in
set_option maxHeartbeats 4000000 in
theorem new_bad (size : Int) (r : ByteArray) (w : World) (h : badB size r = true) :
    Calls Try.prog 37 #[.agg TV, .int .i64 size, .string r] w fun e w' => e = .returned (.tuple #[.pointer none, .int .i64 1]) ∧ Below w.heap.size w w' := by
  have OW := Aside0.mk (Mem.Own.nil w)
  have HI := Aside0.mk info_tab
  have HM := Aside0.mk mroot_nil
  have hcase : size < 0 ∨ (¬ size < 0 ∧ 64 < size) ∨ (¬ size < 0 ∧ ¬ 64 < size ∧ r.size ≠ 32) ∨ (size = 0 ∧ r.size = 32 ∧ r ≠ emptyF) := by
    unfold badB at h
    by_cases h1 : size < 0
    · exact .inl h1
    · by_cases h2 : 64 < size
      · exact .inr (.inl ⟨h1, h2⟩)
      · by_cases h3 : r.size = 32
        · simp [h1, h2, h3] at h
          exact .inr (.inr (.inr ⟨h.1, h3, h.2⟩))
        · exact .inr (.inr (.inl ⟨h1, h2, h3⟩))
  clear h
  rcases hcase with h1 | ⟨h1, h2⟩ | ⟨h1, h2, h3⟩ | ⟨rfl, h3, h4⟩
  · go_enter Try.func37, Try.ntmps37
    go_wp2_with (first
      | ((with_reducible refine gate_dst (N := 3) rfl ?_); refine box_event ?hg (N := 3) ?hd (cs := TV) (t := 31) ?hr ?_; (case hd => rfl); (case hg => rfl); (case hr => first | (go_simp; done) | (go_simp; rfl)); intro gT hg W_ hb hbb; have n_ : Aside0 (Mem.Own w W_ [(gT, TV, 31)]) := ⟨OW.out.new hg hb hbb⟩; clear OW hb hbb hg; have OW := n_; clear n_))
    go_ret2
    exact ⟨rfl, OW.out.below⟩
  · go_enter Try.func37, Try.ntmps37
    go_wp2_with (first
      | ((with_reducible refine gate_dst (N := 3) rfl ?_); refine box_event ?hg (N := 3) ?hd (cs := TV) (t := 31) ?hr ?_; (case hd => rfl); (case hg => rfl); (case hr => first | (go_simp; done) | (go_simp; rfl)); intro gT hg W_ hb hbb; have n_ : Aside0 (Mem.Own w W_ [(gT, TV, 31)]) := ⟨OW.out.new hg hb hbb⟩; clear OW hb hbb hg; have OW := n_; clear n_))
    go_ret2
    exact ⟨rfl, OW.out.below⟩
  · have h3b : ((r.size : Int) != 32) = true := by rw [bne_iff_ne]; omega
    go_enter Try.func37, Try.ntmps37
    go_wp2_with (first
      | ((with_reducible refine gate_dst (N := 3) rfl ?_); refine box_event ?hg (N := 3) ?hd (cs := TV) (t := 31) ?hr ?_; (case hd => rfl); (case hg => rfl); (case hr => first | (go_simp; done) | (go_simp; rfl)); intro gT hg W_ hb hbb; have n_ : Aside0 (Mem.Own w W_ [(gT, TV, 31)]) := ⟨OW.out.new hg hb hbb⟩; clear OW hb hbb hg; have OW := n_; clear n_))
    go_ret2
    exact ⟨rfl, OW.out.below⟩
  · have h3b : ((r.size : Int) != 32) = false := by rw [bne_eq_false_iff_eq]; omega
    have h4b : (r.toList != emptyF.toList) = true := bne_iff_ne.2 (fun e => h4 (toList_inj e))
    have h4c : (r.toList == emptyF.toList) = false := beq_eq_false_iff_ne.2 (fun e => h4 (toList_inj e))
    generalize emptyF = em at *
    go_enter Try.func37, Try.ntmps37
    go_wp2_with (first
      | ((with_reducible refine gate_dst (N := 3) rfl ?_); refine box_event ?hg (N := 3) ?hd (cs := TV) (t := 31) ?hr ?_; (case hd => rfl); (case hg => rfl); (case hr => first | (go_simp; done) | (go_simp; rfl)); intro gT hg W_ hb hbb; have n_ : Aside0 (Mem.Own w W_ [(gT, TV, 31)]) := ⟨OW.out.new hg hb hbb⟩; clear OW hb hbb hg; have OW := n_; clear n_)
      | ((with_reducible refine gate_dst (N := 24) rfl ?_); (refine load_row_on (by rfl) 31 (.tmp 3) rfl gT rfl 31 TV (0, 0) _ (OW.out.blk 0 rfl) Try.underlying31 rfl HI.out ?_))
      | (go_at_call 30; (with_reducible refine (HM.out _).mono ?_); rintro e w_ ⟨rfl, hB⟩; have n_ := Aside0.mk (OW.out.step hB); clear OW hB; have OW := n_; clear n_))
    go_ret2
    exact ⟨rfl, OW.out.below⟩
/-- the zero block's cells -/
def fetZ : Array Value := (List.replicate 72 (Value.int .u32 0)).toArray ++ #[.int .i64 0, .string ⟨#[]⟩, .map none, .map none, .int .i64 0]
def fetP : Nat → Option (Nat × Nat) := (#[(0, 72), (72, 1), (73, 1), (74, 1), (75, 1), (76, 1)][·]?)
theorem built_fillF (parts : List (Nat × Value)) : Try.prog.built 114 parts = Instr.fill fetP fetZ parts := by
  kernel_rfl
theorem fill_one {cs : Array Value} {i off : Nat} {v : Value} {rest : List (Nat × Value)} (hp : fetP i = some (off, 1)) (hv : v.cells = #[v]) (ho : off < cs.size) : Instr.fill fetP cs ((i, v) :: rest) = Instr.fill fetP (cs.setIfInBounds off v) rest := by
  have g : ¬ ((#[v] : Array Value).size ≠ 1 ∨ off + (#[v] : Array Value).size > cs.size) := by simp; omega
  have h := over_arr #[v] off cs
  simp only [Instr.fill, hp, hv, Bool.or_eq_true, decide_eq_true_eq]
  rw [if_neg g, h]
  rfl
def tl5 (a : Int) (b : ByteArray) (c d : Option Nat) (e : Int) : Array Value := #[.int .i64 a, .string b, .map c, .map d, .int .i64 e]
theorem built_fet (s : FS) (gt gb : Nat) (h : s.asked = 0) : Try.prog.built 114 [(0, .agg TV), (1, .int .i64 (s.size : Int)), (2, .string s.root), (3, .map (some gt)), (4, .map (some gb))] = some (fcs s gt gb) := by
  rw [built_fillF]
  have z : fetZ.size = 77 := rfl
  have s1 : TV.size = 72 := tv_size
  have o1 : over fetZ 0 TV.toList = TV ++ tl5 0 ⟨#[]⟩ none none 0 := by
    have := over_mid TV.toList [] (List.replicate 72 (.int .u32 0)) (tl5 0 ⟨#[]⟩ none none 0).toList (by simp [s1])
    simp only [List.nil_append, List.length_nil] at this
    rw [show fetZ = (List.replicate 72 (Value.int .u32 0) ++ (tl5 0 ⟨#[]⟩ none none 0).toList).toArray from by unfold fetZ tl5; rfl, this]
    apply Array.toList_inj.1
    simp
  have hset : ∀ (i : Nat) (v : Value) (r : Array Value), (TV ++ r).setIfInBounds (72 + i) v = TV ++ r.setIfInBounds i v := fun i v r => by
    rw [Array.setIfInBounds_append_right (by rw [s1]; omega), s1, Nat.add_sub_cancel_left]
  have hsz : ∀ (a : Int) (b : ByteArray) (c d : Option Nat) (e : Int), (TV ++ tl5 a b c d e).size = 77 := fun a b c d e => by rw [Array.size_append, s1]; rfl
  have p0 : fetP 0 = some (0, 72) := rfl
  have c1 : (Value.agg TV).cells = TV := rfl
  have g1 : ¬ (TV.size ≠ 72 ∨ 0 + TV.size > fetZ.size) := by rw [s1, z]; decide
  have e0 : Instr.fill fetP fetZ [(0, .agg TV), (1, .int .i64 (s.size : Int)), (2, .string s.root), (3, .map (some gt)), (4, .map (some gb))] = Instr.fill fetP (TV ++ tl5 0 ⟨#[]⟩ none none 0) [(1, .int .i64 (s.size : Int)), (2, .string s.root), (3, .map (some gt)), (4, .map (some gb))] := by
    rw [Instr.fill]
    simp only [p0, c1, over_arr, o1, Bool.or_eq_true, decide_eq_true_eq]
    rw [if_neg g1]
  rw [e0, fill_one (off := 72) rfl rfl (by rw [hsz]; omega), hset 0, show (tl5 0 ⟨#[]⟩ none none 0).setIfInBounds 0 (.int .i64 (s.size : Int)) = tl5 s.size ⟨#[]⟩ none none 0 from rfl,
    fill_one (off := 73) rfl rfl (by rw [hsz]; omega), hset 1, show (tl5 s.size ⟨#[]⟩ none none 0).setIfInBounds 1 (.string s.root) = tl5 s.size s.root none none 0 from rfl,
    fill_one (off := 74) rfl rfl (by rw [hsz]; omega), hset 2, show (tl5 s.size s.root none none 0).setIfInBounds 2 (.map (some gt)) = tl5 s.size s.root (some gt) none 0 from rfl,
    fill_one (off := 75) rfl rfl (by rw [hsz]; omega), hset 3, show (tl5 s.size s.root (some gt) none 0).setIfInBounds 3 (.map (some gb)) = tl5 s.size s.root (some gt) (some gb) 0 from rfl]
  rw [Instr.fill]
  unfold fcs
  rw [h]
  rfl
def mt (n : Nat) (r : ByteArray) : FS := ⟨n, r, fun _ => none, fun _ => none, 0⟩
theorem blk_alloc_new (w : World) (o : Obj) : (w.alloc o).heap[w.heap.size]? = some o := by
  show (w.heap.push o)[w.heap.size]? = some o
  simp
theorem rows_none {K : Type} {W : World} {base gm : Nat} {k : TypeId} {enc : K → Value} (h : IMap W Try.prog k gm (fun _ => none)) : Rows W base gm k enc (fun _ => none) := ⟨_, h, fun x => ⟨fun _ => rfl, fun l h => by cases h⟩⟩
theorem mt_isF (W : World) (base n : Nat) (r : ByteArray) (hb : base ≤ W.heap.size) (hn : n ≤ 64) :
    IsF base (((W.alloc (.map #[] 0)).alloc (.map #[] 0)).alloc (.cells (fcs (mt n r) W.heap.size (W.heap.size + 1)) 114)) (W.heap.size + 1 + 1) W.heap.size (W.heap.size + 1) (mt n r) where
  blk := by
    have e := blk_alloc_new ((W.alloc (.map #[] 0)).alloc (.map #[] 0)) (.cells (fcs (mt n r) W.heap.size (W.heap.size + 1)) 114)
    rw [World.size_alloc, World.size_alloc] at e
    exact e
  tl := rows_none (((IMap.made W Try.prog 24).below' (below_alloc (Below.refl _ _) _)).below' (below_alloc (Below.refl _ _) _))
  bn := by
    have h := IMap.made (W.alloc (.map #[] 0)) Try.prog 3
    rw [World.size_alloc] at h
    exact rows_none (h.below' (below_alloc (Below.refl _ _) _))
  ne := by omega
  ge := by omega
  sz := hn
set_option maxRecDepth 100000 in
set_option maxHeartbeats 4000000 in
theorem new_good (n : Nat) (r : ByteArray) (w : World) (hn : n ≤ 64) (hr : r.size = 32) (h0 : n = 0 → r = emptyF) :
    Calls Try.prog 37 #[.agg TV, .int .i64 (n : Int), .string r] w fun e w' => ∃ g gt gb, e = .returned (.tuple #[.pointer (some ⟨g, 0, none⟩), .int .i64 0]) ∧ IsF w.heap.size w' g gt gb (mt n r) ∧ Below w.heap.size w w' := by
  have OW := Aside0.mk (Mem.Own.nil w)
  have HI := Aside0.mk info_tab
  have HM := Aside0.mk mroot_nil
  have hmm := @run_makeMap Try.prog
  have HBF := Aside0.mk (fun gt gb => built_fet (mt n r) gt gb rfl)
  have HN := Aside0.mk hn
  have h2 : ¬ (64 : Int) < (n : Int) := by omega
  have h3b : ((r.size : Int) != 32) = false := by rw [bne_eq_false_iff_eq]; omega
  rcases Nat.eq_zero_or_pos n with hz | hz
  · have h4 := h0 hz
    have h4b : (r.toList != emptyF.toList) = false := by rw [h4]; simp
    have h4c : (r.toList == emptyF.toList) = true := by rw [h4]; simp
    subst hz
    clear h4 h0 hr hn h2
    generalize emptyF = em at *
    go_enter Try.func37, Try.ntmps37
    go_wp2_with (first
      | ((with_reducible refine gate_dst (N := 3) rfl ?_); refine box_event ?hg (N := 3) ?hd (cs := TV) (t := 31) ?hr ?_; (case hd => rfl); (case hg => rfl); (case hr => first | (go_simp; done) | (go_simp; rfl)); intro gT hg W_ hb hbb; have n_ : Aside0 (Mem.Own w W_ [(gT, TV, 31)]) := ⟨OW.out.new hg hb hbb⟩; clear OW hb hbb hg; have OW := n_; clear n_)
      | ((with_reducible refine gate_dst (N := 24) rfl ?_); (refine load_row_on (by rfl) 31 (.tmp 3) rfl gT rfl 31 TV (0, 0) _ (OW.out.blk 0 rfl) Try.underlying31 rfl HI.out ?_))
      | ((with_reducible refine gate_dst (N := 29) rfl ?_); (refine load_row_on (by rfl) 31 (.tmp 3) rfl gT rfl 31 TV (0, 0) _ (OW.out.blk 0 rfl) Try.underlying31 rfl HI.out ?_))
      | (go_at_call 30; (with_reducible refine (HM.out _).mono ?_); rintro e w_ ⟨rfl, hB⟩; have n_ := Aside0.mk (OW.out.step hB); clear OW hB; have OW := n_; clear n_)
      | ((with_reducible refine gate_dst (N := 34) rfl ?_); refine wpList_build rfl 114 #[(0, .tmp 29), (1, .tmp 30), (2, .tmp 31), (3, .tmp 32), (4, .tmp 33)] rfl ?_ ?_))
    · have e := HBF.out w_.heap.size (w_.heap.size + 1)
      exact (congrArg Option.isSome e).trans rfl
    · have e : Try.prog.built 114 [(0, .agg TV), (1, .int .i64 0), (2, .string r), (3, .map (some w_.heap.size)), (4, .map (some (w_.heap.size + 1)))] = some (fcs (mt 0 r) w_.heap.size (w_.heap.size + 1)) := HBF.out w_.heap.size (w_.heap.size + 1)
      clear HBF
      simp only [e, Option.getD_some]
      refine bodyPost_ret (results_tmp2 rfl _ _ _) rfl ⟨_, _, _, rfl, mt_isF w_ _ 0 r OW.out.size HN.out, below_alloc (below_alloc (below_alloc OW.out.below _) _) _⟩
  · have hz1 : ¬ (n : Int) = 0 := by omega
    have hz2 : ((n : Int) == 0) = false := beq_eq_false_iff_ne.2 hz1
    clear h0 hr hn
    go_enter Try.func37, Try.ntmps37
    go_wp2_with (first
      | ((with_reducible refine gate_dst (N := 3) rfl ?_); refine box_event ?hg (N := 3) ?hd (cs := TV) (t := 31) ?hr ?_; (case hd => rfl); (case hg => rfl); (case hr => first | (go_simp; done) | (go_simp; rfl)); intro gT hg W_ hb hbb; have n_ : Aside0 (Mem.Own w W_ [(gT, TV, 31)]) := ⟨OW.out.new hg hb hbb⟩; clear OW hb hbb hg; have OW := n_; clear n_)
      | ((with_reducible refine gate_dst (N := 29) rfl ?_); (refine load_row_on (by rfl) 31 (.tmp 3) rfl gT rfl 31 TV (0, 0) _ (OW.out.blk 0 rfl) Try.underlying31 rfl HI.out ?_))
      | ((with_reducible refine gate_dst (N := 34) rfl ?_); refine wpList_build rfl 114 #[(0, .tmp 29), (1, .tmp 30), (2, .tmp 31), (3, .tmp 32), (4, .tmp 33)] rfl ?_ ?_))
    · have e := HBF.out W_.heap.size (W_.heap.size + 1)
      exact (congrArg Option.isSome e).trans rfl
    · have e : Try.prog.built 114 [(0, .agg TV), (1, .int .i64 (n : Int)), (2, .string r), (3, .map (some W_.heap.size)), (4, .map (some (W_.heap.size + 1)))] = some (fcs (mt n r) W_.heap.size (W_.heap.size + 1)) := HBF.out W_.heap.size (W_.heap.size + 1)
      clear HBF
      simp only [e, Option.getD_some]
      refine bodyPost_ret (results_tmp2 rfl _ _ _) rfl ?_
      first
        | exact ⟨_, _, _, rfl, mt_isF W_ _ n r OW.out.size HN.out, below_alloc (below_alloc (below_alloc OW.out.below _) _) _⟩
        | exact ⟨_, rfl, ⟨_, _, mt_isF W_ _ n r OW.out.size HN.out⟩, below_alloc (below_alloc (below_alloc OW.out.below _) _) _⟩
end Go.Proofs.Ytondnammkcgjpaa.Ft
namespace Go.Proofs.Ytondnammkcgjpaa.Ft
open Go Go.RowKit Go.Shelf Go.Proofs.YtondnammkcgjpaaW.PrintWords Go.Proofs.YtondnammkcgjpaaW.PrintLast Go.Proofs.YtondnammkcgjpaaW.PrintMore Go.Proofs.Ytondnammkcgjpaa.Mp
open Go.Proofs.Ytondnammkcgjpaa.ShaP Go.Proofs.Ytondnammkcgjpaa.Mk Go.Proofs.Ytondnammkcgjpaa.Rg Go.Proofs.Ytondnammkcgjpaa.RgP Go.Proofs.Ytondnammkcgjpaa.Rf Go.Proofs.Ytondnammkcgjpaa.RgL Go.Proofs.Ytondnammkcgjpaa.Til Go.Proofs.Ytondnammkcgjpaa.Fg
set_option linter.unusedVariables false
set_option linter.unusedSimpArgs false
/-- what a log gives -/
def giveF (l : List ByteArray) (b : Bool) (lv ix : Int) : List ByteArray := if b then seg l (4 * ix.toNat) (inTile ix (cntv l.length lv)).toNat else tileF (leavesF l) lv ix
theorem give_any (A : Option Addr) (c : Nat) (l : List ByteArray) (s : Nat) (b : Bool) (lv ix : Int) (w : World) (hs : s ≤ 64) (hsm : s ≤ l.length) (hb : b = true → lv = 0) (hsz : ∀ x ∈ l, x.size ≤ 10000) (hw : inTile ix (cntv s lv) ≠ 0) (hc : l.length ≤ c) (hr : Kd.C Kd.string w A l.length l) :
    Calls Try.prog 32 #[.agg TV, .slice A l.length c, .int .i64 (s : Int), .agg #[.bool b, .int .i64 lv, .int .i64 ix]] w fun e w' => ∃ A' c', e = .returned (.tuple #[.slice A' (giveF (l.take s) b lv ix).length c', .int .i64 0]) ∧ SR w' w.heap.size (.slice A' (giveF (l.take s) b lv ix).length c') (giveF (l.take s) b lv ix) ∧ Below w.heap.size w w' := by
  have htl : (l.take s).length = s := by rw [List.length_take]; omega
  cases b with
  | false =>
    rw [show giveF (l.take s) false lv ix = tileF (leavesF (l.take s)) lv ix from rfl]
    exact give_tile A c l s lv ix w hs hsm hsz hw hc hr
  | true =>
    obtain rfl := hb rfl
    obtain ⟨k, i, m, hk0, rfl, hk, hi, hwm, hm, hm4, hfit⟩ := width_pos s hs 0 ix hw
    obtain rfl : k = 0 := by omega
    rw [Nat.pow_zero, Nat.div_one] at hfit
    have e : giveF (l.take s) true 0 i = seg l (4 * i) m := by
      show seg (l.take s) (4 * (i : Int).toNat) (inTile i (cntv ((l.take s).length : Int) 0)).toNat = _
      rw [htl, hwm]
      show seg (l.take s) (4 * i) m = _
      unfold seg
      rw [List.take_take, Nat.min_eq_left hfit]
    have hsl := seg_len l (4 * i) m (by omega)
    rw [e, hsl]
    exact give_bundle A c l s i m w hs hsm hi hm hwm hfit hc hr
theorem rgive_any (A : Option Addr) (c : Nat) (ls : List ByteArray) (s : Nat) (b : Bool) (lv ix : Int) (w : World) (hs : s ≤ 64) (hls : ls.length = s) (hb : b = true → lv = 0) (hsz : ∀ x ∈ ls, x.size ≤ 10000) (hw : inTile ix (cntv s lv) ≠ 0) (hc : s ≤ c) (hr : Kd.C Kd.string w A s ls) :
    Calls Try.prog 34 #[.slice A s c, .agg #[.bool b, .int .i64 lv, .int .i64 ix]] w fun e w' => ∃ A' c', e = .returned (.slice A' (giveF ls b lv ix).length c') ∧ Kd.C Kd.string w' A' (giveF ls b lv ix).length (giveF ls b lv ix) ∧ (giveF ls b lv ix).length ≤ 4 ∧ Below w.heap.size w w' := by
  subst hls
  cases b with
  | false =>
    rw [show giveF ls false lv ix = tileF (leavesF ls) lv ix from rfl]
    have hl := tileF_len (leavesF ls) lv ix
    rw [leaves_len] at hl
    obtain ⟨k, i, m, rfl, rfl, hk, hi, hwm, hm, hm4, hfit⟩ := width_pos ls.length hs lv ix hw
    rw [hwm] at hl
    have hlen : (tileF (leavesF ls) k i).length = m := by omega
    rw [hlen]
    refine (rgive_tile A c ls ls.length k i m w hs rfl hsz hk hi hm hm4 hwm hfit hc hr).mono ?_
    rintro e w' ⟨A', c', rfl, hR, hB⟩
    exact ⟨A', c', rfl, by have := (Kd.R_reads' hR).2.2; rw [hlen] at this; exact this, hm4, hB⟩
  | true =>
    obtain rfl := hb rfl
    obtain ⟨k, i, m, hk0, rfl, hk, hi, hwm, hm, hm4, hfit⟩ := width_pos ls.length hs 0 ix hw
    obtain rfl : k = 0 := by omega
    rw [Nat.pow_zero, Nat.div_one] at hfit
    have e : giveF ls true 0 i = seg ls (4 * i) m := by
      show seg ls (4 * (i : Int).toNat) (inTile i (cntv (ls.length : Int) 0)).toNat = _
      rw [hwm]
      rfl
    have hsl := seg_len ls (4 * i) m hfit
    rw [e, hsl]
    refine (rgive_bundle A c ls ls.length i m w hs rfl hi hm hwm hfit hc hr).mono ?_
    rintro e w' ⟨A', c', rfl, hR, hB⟩
    exact ⟨A', c', rfl, hR, hm4, hB⟩
theorem emptyF_size : emptyF.size = 32 := sumF_size _
set_option maxRecDepth 100000 in
set_option maxHeartbeats 4000000 in
theorem awake21_c (w : World) : Calls Try.prog 31 #[] w fun e w' => e = .returned (.bool true) ∧ Below w.heap.size w w' := by
  have OW := Aside0.mk (Mem.Own.nil w)
  have HN1 := Aside0.mk (fun W => new_bad (-1) ⟨#[]⟩ W rfl)
  have HN2 := Aside0.mk (fun W => new_good 1 emptyF W (by decide) emptyF_size (fun h => absurd h (by decide)))
  simp only [show ((1 : Nat) : Int) = 1 from rfl] at HN2
  have HH := Aside0.mk (fun W => h_c ⟨#[]⟩ (by decide) W)
  have hfold : Ref01.sumF ⟨#[]⟩ = emptyF := rfl
  rw [hfold] at HH
  clear hfold
  generalize emptyF = em at *
  go_enter Try.func31, Try.ntmps31
  go_wp2_with (first
    | (go_at_call 16; (with_reducible refine (make_c _).mono ?_); rintro e wz ⟨rfl, hB⟩; have n_ := Aside0.mk (OW.out.step hB); clear OW hB; have OW := n_; clear n_)
    | (go_at_call 38; (with_reducible refine (HH.out _).mono ?_); rintro e wz ⟨rfl, hB⟩; have n_ := Aside0.mk (OW.out.step hB); clear OW hB; have OW := n_; clear n_)
    | (go_at_call 37; (with_reducible refine (HN1.out _).mono ?_); rintro e wz ⟨rfl, hB⟩; have n_ := Aside0.mk (OW.out.step hB); clear OW hB; have OW := n_; clear n_)
    | (go_at_call 37; (with_reducible refine (HN2.out _).mono ?_); rintro e wz ⟨g, gt, gb, rfl, _, hB⟩; have n_ := Aside0.mk (OW.out.step hB); clear OW hB; have OW := n_; clear n_))
  go_ret
  exact ⟨rfl, OW.out.below⟩
end Go.Proofs.Ytondnammkcgjpaa.Ft
namespace Go.Proofs.Ytondnammkcgjpaa.Ft
open Go Go.RowKit Go.Shelf Go.Proofs.YtondnammkcgjpaaW.PrintWords Go.Proofs.YtondnammkcgjpaaW.PrintLast Go.Proofs.YtondnammkcgjpaaW.PrintMore Go.Proofs.Ytondnammkcgjpaa.Mp
open Go.Proofs.Ytondnammkcgjpaa.ShaP Go.Proofs.Ytondnammkcgjpaa.Mk Go.Proofs.Ytondnammkcgjpaa.Rg Go.Proofs.Ytondnammkcgjpaa.RgP Go.Proofs.Ytondnammkcgjpaa.Rf Go.Proofs.Ytondnammkcgjpaa.RgL Go.Proofs.Ytondnammkcgjpaa.Til Go.Proofs.Ytondnammkcgjpaa.Fg
set_option linter.unusedVariables false
set_option linter.unusedSimpArgs false
theorem few7040 (A : Option Addr) (c : Nat) (l : List ByteArray) (w : World) (hr : Kd.C Kd.string w A l.length l) :
    Calls Try.prog 15 #[.slice A l.length c, .int .i64 70, .int .i64 40] w fun e w' => e = .returned (.bool (fewB l 70 40)) ∧ w = w' := few_c A c l 70 40 w (by omega) (by omega) hr
set_option maxRecDepth 100000 in
set_option maxHeartbeats 8000000 in
theorem gives_few (A : Option Addr) (c : Nat) (l : List ByteArray) (size : Int) (b : Bool) (lv ix : Int) (w : World) (hb : fewB l 70 40 = false) (hr : Kd.C Kd.string w A l.length l) :
    Calls Try.prog 8 #[.slice A l.length c, .int .i64 size, .agg #[.bool b, .int .i64 lv, .int .i64 ix]] w fun e w' => e = .returned (.bool true) ∧ Below w.heap.size w w' := by
  have OW := Aside0.mk (Mem.Own.nil w)
  have HAW := Aside0.mk awake21_c
  have HF := Aside0.mk (fun W h => few7040 A c l W h)
  rw [hb] at HF
  have HR := Aside0.mk hr
  clear hb hr
  go_enter Try.func8, Try.ntmps8
  go_wp2_with (first
    | ((with_reducible refine gate_dst (N := 5) rfl ?_); refine box_event ?hg (N := 5) ?hd (cs := #[.bool b, .int .i64 lv, .int .i64 ix]) (t := 58) ?hr ?_; (case hd => rfl); (case hg => rfl); (case hr => first | (go_simp; done) | (go_simp; rfl)); intro gW hg W_ hb hbb; have n_ : Aside0 (Mem.Own w W_ [(gW, #[.bool b, .int .i64 lv, .int .i64 ix], 58)]) := ⟨OW.out.new hg hb hbb⟩; clear OW hb hbb hg; have OW := n_; clear n_)
    | (go_at_call 31; (with_reducible refine (HAW.out _).mono ?_); rintro e w_ ⟨rfl, hB⟩; have n_ := Aside0.mk (OW.out.step hB); clear OW hB; have OW := n_; clear n_)
    | (go_at_call 15; (with_reducible refine (HF.out _ (Kd.C_below HR.out OW.out.below)).mono ?_); rintro e w_ ⟨rfl, rfl⟩))
  go_ret
  exact ⟨rfl, OW.out.below⟩
theorem off_cases {m : Nat} {size : Int} {b : Bool} {lv : Int} (h : offB m size b lv = true) : size < 0 ∨ (¬ size < 0 ∧ 64 < size) ∨ (¬ size < 0 ∧ ¬ 64 < size ∧ (m : Int) < size) ∨ (¬ size < 0 ∧ ¬ 64 < size ∧ ¬ (m : Int) < size ∧ b = true ∧ lv ≠ 0) := by
  unfold offB at h
  by_cases h1 : size < 0
  · exact .inl h1
  · by_cases h2 : 64 < size
    · exact .inr (.inl ⟨h1, h2⟩)
    · by_cases h3 : (m : Int) < size
      · exact .inr (.inr (.inl ⟨h1, h2, h3⟩))
      · simp [h1, h2, h3] at h
        exact .inr (.inr (.inr ⟨h1, h2, h3, h.1, h.2⟩))
set_option maxRecDepth 100000 in
set_option maxHeartbeats 8000000 in
theorem gives_off (A : Option Addr) (c : Nat) (l : List ByteArray) (size : Int) (b : Bool) (lv ix : Int) (w : World) (hb : fewB l 70 40 = true) (ho : offB l.length size b lv = true) (hr : Kd.C Kd.string w A l.length l) :
    Calls Try.prog 8 #[.slice A l.length c, .int .i64 size, .agg #[.bool b, .int .i64 lv, .int .i64 ix]] w fun e w' => e = .returned (.bool true) ∧ Below w.heap.size w w' := by
  have OW := Aside0.mk (Mem.Own.nil w)
  have HAW := Aside0.mk awake21_c
  have HF := Aside0.mk (fun W h => few7040 A c l W h)
  rw [hb] at HF
  have HR := Aside0.mk hr
  have HG := Aside0.mk (fun W => give_off A l.length c size b lv ix W ho)
  have hcase := off_cases ho
  clear hb hr ho
  go_enter Try.func8, Try.ntmps8
  go_wp2_with (first
    | ((with_reducible refine gate_dst (N := 5) rfl ?_); refine box_event ?hg (N := 5) ?hd (cs := #[.bool b, .int .i64 lv, .int .i64 ix]) (t := 58) ?hr ?_; (case hd => rfl); (case hg => rfl); (case hr => first | (go_simp; done) | (go_simp; rfl)); intro gW hg W_ hb hbb; have n_ : Aside0 (Mem.Own w W_ [(gW, #[.bool b, .int .i64 lv, .int .i64 ix], 58)]) := ⟨OW.out.new hg hb hbb⟩; clear OW hb hbb hg; have OW := n_; clear n_)
    | (go_at_call 31; (with_reducible refine (HAW.out _).mono ?_); rintro e w_ ⟨rfl, hB⟩; have n_ := Aside0.mk (OW.out.step hB); clear OW hB; have OW := n_; clear n_)
    | (go_at_call 15; (with_reducible refine (HF.out _ (Kd.C_below HR.out OW.out.below)).mono ?_); rintro e w_ ⟨rfl, rfl⟩))
  have OD := Aside0.mk OW.out.drew
  have j0 : w_.drew.cell? ⟨gW, 0, none⟩ = some (.bool b) := (OD.out.cell 0 rfl 0).trans rfl
  have j1 : w_.drew.cell? ⟨gW, 1, none⟩ = some (.int .i64 lv) := (OD.out.cell 0 rfl 1).trans rfl
  have j2 : w_.drew.cell? ⟨gW, 2, none⟩ = some (.int .i64 ix) := (OD.out.cell 0 rfl 2).trans rfl
  clear OW
  refine start_ (n := 10) (S := fun w' => Below (w_).drew.heap.size (w_).drew w') (ds := []) #[false, false, false, false, false, false, false, false, false, false] (by kernel_rfl) rfl rfl (Below.refl _ _) (fun hHeld => ?_)
  generalize (w_).drew = W0 at *
  refine pure_ (i := 1) (N := (some 19)) (v := ?_) (a' := ?_) #[false, true, false, false, false, false, false, false, false, false] rfl rfl (by kernel_rfl) (fun _ _ _ h => h) (Or.inl ⟨by rfl, ?_⟩) ?_ ?_
  rotate_left
  · intro w'
    go_simp
    first | done | with_reducible rfl
  rotate_left
  · simp only [Act.put, List.setIfInBounds_toArray, List.set_cons_zero, List.set_cons_succ, i64_w, i32_w]
    rfl
  refine pure_ (i := 2) (N := (some 20)) (v := ?_) (a' := ?_) #[false, true, true, false, false, false, false, false, false, false] rfl rfl (by kernel_rfl) (fun _ _ _ h => h) (Or.inl ⟨by rfl, ?_⟩) ?_ ?_
  rotate_left
  · intro w'
    go_simp
    first | done | with_reducible rfl
  rotate_left
  · simp only [Act.put, List.setIfInBounds_toArray, List.set_cons_zero, List.set_cons_succ, i64_w, i32_w]
    rfl
  refine take_ (i := 3) (N := (some 21)) (v := ?_) (a' := ?_) #[false, true, true, true, false, false, false, false, false, false] rfl rfl (by kernel_rfl) (fun _ _ _ h => h) (Or.inl ⟨by rfl, ?_⟩) hHeld ?_ ?_
  rotate_left
  · intro w' hS
    have s0 := pw_cell_below hS j0
    have s1 := pw_cell_below hS j1
    have s2 := pw_cell_below hS j2
    go_simp
    first | done | with_reducible rfl
  rotate_left
  · simp only [Act.put, List.setIfInBounds_toArray, List.set_cons_zero, List.set_cons_succ, i64_w, i32_w]
    rfl
  refine one_ (i := 0) (N := (some 18)) #[true, true, true, true, false, false, false, false, false, false] rfl rfl (by kernel_rfl) (by decide) (fun K hK => ?_)
  refine goes_ Try.func16 (by kernel_rfl) rfl #[] (by rfl) rfl rfl (by (try simp only [List.map_toArray, List.map_cons, List.map_nil]); first | done | rfl) ?_
  (with_reducible refine (make_c _).mono ?_)
  rintro e wa ⟨rfl, hB⟩
  refine ⟨_, rfl, ?_⟩
  have hS2 : Below W0.heap.size W0 wa := hB
  clear hB
  refine hK.out _ _ hS2 (fun hHeld => ?_)
  clear hK K
  refine norm_ (a' := ?_) ?_ ?_
  rotate_left
  · show Act.put _ (some 18) _ = _
    simp only [Act.put, List.setIfInBounds_toArray, List.set_cons_zero, List.set_cons_succ, i64_w, i32_w]
    rfl
  refine one_ (i := 4) (N := (some 22)) #[true, true, true, true, true, false, false, false, false, false] rfl rfl (by kernel_rfl) (by decide) (fun K hK => ?_)
  refine goes_ Try.func32 (by kernel_rfl) rfl #[.agg TV, .slice A l.length c, .int .i64 size, .agg #[.bool b, .int .i64 lv, .int .i64 ix]] (by rfl) rfl rfl (by (try simp only [List.map_toArray, List.map_cons, List.map_nil]); first | done | rfl) ?_
  (with_reducible refine (HG.out _).mono ?_)
  rintro e wb ⟨rfl, hB⟩
  refine ⟨_, rfl, ?_⟩
  have hS2 : Below W0.heap.size W0 wb := below_step hHeld hB
  clear hB hHeld
  refine hK.out _ _ hS2 (fun hHeld => ?_)
  clear hK K
  refine norm_ (a' := ?_) ?_ ?_
  rotate_left
  · show Act.put _ (some 22) _ = _
    simp only [Act.put, List.setIfInBounds_toArray, List.set_cons_zero, List.set_cons_succ, i64_w, i32_w]
    rfl
  refine pure_ (i := 5) (N := (some 17)) (v := ?_) (a' := ?_) #[true, true, true, true, true, true, false, false, false, false] rfl rfl (by kernel_rfl) (fun _ _ _ h => h) (Or.inl ⟨by rfl, ?_⟩) ?_ ?_
  rotate_left
  · intro w'
    go_simp
    first | done | with_reducible rfl
  rotate_left
  · simp only [Act.put, List.setIfInBounds_toArray, List.set_cons_zero, List.set_cons_succ, i64_w, i32_w]
    rfl
  refine pure_ (i := 6) (N := (some 23)) (v := ?_) (a' := ?_) #[true, true, true, true, true, true, true, false, false, false] rfl rfl (by kernel_rfl) (fun _ _ _ h => h) (Or.inl ⟨by rfl, ?_⟩) ?_ ?_
  rotate_left
  · intro w'
    go_simp
    first | done | with_reducible rfl
  rotate_left
  · simp only [Act.put, List.setIfInBounds_toArray, List.set_cons_zero, List.set_cons_succ, i64_w, i32_w]
    rfl
  refine pure_ (i := 7) (N := (some 24)) (v := ?_) (a' := ?_) #[true, true, true, true, true, true, true, true, false, false] rfl rfl (by kernel_rfl) (fun _ _ _ h => h) (Or.inl ⟨by rfl, ?_⟩) ?_ ?_
  rotate_left
  · intro w'
    go_simp
    first | done | with_reducible rfl
  rotate_left
  · simp only [Act.put, List.setIfInBounds_toArray, List.set_cons_zero, List.set_cons_succ, i64_w, i32_w]
    rfl
  refine pure_ (i := 8) (N := (some 7)) (v := ?_) (a' := ?_) #[true, true, true, true, true, true, true, true, true, false] rfl rfl (by kernel_rfl) (fun _ _ _ h => h) (Or.inl ⟨by rfl, ?_⟩) ?_ ?_
  rotate_left
  · intro w'
    go_simp
    first | done | with_reducible rfl
  rotate_left
  · simp only [Act.put, List.setIfInBounds_toArray, List.set_cons_zero, List.set_cons_succ, i64_w, i32_w]
    rfl
  refine pure_ (i := 9) (N := (some 8)) (v := ?_) (a' := ?_) #[true, true, true, true, true, true, true, true, true, true] rfl rfl (by kernel_rfl) (fun _ _ _ h => h) (Or.inl ⟨by rfl, ?_⟩) ?_ ?_
  rotate_left
  · intro w'
    go_simp
    first | done | with_reducible rfl
  rotate_left
  · simp only [Act.put, List.setIfInBounds_toArray, List.set_cons_zero, List.set_cons_succ, i64_w, i32_w]
    rfl
  refine done_ (by kernel_rfl) ?_
  have OE := Aside0.mk (OD.out.step hHeld)
  have i0 := (OE.out.cell 0 rfl 0).trans rfl
  have i1 := (OE.out.cell 0 rfl 1).trans rfl
  clear OD hHeld j0 j1 j2
  rcases hcase with h1 | ⟨h1, h2⟩ | ⟨h1, h2, h3⟩ | ⟨h1, h2, h3, rfl, h5⟩
  · go_wp2_with fail
    go_ret
    exact ⟨rfl, OE.out.below⟩
  · go_wp2_with fail
    go_ret
    exact ⟨rfl, OE.out.below⟩
  · go_wp2_with fail
    go_ret
    exact ⟨rfl, OE.out.below⟩
  · have h5b : (lv == 0) = false := beq_eq_false_iff_ne.2 h5
    go_wp2_with fail
    go_ret
    exact ⟨rfl, OE.out.below⟩
end Go.Proofs.Ytondnammkcgjpaa.Ft
namespace Go.Proofs.Ytondnammkcgjpaa.Ft
open Go Go.RowKit Go.Shelf Go.Proofs.YtondnammkcgjpaaW.PrintWords Go.Proofs.YtondnammkcgjpaaW.PrintLast Go.Proofs.YtondnammkcgjpaaW.PrintMore Go.Proofs.Ytondnammkcgjpaa.Mp
open Go.Proofs.Ytondnammkcgjpaa.ShaP Go.Proofs.Ytondnammkcgjpaa.Mk Go.Proofs.Ytondnammkcgjpaa.Rg Go.Proofs.Ytondnammkcgjpaa.RgP Go.Proofs.Ytondnammkcgjpaa.Rf Go.Proofs.Ytondnammkcgjpaa.RgL Go.Proofs.Ytondnammkcgjpaa.Til Go.Proofs.Ytondnammkcgjpaa.Fg
set_option linter.unusedVariables false
set_option linter.unusedSimpArgs false
set_option maxRecDepth 100000 in
set_option maxHeartbeats 8000000 in
theorem gives_none (A : Option Addr) (c : Nat) (l : List ByteArray) (s : Nat) (b : Bool) (lv ix : Int) (w : World) (hb : fewB l 70 40 = true) (hs : s ≤ 64) (hsm : s ≤ l.length) (hbl : b = true → lv = 0) (hw : inTile ix (cntv s lv) = 0) (hr : Kd.C Kd.string w A l.length l) :
    Calls Try.prog 8 #[.slice A l.length c, .int .i64 (s : Int), .agg #[.bool b, .int .i64 lv, .int .i64 ix]] w fun e w' => e = .returned (.bool true) ∧ Below w.heap.size w w' := by
  have OW := Aside0.mk (Mem.Own.nil w)
  have HAW := Aside0.mk awake21_c
  have HF := Aside0.mk (fun W h => few7040 A c l W h)
  rw [hb] at HF
  have HR := Aside0.mk hr
  have HG := Aside0.mk (fun W => give_nil A l.length c s b lv ix W hs hsm hbl hw)
  have HW := Aside0.mk (fun W => rwidth_c (s : Int) lv ix W)
  rw [hw] at HW
  have h1 : ¬ (64 : Int) < (s : Int) := by omega
  have h2 : ¬ (l.length : Int) < (s : Int) := by omega
  clear hb hr hw hs hsm
  go_enter Try.func8, Try.ntmps8
  go_wp2_with (first
    | ((with_reducible refine gate_dst (N := 5) rfl ?_); refine box_event ?hg (N := 5) ?hd (cs := #[.bool b, .int .i64 lv, .int .i64 ix]) (t := 58) ?hr ?_; (case hd => rfl); (case hg => rfl); (case hr => first | (go_simp; done) | (go_simp; rfl)); intro gW hg W_ hb hbb; have n_ : Aside0 (Mem.Own w W_ [(gW, #[.bool b, .int .i64 lv, .int .i64 ix], 58)]) := ⟨OW.out.new hg hb hbb⟩; clear OW hb hbb hg; have OW := n_; clear n_)
    | (go_at_call 31; (with_reducible refine (HAW.out _).mono ?_); rintro e w_ ⟨rfl, hB⟩; have n_ := Aside0.mk (OW.out.step hB); clear OW hB; have OW := n_; clear n_)
    | (go_at_call 15; (with_reducible refine (HF.out _ (Kd.C_below HR.out OW.out.below)).mono ?_); rintro e w_ ⟨rfl, rfl⟩))
  have OD := Aside0.mk OW.out.drew
  have j0 : w_.drew.cell? ⟨gW, 0, none⟩ = some (.bool b) := (OD.out.cell 0 rfl 0).trans rfl
  have j1 : w_.drew.cell? ⟨gW, 1, none⟩ = some (.int .i64 lv) := (OD.out.cell 0 rfl 1).trans rfl
  have j2 : w_.drew.cell? ⟨gW, 2, none⟩ = some (.int .i64 ix) := (OD.out.cell 0 rfl 2).trans rfl
  clear OW
  refine start_ (n := 10) (S := fun w' => Below (w_).drew.heap.size (w_).drew w') (ds := []) #[false, false, false, false, false, false, false, false, false, false] (by kernel_rfl) rfl rfl (Below.refl _ _) (fun hHeld => ?_)
  generalize (w_).drew = W0 at *
  refine pure_ (i := 1) (N := (some 19)) (v := ?_) (a' := ?_) #[false, true, false, false, false, false, false, false, false, false] rfl rfl (by kernel_rfl) (fun _ _ _ h => h) (Or.inl ⟨by rfl, ?_⟩) ?_ ?_
  rotate_left
  · intro w'
    go_simp
    first | done | with_reducible rfl
  rotate_left
  · simp only [Act.put, List.setIfInBounds_toArray, List.set_cons_zero, List.set_cons_succ, i64_w, i32_w]
    rfl
  refine pure_ (i := 2) (N := (some 20)) (v := ?_) (a' := ?_) #[false, true, true, false, false, false, false, false, false, false] rfl rfl (by kernel_rfl) (fun _ _ _ h => h) (Or.inl ⟨by rfl, ?_⟩) ?_ ?_
  rotate_left
  · intro w'
    go_simp
    first | done | with_reducible rfl
  rotate_left
  · simp only [Act.put, List.setIfInBounds_toArray, List.set_cons_zero, List.set_cons_succ, i64_w, i32_w]
    rfl
  refine take_ (i := 3) (N := (some 21)) (v := ?_) (a' := ?_) #[false, true, true, true, false, false, false, false, false, false] rfl rfl (by kernel_rfl) (fun _ _ _ h => h) (Or.inl ⟨by rfl, ?_⟩) hHeld ?_ ?_
  rotate_left
  · intro w' hS
    have s0 := pw_cell_below hS j0
    have s1 := pw_cell_below hS j1
    have s2 := pw_cell_below hS j2
    go_simp
    first | done | with_reducible rfl
  rotate_left
  · simp only [Act.put, List.setIfInBounds_toArray, List.set_cons_zero, List.set_cons_succ, i64_w, i32_w]
    rfl
  refine one_ (i := 0) (N := (some 18)) #[true, true, true, true, false, false, false, false, false, false] rfl rfl (by kernel_rfl) (by decide) (fun K hK => ?_)
  refine goes_ Try.func16 (by kernel_rfl) rfl #[] (by rfl) rfl rfl (by (try simp only [List.map_toArray, List.map_cons, List.map_nil]); first | done | rfl) ?_
  (with_reducible refine (make_c _).mono ?_)
  rintro e wa ⟨rfl, hB⟩
  refine ⟨_, rfl, ?_⟩
  have hS2 : Below W0.heap.size W0 wa := hB
  clear hB
  refine hK.out _ _ hS2 (fun hHeld => ?_)
  clear hK K
  refine norm_ (a' := ?_) ?_ ?_
  rotate_left
  · show Act.put _ (some 18) _ = _
    simp only [Act.put, List.setIfInBounds_toArray, List.set_cons_zero, List.set_cons_succ, i64_w, i32_w]
    rfl
  refine one_ (i := 4) (N := (some 22)) #[true, true, true, true, true, false, false, false, false, false] rfl rfl (by kernel_rfl) (by decide) (fun K hK => ?_)
  refine goes_ Try.func32 (by kernel_rfl) rfl #[.agg TV, .slice A l.length c, .int .i64 (s : Int), .agg #[.bool b, .int .i64 lv, .int .i64 ix]] (by rfl) rfl rfl (by (try simp only [List.map_toArray, List.map_cons, List.map_nil]); first | done | rfl) ?_
  (with_reducible refine (HG.out _).mono ?_)
  rintro e wb ⟨rfl, hB⟩
  refine ⟨_, rfl, ?_⟩
  have hS2 : Below W0.heap.size W0 wb := below_step hHeld hB
  clear hB hHeld
  refine hK.out _ _ hS2 (fun hHeld => ?_)
  clear hK K
  refine norm_ (a' := ?_) ?_ ?_
  rotate_left
  · show Act.put _ (some 22) _ = _
    simp only [Act.put, List.setIfInBounds_toArray, List.set_cons_zero, List.set_cons_succ, i64_w, i32_w]
    rfl
  refine pure_ (i := 5) (N := (some 17)) (v := ?_) (a' := ?_) #[true, true, true, true, true, true, false, false, false, false] rfl rfl (by kernel_rfl) (fun _ _ _ h => h) (Or.inl ⟨by rfl, ?_⟩) ?_ ?_
  rotate_left
  · intro w'
    go_simp
    first | done | with_reducible rfl
  rotate_left
  · simp only [Act.put, List.setIfInBounds_toArray, List.set_cons_zero, List.set_cons_succ, i64_w, i32_w]
    rfl
  refine pure_ (i := 6) (N := (some 23)) (v := ?_) (a' := ?_) #[true, true, true, true, true, true, true, false, false, false] rfl rfl (by kernel_rfl) (fun _ _ _ h => h) (Or.inl ⟨by rfl, ?_⟩) ?_ ?_
  rotate_left
  · intro w'
    go_simp
    first | done | with_reducible rfl
  rotate_left
  · simp only [Act.put, List.setIfInBounds_toArray, List.set_cons_zero, List.set_cons_succ, i64_w, i32_w]
    rfl
  refine pure_ (i := 7) (N := (some 24)) (v := ?_) (a' := ?_) #[true, true, true, true, true, true, true, true, false, false] rfl rfl (by kernel_rfl) (fun _ _ _ h => h) (Or.inl ⟨by rfl, ?_⟩) ?_ ?_
  rotate_left
  · intro w'
    go_simp
    first | done | with_reducible rfl
  rotate_left
  · simp only [Act.put, List.setIfInBounds_toArray, List.set_cons_zero, List.set_cons_succ, i64_w, i32_w]
    rfl
  refine pure_ (i := 8) (N := (some 7)) (v := ?_) (a' := ?_) #[true, true, true, true, true, true, true, true, true, false] rfl rfl (by kernel_rfl) (fun _ _ _ h => h) (Or.inl ⟨by rfl, ?_⟩) ?_ ?_
  rotate_left
  · intro w'
    go_simp
    first | done | with_reducible rfl
  rotate_left
  · simp only [Act.put, List.setIfInBounds_toArray, List.set_cons_zero, List.set_cons_succ, i64_w, i32_w]
    rfl
  refine pure_ (i := 9) (N := (some 8)) (v := ?_) (a' := ?_) #[true, true, true, true, true, true, true, true, true, true] rfl rfl (by kernel_rfl) (fun _ _ _ h => h) (Or.inl ⟨by rfl, ?_⟩) ?_ ?_
  rotate_left
  · intro w'
    go_simp
    first | done | with_reducible rfl
  rotate_left
  · simp only [Act.put, List.setIfInBounds_toArray, List.set_cons_zero, List.set_cons_succ, i64_w, i32_w]
    rfl
  refine done_ (by kernel_rfl) ?_
  have OE := Aside0.mk (OD.out.step hHeld)
  have i0 := (OE.out.cell 0 rfl 0).trans rfl
  have i1 := (OE.out.cell 0 rfl 1).trans rfl
  have i2 := (OE.out.cell 0 rfl 2).trans rfl
  clear OD hHeld j0 j1 j2
  rcases b with _ | _
  · clear hbl
    go_wp2_with (first
      | (go_at_call 25; (with_reducible refine (HW.out _).mono ?_); rintro e w_ ⟨rfl, rfl⟩))
    go_ret
    exact ⟨rfl, OE.out.below⟩
  · obtain rfl := hbl rfl
    go_wp2_with (first
      | (go_at_call 25; (with_reducible refine (HW.out _).mono ?_); rintro e w_ ⟨rfl, rfl⟩))
    go_ret
    exact ⟨rfl, OE.out.below⟩
set_option maxRecDepth 100000 in
set_option maxHeartbeats 8000000 in
theorem gives_main (A : Option Addr) (c : Nat) (l : List ByteArray) (s : Nat) (b : Bool) (lv ix : Int) (w : World) (hb : fewB l 70 40 = true) (hs : s ≤ 64) (hsm : s ≤ l.length) (hc : l.length ≤ c) (hbl : b = true → lv = 0) (hw : inTile ix (cntv s lv) ≠ 0) (hr : Kd.C Kd.string w A l.length l) :
    Calls Try.prog 8 #[.slice A l.length c, .int .i64 (s : Int), .agg #[.bool b, .int .i64 lv, .int .i64 ix]] w fun e w' => e = .returned (.bool true) ∧ Below w.heap.size w w' := by
  have OW := Aside0.mk (Mem.Own.nil w)
  have HAW := Aside0.mk awake21_c
  have HF := Aside0.mk (fun W h => few7040 A c l W h)
  rw [hb] at HF
  have HR := Aside0.mk hr
  obtain ⟨_, hsz0⟩ := few_yes hb (by omega)
  have hsz : ∀ x ∈ l, x.size ≤ 10000 := fun x hx => Nat.le_trans (hsz0 x hx) (by omega)
  have hsz2 : ∀ x ∈ l.take s, x.size ≤ 10000 := fun x hx => hsz x (List.mem_of_mem_take hx)
  have htl : (l.take s).length = s := by rw [List.length_take]; omega
  have HG := Aside0.mk (fun W (h : Below w.heap.size w W) => give_any A c l s b lv ix W hs hsm hbl hsz hw hc (Kd.C_below hr h))
  obtain ⟨hcut, hC9, _⟩ := cut_take A c l s hsm hc
  rw [htl] at hcut hC9
  have HRG := Aside0.mk (fun W (h : Below w.heap.size w W) => rgive_any A c (l.take s) s b lv ix W hs htl hbl hsz2 hw (by omega) (hC9 W (Kd.C_below hr h)))
  have HW := Aside0.mk (fun W => rwidth_c (s : Int) lv ix W)
  have hwb : (inTile ix (cntv s lv) == 0) = false := beq_eq_false_iff_ne.2 hw
  generalize inTile ix (cntv s lv) = nw at *
  generalize giveF (l.take s) b lv ix = G at *
  have HSM := Aside0.mk (fun (A4 A5 : Option Addr) (c4 c5 : Nat) (W : World) h h2 => same21_c A4 A5 c4 c5 G G W h h2)
  have hdec : decide (G = G) = true := decide_eq_true rfl
  rw [hdec] at HSM
  have h1 : ¬ (64 : Int) < (s : Int) := by omega
  have h2 : ¬ (l.length : Int) < (s : Int) := by omega
  clear hb hr hs hsm hsz0 hsz hsz2 hc hC9 htl hdec
  go_enter Try.func8, Try.ntmps8
  go_wp2_with (first
    | ((with_reducible refine gate_dst (N := 5) rfl ?_); refine box_event ?hg (N := 5) ?hd (cs := #[.bool b, .int .i64 lv, .int .i64 ix]) (t := 58) ?hr ?_; (case hd => rfl); (case hg => rfl); (case hr => first | (go_simp; done) | (go_simp; rfl)); intro gW hg W_ hb hbb; have n_ : Aside0 (Mem.Own w W_ [(gW, #[.bool b, .int .i64 lv, .int .i64 ix], 58)]) := ⟨OW.out.new hg hb hbb⟩; clear OW hb hbb hg; have OW := n_; clear n_)
    | (go_at_call 31; (with_reducible refine (HAW.out _).mono ?_); rintro e w_ ⟨rfl, hB⟩; have n_ := Aside0.mk (OW.out.step hB); clear OW hB; have OW := n_; clear n_)
    | (go_at_call 15; (with_reducible refine (HF.out _ (Kd.C_below HR.out OW.out.below)).mono ?_); rintro e w_ ⟨rfl, rfl⟩))
  have OD := Aside0.mk OW.out.drew
  have j0 : w_.drew.cell? ⟨gW, 0, none⟩ = some (.bool b) := (OD.out.cell 0 rfl 0).trans rfl
  have j1 : w_.drew.cell? ⟨gW, 1, none⟩ = some (.int .i64 lv) := (OD.out.cell 0 rfl 1).trans rfl
  have j2 : w_.drew.cell? ⟨gW, 2, none⟩ = some (.int .i64 ix) := (OD.out.cell 0 rfl 2).trans rfl
  clear OW
  refine start_ (n := 10) (S := fun w' => Below (w_).drew.heap.size (w_).drew w') (ds := []) #[false, false, false, false, false, false, false, false, false, false] (by kernel_rfl) rfl rfl (Below.refl _ _) (fun hHeld => ?_)
  generalize (w_).drew = W0 at *
  refine pure_ (i := 1) (N := (some 19)) (v := ?_) (a' := ?_) #[false, true, false, false, false, false, false, false, false, false] rfl rfl (by kernel_rfl) (fun _ _ _ h => h) (Or.inl ⟨by rfl, ?_⟩) ?_ ?_
  rotate_left
  · intro w'
    go_simp
    first | done | with_reducible rfl
  rotate_left
  · simp only [Act.put, List.setIfInBounds_toArray, List.set_cons_zero, List.set_cons_succ, i64_w, i32_w]
    rfl
  refine pure_ (i := 2) (N := (some 20)) (v := ?_) (a' := ?_) #[false, true, true, false, false, false, false, false, false, false] rfl rfl (by kernel_rfl) (fun _ _ _ h => h) (Or.inl ⟨by rfl, ?_⟩) ?_ ?_
  rotate_left
  · intro w'
    go_simp
    first | done | with_reducible rfl
  rotate_left
  · simp only [Act.put, List.setIfInBounds_toArray, List.set_cons_zero, List.set_cons_succ, i64_w, i32_w]
    rfl
  refine take_ (i := 3) (N := (some 21)) (v := ?_) (a' := ?_) #[false, true, true, true, false, false, false, false, false, false] rfl rfl (by kernel_rfl) (fun _ _ _ h => h) (Or.inl ⟨by rfl, ?_⟩) hHeld ?_ ?_
  rotate_left
  · intro w' hS
    have s0 := pw_cell_below hS j0
    have s1 := pw_cell_below hS j1
    have s2 := pw_cell_below hS j2
    go_simp
    first | done | with_reducible rfl
  rotate_left
  · simp only [Act.put, List.setIfInBounds_toArray, List.set_cons_zero, List.set_cons_succ, i64_w, i32_w]
    rfl
  refine one_ (i := 0) (N := (some 18)) #[true, true, true, true, false, false, false, false, false, false] rfl rfl (by kernel_rfl) (by decide) (fun K hK => ?_)
  refine goes_ Try.func16 (by kernel_rfl) rfl #[] (by rfl) rfl rfl (by (try simp only [List.map_toArray, List.map_cons, List.map_nil]); first | done | rfl) ?_
  (with_reducible refine (make_c _).mono ?_)
  rintro e wa ⟨rfl, hB⟩
  refine ⟨_, rfl, ?_⟩
  have hS2 : Below W0.heap.size W0 wa := hB
  clear hB
  refine hK.out _ _ hS2 (fun hHeld => ?_)
  clear hK K
  refine norm_ (a' := ?_) ?_ ?_
  rotate_left
  · show Act.put _ (some 18) _ = _
    simp only [Act.put, List.setIfInBounds_toArray, List.set_cons_zero, List.set_cons_succ, i64_w, i32_w]
    rfl
  refine one_ (i := 4) (N := (some 22)) #[true, true, true, true, true, false, false, false, false, false] rfl rfl (by kernel_rfl) (by decide) (fun K hK => ?_)
  refine goes_ Try.func32 (by kernel_rfl) rfl #[.agg TV, .slice A l.length c, .int .i64 (s : Int), .agg #[.bool b, .int .i64 lv, .int .i64 ix]] (by rfl) rfl rfl (by (try simp only [List.map_toArray, List.map_cons, List.map_nil]); first | done | rfl) ?_
  (with_reducible refine (HG.out _ (below_step OD.out.below hHeld)).mono ?_)
  rintro e wb ⟨A5, c5, rfl, hr5, hB⟩
  refine ⟨_, rfl, ?_⟩
  have hS2 : Below W0.heap.size W0 wb := below_step hHeld hB
  have HV := Aside0.mk hr5
  clear hB hHeld hr5
  refine hK.out _ _ hS2 (fun hHeld => ?_)
  clear hK K
  refine norm_ (a' := ?_) ?_ ?_
  rotate_left
  · show Act.put _ (some 22) _ = _
    simp only [Act.put, List.setIfInBounds_toArray, List.set_cons_zero, List.set_cons_succ, i64_w, i32_w]
    rfl
  refine pure_ (i := 5) (N := (some 17)) (v := ?_) (a' := ?_) #[true, true, true, true, true, true, false, false, false, false] rfl rfl (by kernel_rfl) (fun _ _ _ h => h) (Or.inl ⟨by rfl, ?_⟩) ?_ ?_
  rotate_left
  · intro w'
    go_simp
    first | done | with_reducible rfl
  rotate_left
  · simp only [Act.put, List.setIfInBounds_toArray, List.set_cons_zero, List.set_cons_succ, i64_w, i32_w]
    rfl
  refine pure_ (i := 6) (N := (some 23)) (v := ?_) (a' := ?_) #[true, true, true, true, true, true, true, false, false, false] rfl rfl (by kernel_rfl) (fun _ _ _ h => h) (Or.inl ⟨by rfl, ?_⟩) ?_ ?_
  rotate_left
  · intro w'
    go_simp
    first | done | with_reducible rfl
  rotate_left
  · simp only [Act.put, List.setIfInBounds_toArray, List.set_cons_zero, List.set_cons_succ, i64_w, i32_w]
    rfl
  refine pure_ (i := 7) (N := (some 24)) (v := ?_) (a' := ?_) #[true, true, true, true, true, true, true, true, false, false] rfl rfl (by kernel_rfl) (fun _ _ _ h => h) (Or.inl ⟨by rfl, ?_⟩) ?_ ?_
  rotate_left
  · intro w'
    go_simp
    first | done | with_reducible rfl
  rotate_left
  · simp only [Act.put, List.setIfInBounds_toArray, List.set_cons_zero, List.set_cons_succ, i64_w, i32_w]
    rfl
  refine pure_ (i := 8) (N := (some 7)) (v := ?_) (a' := ?_) #[true, true, true, true, true, true, true, true, true, false] rfl rfl (by kernel_rfl) (fun _ _ _ h => h) (Or.inl ⟨by rfl, ?_⟩) ?_ ?_
  rotate_left
  · intro w'
    go_simp
    first | done | with_reducible rfl
  rotate_left
  · simp only [Act.put, List.setIfInBounds_toArray, List.set_cons_zero, List.set_cons_succ, i64_w, i32_w]
    rfl
  refine pure_ (i := 9) (N := (some 8)) (v := ?_) (a' := ?_) #[true, true, true, true, true, true, true, true, true, true] rfl rfl (by kernel_rfl) (fun _ _ _ h => h) (Or.inl ⟨by rfl, ?_⟩) ?_ ?_
  rotate_left
  · intro w'
    go_simp
    first | done | with_reducible rfl
  rotate_left
  · simp only [Act.put, List.setIfInBounds_toArray, List.set_cons_zero, List.set_cons_succ, i64_w, i32_w]
    rfl
  refine done_ (by kernel_rfl) ?_
  have OE := Aside0.mk (OD.out.step hHeld)
  have i0 := (OE.out.cell 0 rfl 0).trans rfl
  have i1 := (OE.out.cell 0 rfl 1).trans rfl
  have i2 := (OE.out.cell 0 rfl 2).trans rfl
  clear OD hHeld j0 j1 j2
  rcases b with _ | _
  · clear hbl
    go_wp2_with (first
      | (go_at_call 25; (with_reducible refine (HW.out _).mono ?_); rintro e w_ ⟨rfl, rfl⟩))
    have OF := Aside0.mk OE.out.drew
    have HV2 := Aside0.mk (Kd.R_reads' (Kd.R_drew HV.out)).2.2
    have k0 : wb.drew.cell? ⟨gW, 0, none⟩ = some (.bool false) := (OF.out.cell 0 rfl 0).trans rfl
    have k1 : wb.drew.cell? ⟨gW, 1, none⟩ = some (.int .i64 lv) := (OF.out.cell 0 rfl 1).trans rfl
    have k2 : wb.drew.cell? ⟨gW, 2, none⟩ = some (.int .i64 ix) := (OF.out.cell 0 rfl 2).trans rfl
    clear OE HV i0 i1 i2
    refine start_ (n := 12) (S := fun w' => Below (wb).drew.heap.size (wb).drew w') (ds := []) #[false, false, false, false, false, false, false, false, false, false, false, false] (by kernel_rfl) rfl rfl (Below.refl _ _) (fun hHeld => ?_)
    generalize (wb).drew = W0 at *
    refine pure_ (i := 0) (N := (some 65)) (v := ?_) (a' := ?_) #[true, false, false, false, false, false, false, false, false, false, false, false] rfl rfl (by kernel_rfl) (fun _ _ _ h => h) (Or.inl ⟨by rfl, ?_⟩) ?_ ?_
    rotate_left
    · intro w'
      go_simp
      first | done | with_reducible rfl
    rotate_left
    · simp only [Act.put, List.setIfInBounds_toArray, List.set_cons_zero, List.set_cons_succ, i64_w, i32_w]
      rfl
    refine pure_ (i := 1) (N := (some 66)) (v := ?_) (a' := ?_) #[true, true, false, false, false, false, false, false, false, false, false, false] rfl rfl (by kernel_rfl) (fun _ _ _ h => h) (Or.inl ⟨by rfl, ?_⟩) ?_ ?_
    rotate_left
    · intro w'
      go_simp
      first | done | with_reducible rfl
    rotate_left
    · simp only [Act.put, List.setIfInBounds_toArray, List.set_cons_zero, List.set_cons_succ, i64_w, i32_w]
      rfl
    refine pure_ (i := 2) (N := (some 67)) (v := ?_) (a' := ?_) #[true, true, true, false, false, false, false, false, false, false, false, false] rfl rfl (by kernel_rfl) (fun _ _ _ h => h) (Or.inl ⟨by rfl, ?_⟩) ?_ ?_
    rotate_left
    · intro w'
      go_simp
      first | done | with_reducible rfl
    rotate_left
    · simp only [Act.put, List.setIfInBounds_toArray, List.set_cons_zero, List.set_cons_succ, i64_w, i32_w]
      rfl
    refine pure_ (i := 3) (N := (some 68)) (v := ?_) (a' := ?_) #[true, true, true, true, false, false, false, false, false, false, false, false] rfl rfl (by kernel_rfl) (fun _ _ _ h => h) (Or.inl ⟨by rfl, ?_⟩) ?_ ?_
    rotate_left
    · intro w'
      go_simp
      first | done | with_reducible rfl
    rotate_left
    · simp only [Act.put, List.setIfInBounds_toArray, List.set_cons_zero, List.set_cons_succ, i64_w, i32_w]
      rfl
    refine pure_ (i := 4) (N := (some 69)) (v := ?_) (a' := ?_) #[true, true, true, true, true, false, false, false, false, false, false, false] rfl rfl (by kernel_rfl) (fun _ _ _ h => h) (Or.inl ⟨by rfl, ?_⟩) ?_ ?_
    rotate_left
    · intro w'
      go_simp
      first | done | with_reducible rfl
    rotate_left
    · simp only [Act.put, List.setIfInBounds_toArray, List.set_cons_zero, List.set_cons_succ, i64_w, i32_w]
      rfl
    refine pure_ (i := 5) (N := (some 70)) (v := ?_) (a' := ?_) #[true, true, true, true, true, true, false, false, false, false, false, false] rfl rfl (by kernel_rfl) (fun _ _ _ h => h) (Or.inl ⟨by rfl, ?_⟩) ?_ ?_
    rotate_left
    · intro w'
      go_simp
      first | done | with_reducible rfl
    rotate_left
    · simp only [Act.put, List.setIfInBounds_toArray, List.set_cons_zero, List.set_cons_succ, i64_w, i32_w]
      rfl
    refine pure_ (i := 6) (N := (some 71)) (v := ?_) (a' := ?_) #[true, true, true, true, true, true, true, false, false, false, false, false] rfl rfl (by kernel_rfl) (fun _ _ _ h => h) (Or.inl ⟨by rfl, ?_⟩) ?_ ?_
    rotate_left
    · intro w'
      go_simp
      first | done | with_reducible rfl
    rotate_left
    · simp only [Act.put, List.setIfInBounds_toArray, List.set_cons_zero, List.set_cons_succ, i64_w, i32_w]
      rfl
    refine take_ (i := 7) (N := (some 72)) (v := ?_) (a' := ?_) #[true, true, true, true, true, true, true, true, false, false, false, false] rfl rfl (by kernel_rfl) (fun _ _ _ h => h) (Or.inl ⟨by rfl, ?_⟩) hHeld ?_ ?_
    rotate_left
    · intro w' hS
      have s0 := pw_cell_below hS k0
      have s1 := pw_cell_below hS k1
      have s2 := pw_cell_below hS k2
      go_simp
      first | done | with_reducible rfl
    rotate_left
    · simp only [Act.put, List.setIfInBounds_toArray, List.set_cons_zero, List.set_cons_succ, i64_w, i32_w]
      rfl
    refine one_ (i := 8) (N := (some 73)) #[true, true, true, true, true, true, true, true, true, false, false, false] rfl rfl (by kernel_rfl) (by decide) (fun K hK => ?_)
    refine goes_ Try.func34 (by kernel_rfl) rfl #[.slice A s c, .agg #[.bool false, .int .i64 lv, .int .i64 ix]] (by rfl) rfl rfl (by (try simp only [List.map_toArray, List.map_cons, List.map_nil]); first | done | rfl) ?_
    (with_reducible refine (HRG.out _ (below_step OF.out.below hHeld)).mono ?_)
    rintro e wc ⟨A6, c6, rfl, hC6, _, hB⟩
    refine ⟨_, rfl, ?_⟩
    have hS2 : Below W0.heap.size W0 wc := below_step hHeld hB
    have HC6 := Aside0.mk hC6
    clear hB hHeld hC6
    refine hK.out _ _ hS2 (fun hHeld => ?_)
    clear hK K
    refine norm_ (a' := ?_) ?_ ?_
    rotate_left
    · show Act.put _ (some 73) _ = _
      simp only [Act.put, List.setIfInBounds_toArray, List.set_cons_zero, List.set_cons_succ, i64_w, i32_w]
      rfl
    refine one_ (i := 9) (N := (some 74)) #[true, true, true, true, true, true, true, true, true, true, false, false] rfl rfl (by kernel_rfl) (by decide) (fun K hK => ?_)
    refine goes_ Try.func33 (by kernel_rfl) rfl #[.slice A5 G.length c5, .slice A6 G.length c6] (by rfl) rfl rfl (by (try simp only [List.map_toArray, List.map_cons, List.map_nil]); first | done | rfl) ?_
    (with_reducible refine (HSM.out A5 A6 c5 c6 _ (Kd.C_below HV2.out hHeld) HC6.out).mono ?_)
    rintro e wd ⟨rfl, hB⟩
    refine ⟨_, rfl, ?_⟩
    have hS2 : Below W0.heap.size W0 wd := below_step hHeld hB
    clear hB hHeld HC6
    refine hK.out _ _ hS2 (fun hHeld => ?_)
    clear hK K
    refine norm_ (a' := ?_) ?_ ?_
    rotate_left
    · show Act.put _ (some 74) _ = _
      simp only [Act.put, List.setIfInBounds_toArray, List.set_cons_zero, List.set_cons_succ, i64_w, i32_w]
      rfl
    refine pure_ (i := 10) (N := (some 75)) (v := ?_) (a' := ?_) #[true, true, true, true, true, true, true, true, true, true, true, false] rfl rfl (by kernel_rfl) (fun _ _ _ h => h) (Or.inl ⟨by rfl, ?_⟩) ?_ ?_
    rotate_left
    · intro w'
      go_simp
      first | done | with_reducible rfl
    rotate_left
    · simp only [Act.put, List.setIfInBounds_toArray, List.set_cons_zero, List.set_cons_succ, i64_w, i32_w]
      rfl
    refine pure_ (i := 11) (N := (some 6)) (v := ?_) (a' := ?_) #[true, true, true, true, true, true, true, true, true, true, true, true] rfl rfl (by kernel_rfl) (fun _ _ _ h => h) (Or.inl ⟨by rfl, ?_⟩) ?_ ?_
    rotate_left
    · intro w'
      go_simp
      first | done | with_reducible rfl
    rotate_left
    · simp only [Act.put, List.setIfInBounds_toArray, List.set_cons_zero, List.set_cons_succ, i64_w, i32_w]
      rfl
    refine done_ (by kernel_rfl) ?_
    have OB := Aside0.mk (OF.out.step hHeld).below
    clear hHeld
    go_wp2_with fail
    go_ret
    exact ⟨rfl, OB.out⟩
  · obtain rfl := hbl rfl
    go_wp2_with (first
      | (go_at_call 25; (with_reducible refine (HW.out _).mono ?_); rintro e w_ ⟨rfl, rfl⟩))
    have OF := Aside0.mk OE.out.drew
    have HV2 := Aside0.mk (Kd.R_reads' (Kd.R_drew HV.out)).2.2
    have k0 : wb.drew.cell? ⟨gW, 0, none⟩ = some (.bool true) := (OF.out.cell 0 rfl 0).trans rfl
    have k1 : wb.drew.cell? ⟨gW, 1, none⟩ = some (.int .i64 0) := (OF.out.cell 0 rfl 1).trans rfl
    have k2 : wb.drew.cell? ⟨gW, 2, none⟩ = some (.int .i64 ix) := (OF.out.cell 0 rfl 2).trans rfl
    clear OE HV i0 i1 i2
    refine start_ (n := 12) (S := fun w' => Below (wb).drew.heap.size (wb).drew w') (ds := []) #[false, false, false, false, false, false, false, false, false, false, false, false] (by kernel_rfl) rfl rfl (Below.refl _ _) (fun hHeld => ?_)
    generalize (wb).drew = W0 at *
    refine pure_ (i := 0) (N := (some 65)) (v := ?_) (a' := ?_) #[true, false, false, false, false, false, false, false, false, false, false, false] rfl rfl (by kernel_rfl) (fun _ _ _ h => h) (Or.inl ⟨by rfl, ?_⟩) ?_ ?_
    rotate_left
    · intro w'
      go_simp
      first | done | with_reducible rfl
    rotate_left
    · simp only [Act.put, List.setIfInBounds_toArray, List.set_cons_zero, List.set_cons_succ, i64_w, i32_w]
      rfl
    refine pure_ (i := 1) (N := (some 66)) (v := ?_) (a' := ?_) #[true, true, false, false, false, false, false, false, false, false, false, false] rfl rfl (by kernel_rfl) (fun _ _ _ h => h) (Or.inl ⟨by rfl, ?_⟩) ?_ ?_
    rotate_left
    · intro w'
      go_simp
      first | done | with_reducible rfl
    rotate_left
    · simp only [Act.put, List.setIfInBounds_toArray, List.set_cons_zero, List.set_cons_succ, i64_w, i32_w]
      rfl
    refine pure_ (i := 2) (N := (some 67)) (v := ?_) (a' := ?_) #[true, true, true, false, false, false, false, false, false, false, false, false] rfl rfl (by kernel_rfl) (fun _ _ _ h => h) (Or.inl ⟨by rfl, ?_⟩) ?_ ?_
    rotate_left
    · intro w'
      go_simp
      first | done | with_reducible rfl
    rotate_left
    · simp only [Act.put, List.setIfInBounds_toArray, List.set_cons_zero, List.set_cons_succ, i64_w, i32_w]
      rfl
    refine pure_ (i := 3) (N := (some 68)) (v := ?_) (a' := ?_) #[true, true, true, true, false, false, false, false, false, false, false, false] rfl rfl (by kernel_rfl) (fun _ _ _ h => h) (Or.inl ⟨by rfl, ?_⟩) ?_ ?_
    rotate_left
    · intro w'
      go_simp
      first | done | with_reducible rfl
    rotate_left
    · simp only [Act.put, List.setIfInBounds_toArray, List.set_cons_zero, List.set_cons_succ, i64_w, i32_w]
      rfl
    refine pure_ (i := 4) (N := (some 69)) (v := ?_) (a' := ?_) #[true, true, true, true, true, false, false, false, false, false, false, false] rfl rfl (by kernel_rfl) (fun _ _ _ h => h) (Or.inl ⟨by rfl, ?_⟩) ?_ ?_
    rotate_left
    · intro w'
      go_simp
      first | done | with_reducible rfl
    rotate_left
    · simp only [Act.put, List.setIfInBounds_toArray, List.set_cons_zero, List.set_cons_succ, i64_w, i32_w]
      rfl
    refine pure_ (i := 5) (N := (some 70)) (v := ?_) (a' := ?_) #[true, true, true, true, true, true, false, false, false, false, false, false] rfl rfl (by kernel_rfl) (fun _ _ _ h => h) (Or.inl ⟨by rfl, ?_⟩) ?_ ?_
    rotate_left
    · intro w'
      go_simp
      first | done | with_reducible rfl
    rotate_left
    · simp only [Act.put, List.setIfInBounds_toArray, List.set_cons_zero, List.set_cons_succ, i64_w, i32_w]
      rfl
    refine pure_ (i := 6) (N := (some 71)) (v := ?_) (a' := ?_) #[true, true, true, true, true, true, true, false, false, false, false, false] rfl rfl (by kernel_rfl) (fun _ _ _ h => h) (Or.inl ⟨by rfl, ?_⟩) ?_ ?_
    rotate_left
    · intro w'
      go_simp
      first | done | with_reducible rfl
    rotate_left
    · simp only [Act.put, List.setIfInBounds_toArray, List.set_cons_zero, List.set_cons_succ, i64_w, i32_w]
      rfl
    refine take_ (i := 7) (N := (some 72)) (v := ?_) (a' := ?_) #[true, true, true, true, true, true, true, true, false, false, false, false] rfl rfl (by kernel_rfl) (fun _ _ _ h => h) (Or.inl ⟨by rfl, ?_⟩) hHeld ?_ ?_
    rotate_left
    · intro w' hS
      have s0 := pw_cell_below hS k0
      have s1 := pw_cell_below hS k1
      have s2 := pw_cell_below hS k2
      go_simp
      first | done | with_reducible rfl
    rotate_left
    · simp only [Act.put, List.setIfInBounds_toArray, List.set_cons_zero, List.set_cons_succ, i64_w, i32_w]
      rfl
    refine one_ (i := 8) (N := (some 73)) #[true, true, true, true, true, true, true, true, true, false, false, false] rfl rfl (by kernel_rfl) (by decide) (fun K hK => ?_)
    refine goes_ Try.func34 (by kernel_rfl) rfl #[.slice A s c, .agg #[.bool true, .int .i64 0, .int .i64 ix]] (by rfl) rfl rfl (by (try simp only [List.map_toArray, List.map_cons, List.map_nil]); first | done | rfl) ?_
    (with_reducible refine (HRG.out _ (below_step OF.out.below hHeld)).mono ?_)
    rintro e wc ⟨A6, c6, rfl, hC6, _, hB⟩
    refine ⟨_, rfl, ?_⟩
    have hS2 : Below W0.heap.size W0 wc := below_step hHeld hB
    have HC6 := Aside0.mk hC6
    clear hB hHeld hC6
    refine hK.out _ _ hS2 (fun hHeld => ?_)
    clear hK K
    refine norm_ (a' := ?_) ?_ ?_
    rotate_left
    · show Act.put _ (some 73) _ = _
      simp only [Act.put, List.setIfInBounds_toArray, List.set_cons_zero, List.set_cons_succ, i64_w, i32_w]
      rfl
    refine one_ (i := 9) (N := (some 74)) #[true, true, true, true, true, true, true, true, true, true, false, false] rfl rfl (by kernel_rfl) (by decide) (fun K hK => ?_)
    refine goes_ Try.func33 (by kernel_rfl) rfl #[.slice A5 G.length c5, .slice A6 G.length c6] (by rfl) rfl rfl (by (try simp only [List.map_toArray, List.map_cons, List.map_nil]); first | done | rfl) ?_
    (with_reducible refine (HSM.out A5 A6 c5 c6 _ (Kd.C_below HV2.out hHeld) HC6.out).mono ?_)
    rintro e wd ⟨rfl, hB⟩
    refine ⟨_, rfl, ?_⟩
    have hS2 : Below W0.heap.size W0 wd := below_step hHeld hB
    clear hB hHeld HC6
    refine hK.out _ _ hS2 (fun hHeld => ?_)
    clear hK K
    refine norm_ (a' := ?_) ?_ ?_
    rotate_left
    · show Act.put _ (some 74) _ = _
      simp only [Act.put, List.setIfInBounds_toArray, List.set_cons_zero, List.set_cons_succ, i64_w, i32_w]
      rfl
    refine pure_ (i := 10) (N := (some 75)) (v := ?_) (a' := ?_) #[true, true, true, true, true, true, true, true, true, true, true, false] rfl rfl (by kernel_rfl) (fun _ _ _ h => h) (Or.inl ⟨by rfl, ?_⟩) ?_ ?_
    rotate_left
    · intro w'
      go_simp
      first | done | with_reducible rfl
    rotate_left
    · simp only [Act.put, List.setIfInBounds_toArray, List.set_cons_zero, List.set_cons_succ, i64_w, i32_w]
      rfl
    refine pure_ (i := 11) (N := (some 6)) (v := ?_) (a' := ?_) #[true, true, true, true, true, true, true, true, true, true, true, true] rfl rfl (by kernel_rfl) (fun _ _ _ h => h) (Or.inl ⟨by rfl, ?_⟩) ?_ ?_
    rotate_left
    · intro w'
      go_simp
      first | done | with_reducible rfl
    rotate_left
    · simp only [Act.put, List.setIfInBounds_toArray, List.set_cons_zero, List.set_cons_succ, i64_w, i32_w]
      rfl
    refine done_ (by kernel_rfl) ?_
    have OB := Aside0.mk (OF.out.step hHeld).below
    clear hHeld
    go_wp2_with fail
    go_ret
    exact ⟨rfl, OB.out⟩
theorem law_gives (A : Option Addr) (c : Nat) (l : List ByteArray) (size : Int) (b : Bool) (lv ix : Int) (w : World) (hc : l.length ≤ c) (hr : Kd.C Kd.string w A l.length l) :
    Calls Try.prog 8 #[.slice A l.length c, .int .i64 size, .agg #[.bool b, .int .i64 lv, .int .i64 ix]] w fun e w' => e = .returned (.bool true) ∧ Below w.heap.size w w' := by
  cases hb : fewB l 70 40 with
  | false => exact gives_few A c l size b lv ix w hb hr
  | true =>
    cases ho : offB l.length size b lv with
    | true => exact gives_off A c l size b lv ix w hb ho hr
    | false =>
      unfold offB at ho
      simp only [Bool.or_eq_false_iff, Bool.and_eq_false_iff, decide_eq_false_iff_not] at ho
      obtain ⟨⟨⟨h1, h2⟩, h3⟩, h4⟩ := ho
      have hbl : b = true → lv = 0 := fun e => by
        rcases h4 with h | h
        · rw [e] at h; cases h
        · exact Decidable.byContradiction h
      obtain ⟨s, rfl⟩ : ∃ s : Nat, size = s := ⟨size.toNat, by omega⟩
      by_cases hw : inTile ix (cntv s lv) = 0
      · exact gives_none A c l s b lv ix w hb (by omega) (by omega) hbl hw hr
      · exact gives_main A c l s b lv ix w hb (by omega) (by omega) hc hbl hw hr
end Go.Proofs.Ytondnammkcgjpaa.Ft
namespace Go.Proofs.Ytondnammkcgjpaa.fetchGives
open Go.ChangeShapes Go.WideShapes Go.ChangeAt Go.RowKit
open Go.ChangeMaps (open_string shut_string)
open Go.Proofs.Ytondnammkcgjpaa Go.Proofs.YtondnammkcgjpaaOpens Go.Proofs.YtondnammkcgjpaaW.PrintWords
set_option linter.unusedVariables false
theorem own : ownKnob Try.prog.godebug = none := by kernel_rfl
theorem laidOut : laidOutB Try.prog = true := by kernel_rfl
set_option maxRecDepth 100000 in
theorem lifted (os : Os) (started : os.Started) (H : Type) (enc : TypeId × Value → H) :
    ReturnsInHanded {} Try.checked os 8 .any (Rows.fetchGivesSpec.pre6 enc Try.prog Try.f8 Rows.fetchGivesRow.domain false) (Rows.fetchGivesSpec.post enc Try.prog Try.f8 false true false false) := by
  refine returnsInHanded_of_change_sized (C := Try.checked) own started (by kernel_rfl) Try.func8
    (ChangeSpec.witness6 (enc := enc) (C := Try.checked) false ⟨#[], #[.slice none 0 0, .int .i64 0, .agg #[.bool false, .int .i64 0, .int .i64 0]], []⟩ 8 (by kernel_rfl) (by kernel_rfl) (by kernel_rfl) (by kernel_rfl)) ?_
  intro W base args ds gs before hval0 hW hcnd hsz0 _
  have hsz : (DataW.weightsEach Try.prog (Try.f8.params.toList ++ Rows.fetchGivesSpec.plain.varTypes Try.prog) (ds ++ gs)).all (· ≤ reachBytes) = true := hsz0
  have hval : ∀ (j : Nat) t v, Try.f8.params[j]? = some t → args[j]? = some v → Value.okWide Try.prog W .any base t v := hval0
  have hW' := hW
  obtain ⟨p, q, hA0, hV, rfl, hfz, hnd⟩ := hW
  have hA : DataW.TrodAll enc Try.prog W 0 (fun _ => true) true Try.f8.params.toList args.toList ds p := hA0
  rw [Try.params8] at hA hval hsz
  obtain ⟨v0, vs0, d0, ds0, p0, q0, hargs, rfl, rfl, h0, r0⟩ := trodAll_cons hA
  obtain ⟨v1, vs1, d1, ds1, p1, q1, rfl, rfl, rfl, h1, r1⟩ := trodAll_cons r0
  obtain ⟨v2, vs2, d2, ds2, p2, q2, rfl, rfl, rfl, h2, r2⟩ := trodAll_cons r1
  obtain ⟨rfl, rfl, rfl⟩ := trodAll_nil r2
  obtain rfl : args = #[v0, v1, v2] := by cases args; simp_all
  obtain ⟨rfl, rfl⟩ := trodVars_none hV
  have k0 := h0
  have lt0 : ∀ x ∈ p0, x.block < W.heap.size := by obtain ⟨m, hm⟩ := k0; exact DataW.trod_lt m _ _ _ hm
  obtain ⟨A0, c0, l0, rfl, hl0, hm0, hC0, hq0⟩ := arg_slice Try.underlying22 (by kernel_rfl) (reads_string Try.underlying9) (hval 0 22 v0 rfl rfl) h0
  obtain ⟨a1, rfl, rfl, rfl, w1⟩ := open_int Try.underlying3 (hval 1 3 v1 rfl rfl) h1
  have k2 := h2
  have lt2 : ∀ x ∈ p2, x.block < W.heap.size := by obtain ⟨m, hm⟩ := k2; exact DataW.trod_lt m _ _ _ hm
  obtain ⟨cs2, x2, rfl, hK2, hq2⟩ := arg_agg (d := (Kd.pair Kd.bool (Kd.pair (Kd.int .i64) (Kd.int .i64)))) Try.underlying58 (reads_struct Try.underlying58 (by kernel_rfl) (fs_cons (reads_bool Try.underlying4) (by kernel_rfl) rfl (by decide) (fs_last (reads_struct Try.underlying24 (by kernel_rfl) (fs_cons (reads_int Try.underlying3) (by kernel_rfl) rfl (by decide) (fs_last (reads_int Try.underlying3) (by kernel_rfl) rfl))) (by kernel_rfl) rfl))) (hval 2 58 v2 rfl rfl) h2
  obtain ⟨ls2⟩ := cs2
  obtain ⟨x2_0, ⟨x2_1, x2_2⟩⟩ := x2
  obtain ⟨_, _, rfl, rfl, ⟨_, _, rfl, rfl, rfl⟩⟩ := hK2
  clear hA0 hval0 hsz0 hsz
  refine (Go.Proofs.Ytondnammkcgjpaa.Ft.law_gives A0 c0 l0 a1 x2_0 x2_1 x2_2 W hl0 hC0).mono fun e W' ⟨he, bel⟩ => ?_
  subst he
  exact ⟨_, rfl, _, _, _, [], _, [], hW', trodAll_mk1 (shut_bool Try.underlying4 _), (trodAll_cons_mk (Below.trod laidOut (by kernel_rfl) (of_decide_eq_true (by kernel_rfl)) k0 bel lt0) (trodAll_cons_mk (shut_int Try.underlying3 w1) (trodAll_cons_mk (Below.trod laidOut (by kernel_rfl) (of_decide_eq_true (by kernel_rfl)) k2 bel lt2) trodAll_mk0))), rfl, bel.frame _, fun h => by cases h⟩
theorem over : Rows.fetchGivesRow.holds Try.pinned (OpenSpec.ofChange Rows.fetchGivesSpec) :=
  OpenClaim.holds_of_wide 8 Try.f8 rfl rfl rfl rfl rfl rfl rfl ⟨rfl, rfl, rfl, rfl, rfl⟩ rfl rfl rfl rfl rfl (by kernel_rfl) Try.func8 (by kernel_rfl)
    (of_decide_eq_true (by kernel_rfl)) (by unfold Func.isWrapper; first | (rw [if_pos (by decide +kernel)]; kernel_rfl) | (rw [if_neg (by decide +kernel)]; exact ⟨rfl, rfl⟩))
    (fun os started H enc _ => lifted os started H enc)
theorem proved : Rows.FetchGivesSaid := over
#print axioms proved
end Go.Proofs.Ytondnammkcgjpaa.fetchGives
namespace Go.Proofs.Ytondnammkcgjpaa
/-- The row, under a short name, for the claim. -/
theorem fetchGives_holds : Rows.FetchGivesSaid := fetchGives.proved
end Go.Proofs.Ytondnammkcgjpaa
