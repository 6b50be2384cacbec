/- Here is proved: what ranges.Root answers. Conditions: none. -/
import Derived.Test.YtondnammkcgjpaaMFetchBad4
import Derived.RangeFuncNested
import Derived.RangeFuncBound
import Derived.RangeFuncCalls
import Derived.RangeFuncLeaves
import Derived.Shelf.Abstract
import Derived.Shelf.RegionOpen
import Derived.WalkKit
import Derived.OwnWalkIn
import Derived.TacticsInMore
import Derived.LoopNIn
import Derived.LoopIn
import Derived.Lib.Hide
import Derived.Test.YtondnammkcgjpaaProg
import Derived.Maps.OwnSet
import Derived.Maps.RangeRun
import Derived.RowKit3
set_option linter.unusedVariables false
set_option linter.unusedSimpArgs false
set_option maxRecDepth 100000
set_option maxHeartbeats 8000000
namespace Go.Proofs.Ytondnammkcgjpaa.InR
open Go Go.Proofs.YtondnammkcgjpaaW.PrintLast
theorem lit_in {P : Program} {Q : Exit → Act → World → Prop} {n l : Nat} {a : Act} {w : World} {id : Nat} {ops : List Oper} (hQ : ¬ LetsOut Q) (hd : ops.all notDefer = true) (h : wpList P ops.toArray Q ops a w) : (Code.region id ops.toArray false).wpIn (Fence.wide.inRound l) n P Q a w :=
  wpIn_region_lit (list_in hQ ops a w hd h)
end Go.Proofs.Ytondnammkcgjpaa.InR
namespace Go.Proofs.Ytondnammkcgjpaa.Rg
open Go Go.RowKit Go.Shelf Go.Proofs.YtondnammkcgjpaaW.PrintWords Go.Proofs.YtondnammkcgjpaaW.PrintLast Go.Proofs.YtondnammkcgjpaaW.PrintMore
open Go.Proofs.Ytondnammkcgjpaa.ShaP Go.Proofs.Ytondnammkcgjpaa.Mk Go.Proofs.Ytondnammkcgjpaa.Rng Go.Proofs.Ytondnammkcgjpaa.Fun
attribute [local go_sem] Oper.semAt_some
def backF : List (Nat × ByteArray) → ByteArray → ByteArray
  | [], x => x
  | p :: r, x => backF r (pairF p.2 x)
theorem backF_snoc (a : List (Nat × ByteArray)) (p : Nat × ByteArray) : ∀ x, backF (a ++ [p]) x = pairF p.2 (backF a x) := by
  induction a with
  | nil => intro x; rfl
  | cons q a ih => intro x; exact ih (pairF q.2 x)
theorem backF_size (a : List (Nat × ByteArray)) : ∀ x : ByteArray, x.size ≤ 1000 → (backF a x).size ≤ 1000 := by
  induction a with
  | nil => intro x h; exact h
  | cons q a ih => intro x _; exact ih _ (by rw [pairF_size]; omega)
def rootR (L : List ByteArray) : ByteArray := match L.getLast? with
  | none => Ref01.sumF ⟨#[]⟩
  | some x => backF (bkN L.dropLast L.dropLast.length) x
theorem bkN_mem (l : List ByteArray) (hs : Sm l) : ∀ k, ∀ p ∈ bkN l k, p.2.size ≤ 1000
  | 0, p, h => by simp [bkN] at h
  | k + 1, p, h => by
    rw [bkN] at h
    rcases List.mem_cons.1 h with rfl | h
    · show (l.getD k ByteArray.empty).size ≤ 1000
      rw [List.getD_eq_getElem?_getD]
      cases hk : l[k]? with
      | none => exact Nat.zero_le _
      | some y => exact hs y (List.mem_of_getElem? hk)
    · exact bkN_mem l hs k p h
def RtI (w : World) (gT gR gX Bn : Nat) (A : Option Addr) (R : Int) (n c : Nat) (l0 : List ByteArray) (x : ByteArray) (pre : List (Nat × ByteArray)) (W : World) : Prop :=
  ∃ u, Mem.Own w W [(gT, TV, 31), (gR, #[.int .i64 R, .slice A n c], 41), (gX, #[.string (backF pre x)], 9), (Bn, #[u], 22)]
theorem rtI_from {w : World} {gT gR gX Bn : Nat} {A : Option Addr} {R : Int} {n c : Nat} {l0 : List ByteArray} {x : ByteArray} {B : Nat} (hB : w.heap.size ≤ B) : OwnFrom B (RtI w gT gR gX Bn A R n c l0 x) := fun pre W V row h hg hr => by
  obtain ⟨u, hO⟩ := h
  exact ⟨u, own_rec hO hg (fun r e => (hr r e).2) (fun r e => Nat.le_trans hB (hr r e).1)⟩
theorem rtI_set {w : World} {gT gR gX Bn : Nat} {A : Option Addr} {R : Int} {n c : Nat} {l0 : List ByteArray} {x : ByteArray} {pre : List (Nat × ByteArray)} {W : World} (h : RtI w gT gR gX Bn A R n c l0 x pre W) (z : Value) : RtI w gT gR gX Bn A R n c l0 x pre (W.setCell ⟨Bn, 0, none⟩ z) := by
  obtain ⟨u, hO⟩ := h
  exact ⟨z, hO.put 3 rfl 0 z rfl⟩
theorem rroot_nil (R : Int) (A : Option Addr) (c : Nat) (w : World) :
    Calls Try.prog 29 #[.agg TV, .agg #[.int .i64 R, .slice A 0 c]] w fun e w' => e = .returned (.string (rootR [])) ∧ Below w.heap.size w w' := by
  have OW := Aside0.mk (Mem.Own.nil w)
  have HI := Aside0.mk info_tab
  have HS := Aside0.mk (fun W => sha_c ⟨#[]⟩ (by decide) W)
  go_enter Try.func29, Try.ntmps29
  go_wp2_with (first
    | ((with_reducible refine gate_dst (N := 2) rfl ?_); refine box_event ?hg (N := 2) ?hd (cs := TV) (t := 31) ?hr ?_; (case hd => rfl); (case hg => rfl); (case hr => first | (go_simp; done) | (go_simp; rfl)); intro gT hg W_ hb hbb; have n_ : Aside0 (Mem.Own w W_ [(gT, TV, 31)]) := ⟨OW.out.new hg hb hbb⟩; clear OW hb hbb hg; have OW := n_; clear n_)
    | ((with_reducible refine gate_dst (N := 3) rfl ?_); refine box_event ?hg (N := 3) ?hd (cs := #[.int .i64 R, .slice A 0 c]) (t := 41) ?hr ?_; (case hd => rfl); (case hg => rfl); (case hr => first | (go_simp; done) | (go_simp; rfl)); intro gR hg W_ hb hbb; have c1 := (blk_cell hb 1).trans rfl; have n_ : Aside0 (Mem.Own w W_ [(gT, TV, 31), (gR, #[.int .i64 R, .slice A 0 c], 41)]) := ⟨OW.out.new hg hb hbb⟩; clear OW hb hbb hg; have OW := n_; clear n_)
    | ((with_reducible refine gate_dst (N := 12) rfl ?_); refine wpList_load_row rfl 31 (.tmp 2) rfl gT rfl 31 TV (0, 0) _ (OW.out.blk 0 rfl) Try.underlying31 rfl HI.out ?_)
    | (go_at_call 58; with_reducible refine (HS.out _).mono ?_; rintro e w_ ⟨rfl, hB⟩; have OB := Aside0.mk (below_step OW.out.below hB); clear OW hB))
  go_ret
  exact ⟨rfl, OB.out⟩
theorem rroot_c (R : Int) (A : Option Addr) (c q : Nat) (l0 : List ByteArray) (x : ByteArray) (w : World) (hq : l0.length = q) (hl : q ≤ 1000) (hs : Sm (l0 ++ [x])) (hc : q + 1 ≤ c) (hr : Kd.C Kd.string w A (q + 1) (l0 ++ [x])) :
    Calls Try.prog 29 #[.agg TV, .agg #[.int .i64 R, .slice A ((q + 1 : Nat)) c]] w fun e w' => e = .returned (.string (rootR (l0 ++ [x]))) ∧ Below w.heap.size w w' := by
  have OW := Aside0.mk (Mem.Own.nil w)
  have HI := Aside0.mk info_tab
  have HX : Aside0 (rootR (l0 ++ [x]) = backF (bkN l0 q) x) := ⟨by unfold rootR; rw [List.getLast?_concat]; simp only [List.dropLast_concat, hq]⟩
  have hlen : (l0 ++ [x]).length = q + 1 := by rw [List.length_append, hq]; rfl
  have hr2 : Kd.C Kd.string w A (l0 ++ [x]).length (l0 ++ [x]) := by rw [hlen]; exact hr
  obtain ⟨ad, e, hx⟩ := Kd.at_string hr2 (q : Int) (by omega) (by rw [hlen]; omega)
  cases e
  rw [rdOf_last l0 x q hq, Int.toNat_natCast] at hx
  obtain ⟨hcut, hC, hc2⟩ := cut_take (some ad) c (l0 ++ [x]) q (by rw [hlen]; omega) (by rw [hlen]; exact hc)
  have htk : (l0 ++ [x]).take q = l0 := by rw [← hq]; simp
  have HCL := hC w hr2
  rw [htk] at hcut HCL
  rw [hlen, hq] at hcut
  obtain ⟨m, hm⟩ : ∃ m, q + 1 = m := ⟨_, rfl⟩
  rw [hm] at hcut ⊢
  have hmq : (m : Int) - 1 = (q : Int) := by omega
  have hwq : wrap64 (q : Int) = (q : Int) := by unfold wrap64; omega
  have hq1 : (q : Int) < (m : Int) := by omega
  have m0 : ((m : Int) == 0) = false := by rw [beq_eq_false_iff_ne]; omega
  have HC := Aside0.mk HCL
  have HXA := Aside0.mk hx
  have HXS : Aside0 (x.size ≤ 1000) := ⟨hs x (by simp)⟩
  have HS0 : Aside0 (Sm l0) := ⟨fun s h => hs s (by simp [h])⟩
  have HQ := Aside0.mk hq
  have HL := Aside0.mk hl
  have HBK := Aside0.mk (fun W => back_c (some ad) q c W)
  clear hr hr2 hlen hC hc2 htk HCL hm hx hs hc hq hl
  refine (callsIn_wide (n := 5)).1 ?_
  refine callsIn_of_wp_marks Try.func29 rfl trivial ?_ rfl
  simp only [Try.ntmps29, List.size_toArray, List.length_cons, List.length_nil, Nat.reduceAdd, Nat.reduceSub, Array.replicate_succ, Array.replicate_zero, List.push_toArray, List.append_toArray, List.nil_append, List.cons_append]
  refine wpIn_wide.2 ?_
  go_wp2_with (first
    | ((with_reducible refine gate_dst (N := 2) rfl ?_); refine box_event ?hg (N := 2) ?hd (cs := TV) (t := 31) ?hr ?_; (case hd => rfl); (case hg => rfl); (case hr => first | (go_simp; done) | (go_simp; rfl)); intro gT hg W_ hb hbb; have n_ : Aside0 (Mem.Own w W_ [(gT, TV, 31)]) := ⟨OW.out.new hg hb hbb⟩; clear OW hb hbb hg; have OW := n_; clear n_)
    | ((with_reducible refine gate_dst (N := 3) rfl ?_); refine box_event ?hg (N := 3) ?hd (cs := #[.int .i64 R, .slice (some ad) m c]) (t := 41) ?hr ?_; (case hd => rfl); (case hg => rfl); (case hr => first | (go_simp; done) | (go_simp; rfl)); intro gR hg W_ hb hbb; have c1 := (blk_cell hb 1).trans rfl; have cx := pw_cell_below ((OW.out.step hbb).below) HXA.out; have n_ : Aside0 (Mem.Own w W_ [(gT, TV, 31), (gR, #[.int .i64 R, .slice (some ad) m c], 41)]) := ⟨OW.out.new hg hb hbb⟩; clear OW hb hbb hg; have OW := n_; clear n_)
    | ((with_reducible refine gate_dst (N := 5) rfl ?_); refine box_event ?hg (N := 5) ?hd (cs := #[.string ⟨#[]⟩]) (t := 9) ?hr ?_; (case hd => rfl); (case hg => rfl); (case hr => first | (go_simp; done) | (go_simp; rfl)); intro gX hg W_ hb hbb; clear c1 cx; have x0 := (blk_cell hb 0).trans rfl; have y0 := blk_frozen hb 0; have c1 := (((OW.out.new hg hb hbb).put 2 rfl 0 (.string x) rfl).cell 1 rfl 1).trans rfl; have n_ : Aside0 (Mem.Own w W_ [(gT, TV, 31), (gR, #[.int .i64 R, .slice (some ad) m c], 41), (gX, #[.string ⟨#[]⟩], 9)]) := ⟨OW.out.new hg hb hbb⟩; clear OW hb hbb hg; have OW := n_; clear n_)
    | (go_at_call 59; with_reducible refine (HBK.out _).mono ?_; rintro e w_ ⟨Bn, rfl, hBn, hbk, hB⟩; have n_ := Aside0.mk ((OW.out.put 2 rfl 0 (.string x) rfl).new hBn hbk hB); clear OW x0 y0 c1 hBn hbk hB; have OW := n_; clear n_))
  have hBn : Bn < w_.heap.size := blk_lt (OW.out.blk 3 rfl)
  have HCW := Aside0.mk (Kd.C_below HC.out OW.out.below)
  have HBX : Aside0 (Boxed w_ Bn 22 (.slice (some ad) l0.length c)) := ⟨by rw [HQ.out]; exact OW.out.blk 3 rfl⟩
  refine (wpIn_wide (n := 5)).1 ?_
  refine range_cellN (α := Nat × ByteArray) (encs := enc2) (Nx := fun pre x => pre ++ [x] <+: bkN l0 l0.length) (Bn := Bn) (Kp := KpB Bn (some ad) c l0) rfl (by omega) (gf := 87) (lb := #[.pointer (some ⟨Bn, 0, none⟩)]) rfl trivial (enters_of Try.func87 (by kernel_rfl) rfl)
    (backN 4 (by omega) Bn (some ad) c l0 w_ (by have := HQ.out; have := HL.out; omega) hBn HBX.out HCW.out) kpB_t (fun V lp o o2 hl h hc => kpB_b V lp o o2 h hc) (Below.refl _ _) (fun _ => rfl)
    (RtI w gT gR gX Bn (some ad) R m c l0 x) (fun _ _ _ => False) (rtI_from OW.out.size) (fun _ _ _ _ _ hs _ _ => hs) (fun _ _ v hs => rtI_set hs v) ⟨_, OW.out⟩
    (fun y => { tmps := #[.agg TV, .agg #[.int .i64 R, .slice (some ad) m c], .pointer (some ⟨gT, 0, none⟩), .pointer (some ⟨gR, 0, none⟩), .string ⟨#[]⟩, .pointer (some ⟨gX, 0, none⟩), undef, .string y.2, .pointer (some ⟨gR, 1, none⟩), .slice (some ad) m c, .int .i64 (m : Int), .bool false, undef, undef, .pointer (some ⟨gR, 1, none⟩), .slice (some ad) m c, .pointer (some ⟨gR, 1, none⟩), .slice (some ad) m c, .int .i64 (m : Int), .int .i64 (q : Int), .pointer (some (ad.add q)), .string x,
      .pointer (some ⟨gR, 1, none⟩), .slice (some ad) m c, .pointer (some ⟨gR, 1, none⟩), .slice (some ad) m c, .int .i64 (m : Int), .int .i64 (q : Int), .slice (some ad) q c, .func (.func 87) #[] #[.pointer (some ⟨Bn, 0, none⟩)], .int .i64 (y.1 : Int), .string y.2, undef, undef, undef, undef, undef], defers := [] }) ?assign ?body ?done ?stop
  case assign =>
    intro lp y W K hK
    gi_wp2
    exact hK
  case body =>
    have HSZ := Aside0.mk OW.out.size
    clear OW hBn HBX hcut
    rintro lp pre ⟨yi, y⟩ W ⟨u, hO⟩ hnx
    have hy : y.size ≤ 1000 := by
      obtain ⟨t, ht⟩ := hnx
      exact bkN_mem l0 HS0.out l0.length (yi, y) (by rw [← ht]; simp)
    have hz := backF_size pre x HXS.out
    have HSN : Aside0 (backF (pre ++ [(yi, y)]) x = pairF y (backF pre x)) := ⟨backF_snoc pre (yi, y) x⟩
    generalize backF pre x = z at *
    have HP := Aside0.mk (fun W => rpair_c y z (by omega) (by omega) W)
    have OO := Aside0.mk hO
    have OW := Aside0.mk (Mem.Own.of_below (Below.refl W.heap.size W))
    have x0 := (hO.cell 2 rfl 0).trans rfl
    clear hy hz hnx HCW
    dsimp only
    refine wpIn_block ?_
    refine InR.lit_in (by rintro ⟨_, _, h⟩; exact h) (by kernel_rfl) ?_
    go_wp2_with (first
      | ((with_reducible refine gate_dst (N := 32) rfl ?_); refine wpList_load_row rfl 31 (.tmp 2) rfl gT rfl 31 TV (0, 0) _ (hO.blk 0 rfl) Try.underlying31 rfl HI.out ?_)
      | (go_at_call 60; with_reducible refine (HP.out _).mono ?_; rintro e w1 ⟨rfl, hB⟩; have HB := Aside0.mk hB; have O1 := Aside0.mk (OO.out.step hB); have x1 := (O1.out.cell 2 rfl 0).trans rfl; have y1 := O1.out.frozen 2 rfl 0; clear x0 hB))
    have O2 := O1.out.put 2 rfl 0 (.string (pairF y z)) rfl
    refine ⟨((keeps_below HB.out).trans (KeepsOthers.setCell _ _ _)).from _, ?_, ?_⟩
    · rintro ⟨h1, _⟩
      have h2 : Boxed W Bn 22 u := OO.out.blk 3 rfl
      have h3 : Value.slice (some ad) l0.length c = u := by
        unfold Boxed at h1 h2
        rw [h1] at h2
        injection h2 with h2
        injection h2 with h2
        simpa using h2
      rw [h3]
      exact ⟨O2.blk 3 rfl, Kd.C_below HC.out O2.below⟩
    · exact ⟨u, by rw [HSN.out]; exact O2⟩
  case done =>
    have HSZ := Aside0.mk OW.out.size
    clear OW hBn HBX hcut HCW
    rintro D xs W hD rfl ⟨u, hO⟩ hK
    have OO := Aside0.mk hO
    have x0 := (hO.cell 2 rfl 0).trans rfl
    clear hO
    go_wp2_with fail
    have hD2 : w.heap.size ≤ D := Nat.le_trans HSZ.out hD
    have O3 := Fun.own_put OO.out (Obj.deferred none) hD2 hK rfl
    refine ⟨by simp, .inl ⟨_, _, rfl, run_takeDeferred hK, ?_⟩⟩
    exact ⟨_, results_tmp rfl _ _ _, by rw [HX.out, ← HQ.out]; rfl, O3.below⟩
  case stop =>
    rintro D c pre W _ _ h _
    exact h.elim
end Go.Proofs.Ytondnammkcgjpaa.Rg

namespace Go.Proofs.Ytondnammkcgjpaa.Rf
open Go Go.RowKit Go.Shelf Go.Proofs.YtondnammkcgjpaaW.PrintWords Go.Proofs.YtondnammkcgjpaaW.PrintLast Go.Proofs.YtondnammkcgjpaaW.PrintMore
open Go.Proofs.Ytondnammkcgjpaa.ShaP Go.Proofs.Ytondnammkcgjpaa.Mk Go.Proofs.Ytondnammkcgjpaa.Rg
theorem rdOf_at (l : List ByteArray) (k : Nat) (h : k < l.length) : rdOf ByteArray.empty l (k : Int) = l[k] := by
  unfold rdOf
  rw [Int.toNat_natCast]
  simp [h]
theorem toList_inj {a b : ByteArray} (h : a.toList = b.toList) : a = b := by
  rw [ByteArray.toList_eq, ByteArray.toList_eq] at h
  cases a
  cases b
  congr 1
  exact Array.toList_inj.1 h
def fewB (l : List ByteArray) (n sz : Nat) : Bool := ((l.take 300).all fun s => decide (s.size ≤ sz)) && decide (l.length ≤ n)
theorem few_c (A : Option Addr) (c : Nat) (l : List ByteArray) (n sz : Nat) (w : World) (hn : n ≤ 1000000) (hz : sz ≤ 1000000) (hr : Kd.C Kd.string w A l.length l) :
    Calls Try.prog 15 #[.slice A l.length c, .int .i64 (n : Int), .int .i64 (sz : Int)] w fun e w' => e = .returned (.bool (fewB l n sz)) ∧ w = w' := by
  have HR := Aside0.mk hr
  have hm := hr.2.1
  clear hr
  go_enter Try.func15, Try.ntmps15
  go_wp2
  go_loop [7] (fun t => ∃ k : Nat, t = .int .i64 k ∧ k ≤ l.length ∧ k ≤ 300 ∧ Aside0 (((l.take k).all fun s => decide (s.size ≤ sz)) = true)) (fun t => 300 - (intOf t).toNat)
  case atStart => exact ⟨0, rfl, Nat.zero_le _, by omega, ⟨rfl⟩⟩
  case round =>
    obtain ⟨k, rfl, hk1, hk2, HA⟩ := hrel
    by_cases h1 : k < l.length
    · have h1i : (k : Int) < (l.length : Int) := by omega
      by_cases h2 : k < 300
      · have h2i : (k : Int) < 300 := by omega
        obtain ⟨ad, e, hx⟩ := Kd.at_string HR.out (k : Int) (by omega) h1i
        cases e
        have hg : rdOf ByteArray.empty l (k : Int) = l[k] := rdOf_at l k h1
        rw [hg, Int.toNat_natCast] at hx
        by_cases h3 : l[k].size ≤ sz
        · have HA2 : Aside0 (((l.take (k + 1)).all fun s => decide (s.size ≤ sz)) = true) := ⟨by
            rw [List.take_succ_eq_append_getElem h1, List.all_append, HA.out]
            simp [h3]⟩
          generalize l[k] = s at *
          have h3i : ¬ (sz : Int) < (s.size : Int) := by omega
          clear HA hg h3
          go_wp2
          go_round
          case rel => exact ⟨k + 1, by go_num, by omega, by omega, HA2⟩
          case measure => simp [intOf]; omega
        · have HF : Aside0 (fewB l n sz = false) := ⟨by
            unfold fewB
            rw [Bool.and_eq_false_iff]
            left
            rw [List.all_eq_false]
            exact ⟨l[k], List.mem_iff_getElem.2 ⟨k, by rw [List.length_take]; omega, by rw [List.getElem_take]⟩, by simpa using h3⟩⟩
          generalize l[k] = s at *
          have h3i : (sz : Int) < (s.size : Int) := by omega
          clear HA hg h3
          go_wp2
          go_ret
          exact ⟨by rw [HF.out]; rfl, rfl⟩
      · have h2i : ¬ (k : Int) < 300 := by omega
        have HF : Aside0 (fewB l n sz = decide (l.length ≤ n)) := ⟨by
          obtain rfl : k = 300 := by omega
          unfold fewB
          rw [HA.out, Bool.true_and]⟩
        clear HA
        go_wp2
        go_ret
        exact ⟨by rw [HF.out]; rfl, rfl⟩
    · have h1i : ¬ (k : Int) < (l.length : Int) := by omega
      have HF : Aside0 (fewB l n sz = decide (l.length ≤ n)) := ⟨by
        obtain rfl : k = l.length := by omega
        unfold fewB
        have h := HA.out
        rw [List.take_length] at h
        rw [List.take_of_length_le hk2, h, Bool.true_and]⟩
      clear HA
      go_wp2
      go_ret
      exact ⟨by rw [HF.out]; rfl, rfl⟩
theorem h_c (s : ByteArray) (hs : s.size ≤ 100000) (w : World) : Calls Try.prog 38 #[.string s] w fun e w' => e = .returned (.string (Ref01.sumF s)) ∧ Below w.heap.size w w' := by
  have HC := Aside0.mk (Ref01.sum_c s (by omega) w)
  go_enter Try.func38, Try.ntmps38
  go_wp2_with (go_at_call 68; with_reducible refine HC.out.mono ?_; rintro e w_ ⟨rfl, hB⟩; have HB := Aside0.mk hB; clear hB)
  go_ret
  exact ⟨rfl, HB.out⟩
def leafF (s : ByteArray) : ByteArray := Ref01.sumF ((⟨#[0]⟩ : ByteArray) ++ s)
def leavesF (l : List ByteArray) : List ByteArray := l.map leafF
theorem leaf_size (s : ByteArray) : (leafF s).size = 32 := sumF_size _
theorem leaves_sm (l : List ByteArray) : Sm (leavesF l) := fun s hs => by
  obtain ⟨x, _, rfl⟩ := List.mem_map.1 hs
  rw [leaf_size]; omega
theorem leaves_c (A : Option Addr) (c : Nat) (l : List ByteArray) (w : World) (hl : l.length ≤ 100000) (hs : ∀ s ∈ l, s.size ≤ 10000) (hr : Kd.C Kd.string w A l.length l) :
    Calls Try.prog 17 #[.slice A l.length c] w fun e w' => ∃ v, e = .returned v ∧ SR w' w.heap.size v (leavesF l) ∧ Below w.heap.size w w' := by
  have HR := Aside0.mk hr
  have HS := Aside0.mk hs
  have hli : (l.length : Int) ≤ 100000 := by omega
  clear hr hs hl
  go_enter Try.func17, Try.ntmps17
  go_wp2
  go_loopw [3, 4] (fun v3 v4 wr => ∃ (k : Nat) (A3 : Option Addr) (c3 : Nat), v4 = .int .i64 k ∧ v3 = .slice A3 k c3 ∧ k ≤ l.length ∧ Aside0 (SR wr w.heap.size (.slice A3 k c3) (leavesF (l.take k))) ∧ Aside0 (Below w.heap.size w wr)) (fun _ v4 _ => l.length - (intOf v4).toNat)
  case atStart => exact ⟨0, none, 0, rfl, rfl, Nat.zero_le _, ⟨Kd.R_nil _ _ _ _ _⟩, ⟨Below.refl _ _⟩⟩
  case round =>
    obtain ⟨k, A3, c3, rfl, rfl, hk, HO, HB⟩ := hrel
    by_cases h1 : k < l.length
    · have h1i : (k : Int) < (l.length : Int) := by omega
      obtain ⟨ad, e, hx⟩ := Kd.at_string (Kd.C_below HR.out HB.out) (k : Int) (by omega) h1i
      cases e
      rw [rdOf_at l k h1, Int.toNat_natCast] at hx
      have HT : Aside0 (leavesF (l.take (k + 1)) = leavesF (l.take k) ++ [leafF l[k]]) := ⟨by unfold leavesF; rw [List.take_succ_eq_append_getElem h1, List.map_append]; rfl⟩
      have hsz : l[k].size ≤ 10000 := HS.out _ (List.getElem_mem h1)
      have hlt : (leavesF (l.take k)).length = k := by unfold leavesF; rw [List.length_map, List.length_take]; omega
      generalize l[k] = s at *
      have HH := Aside0.mk (fun W => h_c ((⟨#[0]⟩ : ByteArray) ++ s) (by rw [ByteArray.size_append]; show 1 + s.size ≤ _; omega) W)
      have z1 : (1 + s.size ≤ 9223372036854775807) = True := eq_true (by omega)
      have z3 : (9223372036854775807 < 1 + s.size) = False := eq_false (by omega)
      have HLT := Aside0.mk hlt
      generalize leavesF (l.take k) = ol at *
      have hfold : Ref01.sumF ((⟨#[0]⟩ : ByteArray) ++ s) = leafF s := rfl
      rw [hfold] at HH
      clear hlt hsz hfold
      go_wp2_with (first
        | (go_at_call 38; with_reducible refine (HH.out _).mono ?_; rintro e w1 ⟨rfl, hB⟩; have HB1 := Aside0.mk (below_step HB.out hB); have HO1 := Aside0.mk (Kd.R_below HO.out hB); clear hB HB HO hx)
        | ((with_reducible refine gate_builtin (b := .append) (xs := #[.tmp 11, .tmp 18]) rfl ?_); at_builtin; refine Kd.R_append (P := Try.prog) Kd.string (w0 := w) (W := w1) w.heap.size rfl (.tmp 11) (.tmp 18) 22 9 (.string ⟨#[]⟩) 16 rfl Try.underlying22 info_str rfl (by decide) (by decide) (.slice A3 k c3) ol (leafF s) [.string (leafF s)] (fun _ => True) (fun _ => False) rfl rfl rfl (fun _ h => h.elim) (fun _ _ => trivial) HO1.out HB1.out HB1.out.size (by rw [HLT.out]; omega) ?_; intro v2 w2 hr2 hb2 hg2 hat2; obtain ⟨A4, c4, e4⟩ := Kd.R_slice hr2; have e5 : (ol ++ [leafF s]).length = k + 1 := (by rw [List.length_append, HLT.out]; rfl); rw [e5] at e4; subst e4; have HR2 := Aside0.mk hr2; have HB2 := Aside0.mk hb2; clear hr2 hb2 hg2 hat2 e5))
      go_roundw
      case rel => exact ⟨k + 1, A4, c4, by go_num, rfl, by omega, by rw [HT.out]; exact HR2, HB2⟩
      case measure => simp [intOf]; omega
    · have h1i : ¬ (k : Int) < (l.length : Int) := by omega
      obtain rfl : k = l.length := by omega
      go_wp2
      go_ret
      exact ⟨_, rfl, by have h := HO.out; rw [List.take_length] at h; exact h, HB.out⟩
end Go.Proofs.Ytondnammkcgjpaa.Rf
namespace Go.Proofs.Ytondnammkcgjpaa.Rf
open Go Go.RowKit Go.Shelf Go.Proofs.YtondnammkcgjpaaW.PrintWords Go.Proofs.YtondnammkcgjpaaW.PrintLast Go.Proofs.YtondnammkcgjpaaW.PrintMore
open Go.Proofs.Ytondnammkcgjpaa.ShaP Go.Proofs.Ytondnammkcgjpaa.Mk Go.Proofs.Ytondnammkcgjpaa.Rg Go.Proofs.Ytondnammkcgjpaa.Rng
def hv : Nat → Nat → Nat → Nat
  | 0, k, _ => k
  | f + 1, k, n => if n ≤ k then hv f (k / 2) n else k
theorem hv_split : ∀ n, n < 65 → 2 ≤ n → hv 64 64 n = splitN n := by decide +kernel
theorem half_c (n : Nat) (h2 : 2 ≤ n) (hn : n ≤ 64) (w : World) : Calls Try.prog 67 #[.int .i64 (n : Int)] w fun e w' => e = .returned (.int .i64 (splitN n : Int)) ∧ w = w' := by
  have HV := Aside0.mk (hv_split n (by omega) h2)
  go_enter Try.func67, Try.ntmps67
  go_wp2
  go_loop [3] (fun t => ∃ f k : Nat, t = .int .i64 k ∧ k ≤ 64 ∧ k ≤ f ∧ Aside0 (splitN n = hv f k n)) (fun t => (intOf t).toNat)
  case atStart => exact ⟨64, 64, rfl, by omega, by omega, ⟨HV.out.symm⟩⟩
  case round =>
    obtain ⟨f, k, rfl, h0, hf, HS⟩ := hrel
    by_cases hlt : n ≤ k
    · have hz : (n : Int) ≤ (k : Int) := by omega
      obtain ⟨f, rfl⟩ : ∃ g, f = g + 1 := ⟨f - 1, by omega⟩
      have HS2 := Aside0.mk (HS.out.trans (by rw [hv, if_pos hlt]))
      clear HS
      go_wp2
      go_round
      case rel => exact ⟨f, k / 2, by go_num, by omega, by omega, HS2⟩
      case measure => simp [intOf]; omega
    · have hz : ¬ (n : Int) ≤ (k : Int) := by omega
      have HS2 : Aside0 (splitN n = k) := ⟨HS.out.trans (by
        cases f with
        | zero => rfl
        | succ f => rw [hv, if_neg hlt])⟩
      clear HS
      go_wp2
      go_ret
      exact ⟨by rw [HS2.out]; rfl, rfl⟩
theorem rfroot_c (f : Nat) : ∀ (A : Option Addr) (c : Nat) (l : List ByteArray) (w : World), l.length < f → l.length ≤ 64 → Sm l → l.length ≤ c → Kd.C Kd.string w A l.length l →
    Calls Try.prog 36 #[.slice A l.length c] w fun e w' => e = .returned (.string (rootN f l)) ∧ Below w.heap.size w w' := by
  induction f with
  | zero => intro A c l w h; omega
  | succ f ih =>
    intro A c l w hl hf hs hc hr
    by_cases h0 : l.length = 0
    · obtain rfl : l = [] := List.length_eq_zero_iff.1 h0
      have HR : Aside0 (rootN (f + 1) [] = Ref01.sumF ⟨#[]⟩) := ⟨by simp [rootN]⟩
      have HS := Aside0.mk (fun W => h_c ⟨#[]⟩ (by decide) W)
      clear ih hl hs hc hr h0 hf
      simp only [List.length_nil]
      go_enter Try.func36, Try.ntmps36
      go_wp2_with (go_at_call 38; with_reducible refine (HS.out _).mono ?_; rintro e w_ ⟨rfl, hB⟩; have OB := Aside0.mk hB; clear hB)
      go_ret
      exact ⟨by rw [HR.out]; rfl, OB.out⟩
    by_cases h1 : l.length = 1
    · have HR : Aside0 (rootN (f + 1) l = rdOf ByteArray.empty l 0) := ⟨by rw [rootN, if_neg h0, if_pos h1]⟩
      obtain ⟨ad, e, hx⟩ := Kd.at_string hr 0 (by omega) (by omega)
      cases e
      have ha0 : ad.add (Int.toNat 0) = ad := by simp [Addr.add]
      rw [ha0] at hx
      generalize rdOf ByteArray.empty l 0 = x at HR hx
      rw [h1] at hc ⊢
      clear ih hl hs hr h0 hf
      have h1 : True := trivial
      go_enter Try.func36, Try.ntmps36
      go_wp2
      go_ret
      exact ⟨by rw [HR.out]; rfl, Below.refl _ _⟩
    · have n0 : ((l.length : Int) == 0) = false := by simpa using h0
      have n1 : ((l.length : Int) == 1) = false := by rw [beq_eq_false_iff_ne]; omega
      have HR : Aside0 (rootN (f + 1) l = pairF (rootN f (l.take (splitN l.length))) (rootN f (l.drop (splitN l.length)))) := ⟨by rw [rootN, if_neg h0, if_neg h1]⟩
      have hk := splitN_bd l.length (by omega)
      have HSP := Aside0.mk (half_c l.length (by omega) (by omega))
      obtain ⟨k, ek⟩ : ∃ k, splitN l.length = k := ⟨_, rfl⟩
      rw [ek] at hk HSP HR
      obtain ⟨hcut1, hC1, hc1⟩ := cut_take A c l k (by omega) hc
      obtain ⟨A2, hcut2, hC2, hc2⟩ := cut_drop A c l k (by omega) hc
      have C1 := Aside0.mk (hC1 w hr)
      have C2 := Aside0.mk (hC2 w hr)
      have s1 := hs.take k
      have s2 := hs.drop k
      have e1 : (l.take k).length < f ∧ (l.take k).length ≤ 64 := by rw [List.length_take]; omega
      have e2 : (l.drop k).length < f ∧ (l.drop k).length ≤ 64 := by rw [List.length_drop]; omega
      generalize l.take k = l1 at *
      generalize l.drop k = l2 at *
      have IH1 := Aside0.mk (fun W h => ih A c l1 W e1.1 e1.2 s1 hc1 h)
      have IH2 := Aside0.mk (fun W h => ih A2 (c - k) l2 W e2.1 e2.2 s2 hc2 h)
      have g1 := rootN_size f l1 s1
      have g2 := rootN_size f l2 s2
      have hfold : Ref01.sumF ((⟨#[1]⟩ : ByteArray) ++ rootN f l1 ++ rootN f l2) = pairF (rootN f l1) (rootN f l2) := rfl
      generalize rootN f l1 = r1 at *
      generalize rootN f l2 = r2 at *
      have HP := Aside0.mk (fun W => h_c ((⟨#[1]⟩ : ByteArray) ++ r1 ++ r2) (by rw [cat_size]; omega) W)
      rw [hfold] at HP
      have z1 : (1 + r1.size ≤ 9223372036854775807) = True := eq_true (by omega)
      have z2 : (((⟨#[1]⟩ : ByteArray) ++ r1).size + r2.size ≤ 9223372036854775807) = True := eq_true (by rw [ByteArray.size_append]; show 1 + r1.size + r2.size ≤ _; omega)
      have z3 : (9223372036854775807 < 1 + r1.size) = False := eq_false (by omega)
      have z4 : (9223372036854775807 < ((⟨#[1]⟩ : ByteArray) ++ r1).size + r2.size) = False := eq_false (by rw [ByteArray.size_append]; show ¬ _ < 1 + r1.size + r2.size; omega)
      have z5 : (9223372036854775807 < 1 + r1.size + r2.size) = False := eq_false (by omega)
      clear ih hl hs hr h0 hf hk ek hC1 hC2 s1 s2 e1 e2 hc1 hc2 h1 hc g1 g2 hfold
      go_enter Try.func36, Try.ntmps36
      go_wp2_with (go_at_call 67; with_reducible refine (HSP.out _).mono ?_; rintro e w_ ⟨rfl, rfl⟩)
      have OD := Aside0.mk (below_drew (Below.refl w.heap.size w))
      refine start_ (n := 12) (S := fun w' => Below (w).drew.heap.size (w).drew w') (ds := []) #[false, false, false, false, false, false, false, false, false, false, false, false] (by kernel_rfl) rfl rfl (Below.refl _ _) (fun hHeld => ?_)
      generalize (w).drew = W0 at *
      refine pure_ (i := 0) (N := (some 17)) (v := ?_) (a' := ?_) #[true, false, false, false, false, false, false, false, false, false, false, false] rfl rfl (by kernel_rfl) (fun _ _ _ h => h) (Or.inl ⟨by rfl, ?_⟩) ?_ ?_
      rotate_left
      · intro w'
        go_simp
        first | done | with_reducible rfl
      rotate_left
      · simp only [Act.put, List.setIfInBounds_toArray, List.set_cons_zero, List.set_cons_succ, i64_w, i32_w]
        rfl
      refine pure_ (i := 1) (N := (some 18)) (v := ?_) (a' := ?_) #[true, true, false, false, false, false, false, false, false, false, false, false] rfl rfl (by kernel_rfl) (fun _ _ _ h => h) (Or.inl ⟨by rfl, ?_⟩) ?_ ?_
      rotate_left
      · intro w'
        go_simp
        first | done | with_reducible rfl
      rotate_left
      · simp only [Act.put, List.setIfInBounds_toArray, List.set_cons_zero, List.set_cons_succ, i64_w, i32_w]
        rfl
      refine pure_ (i := 2) (N := (some 19)) (v := ?_) (a' := ?_) #[true, true, true, false, false, false, false, false, false, false, false, false] rfl rfl (by kernel_rfl) (fun _ _ _ h => h) (Or.inl ⟨by rfl, ?_⟩) ?_ ?_
      rotate_left
      · intro w'
        go_simp
        first | done | with_reducible rfl
      rotate_left
      · simp only [Act.put, List.setIfInBounds_toArray, List.set_cons_zero, List.set_cons_succ, i64_w, i32_w]
        rfl
      refine pure_ (i := 5) (N := (some 22)) (v := ?_) (a' := ?_) #[true, true, true, false, false, true, false, false, false, false, false, false] rfl rfl (by kernel_rfl) (fun _ _ _ h => h) (Or.inl ⟨by rfl, ?_⟩) ?_ ?_
      rotate_left
      · intro w'
        go_simp
        first | done | with_reducible rfl
      rotate_left
      · simp only [Act.put, List.setIfInBounds_toArray, List.set_cons_zero, List.set_cons_succ, i64_w, i32_w]
        rfl
      refine pure_ (i := 6) (N := (some 23)) (v := ?_) (a' := ?_) #[true, true, true, false, false, true, true, false, false, false, false, false] rfl rfl (by kernel_rfl) (fun _ _ _ h => h) (Or.inl ⟨by rfl, ?_⟩) ?_ ?_
      rotate_left
      · intro w'
        go_simp
        first | done | with_reducible rfl
      rotate_left
      · simp only [Act.put, List.setIfInBounds_toArray, List.set_cons_zero, List.set_cons_succ, i64_w, i32_w]
        rfl
      refine pure_ (i := 7) (N := (some 24)) (v := ?_) (a' := ?_) #[true, true, true, false, false, true, true, true, false, false, false, false] rfl rfl (by kernel_rfl) (fun _ _ _ h => h) (Or.inl ⟨by rfl, ?_⟩) ?_ ?_
      rotate_left
      · intro w'
        go_simp
        first | done | with_reducible rfl
      rotate_left
      · simp only [Act.put, List.setIfInBounds_toArray, List.set_cons_zero, List.set_cons_succ, i64_w, i32_w]
        rfl
      refine one_ (i := 3) (N := (some 20)) #[true, true, true, true, false, true, true, true, false, false, false, false] rfl rfl (by kernel_rfl) (by decide) (fun K hK => ?_)
      refine goes_ Try.func36 (by kernel_rfl) rfl #[.slice A l1.length c] (by rfl) rfl rfl (by (try simp only [List.map_toArray, List.map_cons, List.map_nil]); first | done | rfl) ?_
      with_reducible refine (IH1.out _ (Kd.C_below C1.out OD.out)).mono ?_
      rintro e w1 ⟨rfl, hB⟩
      refine ⟨_, rfl, ?_⟩
      have hS2 : Below W0.heap.size W0 w1 := hB
      clear hB
      refine hK.out _ _ hS2 (fun hHeld => ?_)
      clear hK K
      refine norm_ (a' := ?_) ?_ ?_
      rotate_left
      · show Act.put _ (some 20) _ = _
        simp only [Act.put, List.setIfInBounds_toArray, List.set_cons_zero, List.set_cons_succ, i64_w, i32_w]
        rfl
      refine pure_ (i := 4) (N := (some 21)) (v := ?_) (a' := ?_) #[true, true, true, true, true, true, true, true, false, false, false, false] rfl rfl (by kernel_rfl) (fun _ _ _ h => h) (Or.inl ⟨by rfl, ?_⟩) ?_ ?_
      rotate_left
      · intro w'
        go_simp
        first | done | with_reducible rfl
      rotate_left
      · simp only [Act.put, List.setIfInBounds_toArray, List.set_cons_zero, List.set_cons_succ, i64_w, i32_w]
        rfl
      refine one_ (i := 8) (N := (some 25)) #[true, true, true, true, true, true, true, true, true, false, false, false] rfl rfl (by kernel_rfl) (by decide) (fun K hK => ?_)
      refine goes_ Try.func36 (by kernel_rfl) rfl #[.slice A2 l2.length (c - k)] (by rfl) rfl rfl (by (try simp only [List.map_toArray, List.map_cons, List.map_nil]); first | done | rfl) ?_
      with_reducible refine (IH2.out _ (Kd.C_below C2.out (below_step OD.out hHeld))).mono ?_
      rintro e w2 ⟨rfl, hB⟩
      refine ⟨_, rfl, ?_⟩
      have hS2 : Below W0.heap.size W0 w2 := below_step hHeld hB
      clear hB hHeld
      refine hK.out _ _ hS2 (fun hHeld => ?_)
      clear hK K
      refine norm_ (a' := ?_) ?_ ?_
      rotate_left
      · show Act.put _ (some 25) _ = _
        simp only [Act.put, List.setIfInBounds_toArray, List.set_cons_zero, List.set_cons_succ, i64_w, i32_w]
        rfl
      refine pure_ (i := 9) (N := (some 26)) (v := ?_) (a' := ?_) #[true, true, true, true, true, true, true, true, true, true, false, false] rfl rfl (by kernel_rfl) (fun _ _ _ h => h) (Or.inl ⟨by rfl, ?_⟩) ?_ ?_
      rotate_left
      · intro w'
        go_simp
        first | done | with_reducible rfl
      rotate_left
      · simp only [Act.put, List.setIfInBounds_toArray, List.set_cons_zero, List.set_cons_succ, i64_w, i32_w]
        rfl
      refine one_ (i := 10) (N := (some 27)) #[true, true, true, true, true, true, true, true, true, true, true, false] rfl rfl (by kernel_rfl) (by decide) (fun K hK => ?_)
      refine goes_ Try.func38 (by kernel_rfl) rfl #[.string ((⟨#[1]⟩ : ByteArray) ++ r1 ++ r2)] (by rfl) rfl rfl (by (try simp only [List.map_toArray, List.map_cons, List.map_nil]); first | done | rfl) ?_
      with_reducible refine (HP.out _).mono ?_
      rintro e w3 ⟨rfl, hB⟩
      refine ⟨_, rfl, ?_⟩
      have hS2 : Below W0.heap.size W0 w3 := below_step hHeld hB
      clear hB hHeld
      refine hK.out _ _ hS2 (fun hHeld => ?_)
      clear hK K
      refine norm_ (a' := ?_) ?_ ?_
      rotate_left
      · show Act.put _ (some 27) _ = _
        simp only [Act.put, List.setIfInBounds_toArray, List.set_cons_zero, List.set_cons_succ, i64_w, i32_w]
        rfl
      refine pure_ (i := 11) (N := (some 2)) (v := ?_) (a' := ?_) #[true, true, true, true, true, true, true, true, true, true, true, true] rfl rfl (by kernel_rfl) (fun _ _ _ h => h) (Or.inl ⟨by rfl, ?_⟩) ?_ ?_
      rotate_left
      · intro w'
        go_simp
        first | done | with_reducible rfl
      rotate_left
      · simp only [Act.put, List.setIfInBounds_toArray, List.set_cons_zero, List.set_cons_succ, i64_w, i32_w]
        rfl
      refine done_ (by kernel_rfl) ?_
      have OB := Aside0.mk (below_step OD.out hHeld)
      clear hHeld
      go_wp2_with fail
      go_ret
      exact ⟨by rw [HR.out]; rfl, OB.out⟩
end Go.Proofs.Ytondnammkcgjpaa.Rf

namespace Go.Proofs.Ytondnammkcgjpaa.RgP
open Go Go.RowKit Go.Shelf Go.Proofs.YtondnammkcgjpaaW.PrintWords
open Go.Proofs.Ytondnammkcgjpaa.Mk Go.Proofs.Ytondnammkcgjpaa.Rg Go.Proofs.Ytondnammkcgjpaa.Rng Go.Proofs.Ytondnammkcgjpaa.Rf
def ofB (l : List ByteArray) : Nat → List Nat → List ByteArray
  | _, [] => []
  | a, p :: r => rootF ((l.take (a + p)).drop a) :: ofB l (a + p) r
def pn (n : Nat) : List Nat := (pws 64 n).map (·.1)
def sumN : List Nat → Nat
  | [] => 0
  | p :: r => p + sumN r
theorem ofA_B (l : List ByteArray) : ∀ (ps : List Pw) (a : Nat), ofA l a ps = ofB l a (ps.map (·.1))
  | [], _ => rfl
  | p :: ps, a => by rw [ofA, ofA_B l ps]; rfl
theorem ofF_B (l : List ByteArray) : ofF l = ofB l 0 (pn l.length) := ofA_B l _ 0
theorem ofB_len (l : List ByteArray) : ∀ (ps : List Nat) (a : Nat), (ofB l a ps).length = ps.length
  | [], _ => rfl
  | p :: ps, a => by rw [ofB, List.length_cons, ofB_len l ps, List.length_cons]
theorem ofB_drop (l : List ByteArray) (b : Nat) : ∀ (ps : List Nat) (a : Nat), ofB (l.drop b) a ps = ofB l (b + a) ps
  | [], _ => rfl
  | p :: ps, a => by
    rw [ofB, ofB, ofB_drop l b ps (a + p), Nat.add_assoc]
    congr 1
    rw [List.take_drop, List.drop_drop]
theorem rootN_fuel (f : Nat) : ∀ (g : Nat) (l : List ByteArray), l.length < f → l.length < g → rootN f l = rootN g l := by
  induction f with
  | zero => intro g l h; omega
  | succ f ih =>
    intro g l hf hg
    obtain ⟨g, rfl⟩ : ∃ k, g = k + 1 := ⟨g - 1, by omega⟩
    rw [rootN, rootN]
    by_cases h0 : l.length = 0
    · rw [if_pos h0, if_pos h0]
    · rw [if_neg h0, if_neg h0]
      by_cases h1 : l.length = 1
      · rw [if_pos h1, if_pos h1]
      · rw [if_neg h1, if_neg h1]
        have hk := splitN_bd l.length (by omega)
        rw [ih g (l.take _) (by rw [List.length_take]; omega) (by rw [List.length_take]; omega), ih g (l.drop _) (by rw [List.length_drop]; omega) (by rw [List.length_drop]; omega)]
theorem rootF_split (l : List ByteArray) (h2 : 2 ≤ l.length) (h : l.length ≤ 1000) : rootF l = pairF (rootF (l.take (splitN l.length))) (rootF (l.drop (splitN l.length))) := by
  have hk := splitN_bd l.length h2
  unfold rootF
  rw [rootN_fuel 100000 (99999 + 1) l (by omega) (by omega), rootN, if_neg (by omega), if_neg (by omega),
    rootN_fuel 99999 100000 (l.take _) (by rw [List.length_take]; omega) (by rw [List.length_take]; omega), rootN_fuel 99999 100000 (l.drop _) (by rw [List.length_drop]; omega) (by rw [List.length_drop]; omega)]
theorem rootF_nil : rootF [] = Ref01.sumF ⟨#[]⟩ := by
  unfold rootF
  rw [rootN_fuel 100000 (0 + 1) [] (by decide) (by decide), rootN]
  rfl
theorem rootF_one (x : ByteArray) : rootF [x] = x := by
  unfold rootF
  rw [rootN_fuel 100000 (1 + 1) [x] (by simp) (by simp), rootN]
  rfl
def A32 (l : List ByteArray) : Prop := ∀ s ∈ l, s.size = 32
theorem rootF_32 (l : List ByteArray) (h : A32 l) (hl : l.length ≤ 1000) : (rootF l).size = 32 := by
  by_cases h2 : 2 ≤ l.length
  · rw [rootF_split l h2 hl, pairF_size]
  · match l, h2 with
    | [], _ => rw [rootF_nil, sumF_size]
    | [x], _ => rw [rootF_one]; exact h x (by simp)
    | x :: y :: r, h2 => exact (h2 (by simp)).elim
theorem ofB_32 (l : List ByteArray) (h : A32 l) (hl : l.length ≤ 1000) : ∀ (ps : List Nat) (a : Nat), A32 (ofB l a ps)
  | [], _, s, hs => by simp [ofB] at hs
  | p :: ps, a, s, hs => by
    rw [ofB] at hs
    rcases List.mem_cons.1 hs with rfl | hs
    · exact rootF_32 _ (fun s hs => h s (List.mem_of_mem_take (List.mem_of_mem_drop hs))) (by rw [List.length_drop, List.length_take]; omega)
    · exact ofB_32 l h hl ps _ s hs
theorem ofF_32 (l : List ByteArray) (h : A32 l) (hl : l.length ≤ 1000) : A32 (ofF l) := by rw [ofF_B]; exact ofB_32 l h hl _ _
theorem A32.sm {l : List ByteArray} (h : A32 l) : Sm l := fun s hs => by rw [h s hs]; omega
theorem pn_cons : ∀ n, n < 129 → 0 < n → pn n = hp n :: pn (n - hp n) ∧ hp n ≤ n ∧ 0 < hp n ∧ (hp n < n → splitN n = hp n) := by decide +kernel
theorem split_two : ∀ j, j < 8 → splitN (2 ^ (j + 1)) = 2 ^ j := by decide +kernel
theorem backF_cons (x : ByteArray) (L : List ByteArray) : ∀ (k : Nat) (z : ByteArray), backF (bkN (x :: L) (k + 1)) z = pairF x (backF (bkN L k) z)
  | 0, z => rfl
  | k + 1, z => by
    rw [bkN, backF, backF_cons x L k, bkN, backF]
    rfl
theorem rootR_cons (x y : ByteArray) (L : List ByteArray) : rootR (x :: y :: L) = pairF x (rootR (y :: L)) := by
  unfold rootR
  rw [List.getLast?_cons_cons]
  cases h : (y :: L).getLast? with
  | none => simp at h
  | some z =>
    simp only [List.dropLast_cons_cons, List.length_cons]
    exact backF_cons x _ _ z
theorem root_of (f : Nat) : ∀ l : List ByteArray, l.length < f → l.length ≤ 128 → rootR (ofF l) = rootF l := by
  induction f with
  | zero => intro l h; omega
  | succ f ih =>
    intro l hf hl
    by_cases h0 : l.length = 0
    · obtain rfl := List.length_eq_zero_iff.1 h0
      rw [rootF_nil]
      rfl
    · obtain ⟨h1, h2, h3, h4⟩ := pn_cons l.length (by omega) (by omega)
      have e : ofF l = rootF (l.take (hp l.length)) :: ofF (l.drop (hp l.length)) := by
        rw [ofF_B, h1, ofB, ofF_B, List.length_drop, ofB_drop]
        simp
      by_cases hlt : hp l.length < l.length
      · have i1 := ih (l.drop (hp l.length)) (by rw [List.length_drop]; omega) (by rw [List.length_drop]; omega)
        rw [e]
        have hne : (ofF (l.drop (hp l.length))).length ≠ 0 := by
          obtain ⟨g1, _⟩ := pn_cons (l.drop (hp l.length)).length (by rw [List.length_drop]; omega) (by rw [List.length_drop]; omega)
          rw [ofF_B, ofB_len, g1]
          simp
        match hq : ofF (l.drop (hp l.length)), hne with
        | y :: L, _ =>
          rw [rootR_cons, ← hq, i1, rootF_split l (by omega) (by omega), h4 hlt]
      · have he : hp l.length = l.length := by omega
        rw [e, he, List.take_length, List.drop_length]
        rfl
end Go.Proofs.Ytondnammkcgjpaa.RgP
namespace Go.Proofs.Ytondnammkcgjpaa.RgL
open Go Go.RowKit Go.Shelf Go.Proofs.YtondnammkcgjpaaW.PrintWords Go.Proofs.YtondnammkcgjpaaW.PrintLast Go.Proofs.YtondnammkcgjpaaW.PrintMore
open Go.Proofs.Ytondnammkcgjpaa.ShaP Go.Proofs.Ytondnammkcgjpaa.Mk Go.Proofs.Ytondnammkcgjpaa.Rg Go.Proofs.Ytondnammkcgjpaa.Rng Go.Proofs.Ytondnammkcgjpaa.Rf Go.Proofs.Ytondnammkcgjpaa.RgP
theorem rroot_any (R : Int) (A : Option Addr) (c : Nat) (L : List ByteArray) (w : World) (hl : L.length ≤ 1000) (hs : Sm L) (hc : L.length ≤ c) (hr : Kd.C Kd.string w A L.length L) :
    Calls Try.prog 29 #[.agg TV, .agg #[.int .i64 R, .slice A L.length c]] w fun e w' => e = .returned (.string (rootR L)) ∧ Below w.heap.size w w' := by
  rcases List.eq_nil_or_concat L with rfl | ⟨l0, x, rfl⟩
  · exact rroot_nil R A c w
  · simp only [List.concat_eq_append] at *
    have h := hr
    have e : (l0 ++ [x]).length = l0.length + 1 := by simp
    rw [e] at h hc hl ⊢
    exact rroot_c R A c l0.length l0 x w rfl (by omega) hs hc h
theorem texts_C {w : World} {A : Option Addr} {l : List ByteArray} (h : Kd.C Kd.string w A l.length l) : Texts w A l := fun j hj => by
  obtain ⟨ad, e, hx⟩ := Kd.at_string h (j : Int) (by omega) (by omega)
  rw [rdOf_at l j hj, Int.toNat_natCast] at hx
  exact ⟨ad, e, hx⟩
theorem few_yes {l : List ByteArray} {n sz : Nat} (h : fewB l n sz = true) (hn : n ≤ 300) : l.length ≤ n ∧ ∀ s ∈ l, s.size ≤ sz := by
  unfold fewB at h
  rw [Bool.and_eq_true] at h
  have h1 := of_decide_eq_true h.2
  refine ⟨h1, fun s hs => ?_⟩
  rw [List.take_of_length_le (by omega)] at h
  exact of_decide_eq_true (List.all_eq_true.1 h.1 s hs)
theorem leaves_32 (l : List ByteArray) : A32 (leavesF l) := fun s hs => by
  obtain ⟨x, _, rfl⟩ := List.mem_map.1 hs
  exact leaf_size x
theorem leaves_len (l : List ByteArray) : (leavesF l).length = l.length := List.length_map _
section
variable {ops : Array Oper} {o : Oper} {a : Act} {Q : Exit → Act → World → Prop} {Kc : Act → World → Prop} {W0 W : World}
theorem lit_step (base : Nat) (hw : Region.wanted o (yielded ops a.tmps) = true) {N : Tmp} (hd : o.dst = some N) (xs : List ByteArray)
    (hrun : (execOp a.eval o).run Try.prog W = .ok (.value (.slice (some ⟨W.heap.size, 0, none⟩) xs.length xs.length)) (W.alloc (.cells (encs Value.string xs).toArray 9)))
    (HB : Below base W0 W) (hbase : base ≤ W.heap.size) (hm : xs.length ≤ 1000000)
    (h : ∀ v1 w1, SR w1 base v1 xs → Below base W0 w1 → Kc (a.put o.dst v1) w1) : if Region.wanted o (yielded ops a.tmps) = true then Oper.wp Try.prog o a W Kc Q else Kc (a.put o.dst undef) W :=
  Kd.R_lit_step Kd.string (w0 := W0) base 9 hw hd (xs := xs) (inner := encs Value.string xs) (ok := fun _ => True) (okp := fun _ => True) hrun (Kd.reps_scalar xs) (fun _ _ => trivial) trivial HB hbase (by omega) (fun v1 w1 h1 h2 _ _ => h v1 w1 h1 h2)
theorem lit_step2 (hw : Region.wanted o (yielded ops a.tmps) = true) {N : Tmp} (hd : o.dst = some N) (xs : List ByteArray)
    (hrun : (execOp a.eval o).run Try.prog W = .ok (.value (.slice (some ⟨W.heap.size, 0, none⟩) xs.length xs.length)) (W.alloc (.cells (encs Value.string xs).toArray 9)))
    (hm : xs.length ≤ 1000000) (h : ∀ v1 w1, SR w1 W.heap.size v1 xs → Below W.heap.size W w1 → Kc (a.put o.dst v1) w1) : if Region.wanted o (yielded ops a.tmps) = true then Oper.wp Try.prog o a W Kc Q else Kc (a.put o.dst undef) W :=
  lit_step W.heap.size hw hd xs hrun (Below.refl _ _) (Nat.le_refl _) hm h
theorem app_step2 (base : Nat) (hw : Region.wanted o (yielded ops a.tmps) = true) (s x : Operand) (ho : o.op = .call { callee := .builtin .append, args := #[s, x], argTypes := #[22, 22] })
    (v : Value) (xs ys : List ByteArray) (A : Option Addr) (c : Nat) (hs : a.eval s = v) (hx : a.eval x = .slice A ys.length c) (HO : SR W base v xs) (HR : Kd.C Kd.string W A ys.length ys) (HB : Below base W0 W) (hbase : base ≤ W.heap.size) (hl : xs.length + ys.length ≤ 1000000)
    (h : ∀ v1 w1, SR w1 base v1 (xs ++ ys) → Below base W0 w1 → W.grownBy w1 v.ownBlock → (v1.ownBlock = v.ownBlock ∨ ∃ b, v1.ownBlock = some b ∧ W.heap.size ≤ b) → Kc (a.put o.dst v1) w1) : if Region.wanted o (yielded ops a.tmps) = true then Oper.wp Try.prog o a W Kc Q else Kc (a.put o.dst undef) W :=
  Kd.R_append_rows_step (P := Try.prog) Kd.string (Rr := Kd.string.K W) (w0 := W0) base hw s x 22 9 (.string ⟨#[]⟩) 16 ho Try.underlying22 info_str rfl (by decide) (by decide) v xs ys A ys.length c (fun _ => True) (fun _ => False) hs hx HO HR (fun _ _ h => h) (fun _ h => h.elim) (fun _ _ => trivial) HB hbase (by omega) h
theorem ne_rows {w1 : World} {b : Nat} {v v' : Value} {xs ys : List ByteArray} (h1 : SR w1 W.heap.size v xs) (h : SR W b v' ys) : NeRow v v' := ne_below (Kd.own_of_R h1) (Kd.own_of_R h)
theorem ne_app {b : Nat} {v v1 v' : Value} {ys : List ByteArray} (h : NeRow v v') (hat : v1.ownBlock = v.ownBlock ∨ ∃ b, v1.ownBlock = some b ∧ W.heap.size ≤ b) (ho : SR W b v' ys) : NeRow v1 v' := ne_append h hat (Kd.own_of_R ho)
theorem row_beside {w1 : World} {b : Nat} {v v' : Value} {ys : List ByteArray} (ho : SR W b v' ys) (h : NeRow v v') (hg : W.grownBy w1 v.ownBlock) : SR w1 b v' ys := Kd.R_grown2 ho rfl hg (fun k hk e => h k hk e.symm)
end
end Go.Proofs.Ytondnammkcgjpaa.RgL
namespace Go.Proofs.Ytondnammkcgjpaa.Ft
open Go Go.RowKit Go.Shelf Go.Proofs.YtondnammkcgjpaaW.PrintWords Go.Proofs.YtondnammkcgjpaaW.PrintLast Go.Proofs.YtondnammkcgjpaaW.PrintMore
open Go.Proofs.Ytondnammkcgjpaa.ShaP Go.Proofs.Ytondnammkcgjpaa.Mk Go.Proofs.Ytondnammkcgjpaa.Rg Go.Proofs.Ytondnammkcgjpaa.RgL
def StayC (B : Nat) (w' : World) (A : Option Addr) (l : List ByteArray) : Prop := ∀ W', (∀ k, B ≤ k → k < w'.heap.size → W'.heap[k]? = w'.heap[k]?) → Kd.C Kd.string W' A l.length l
theorem sr_stay {W : World} {B : Nat} {A : Option Addr} {c : Nat} {l : List ByteArray} (h : SR W B (.slice A l.length c) l) : StayC B W A l := fun W' hk => by
  have h1 : Kd.R Kd.string 9 W B (fun k => (Value.slice A l.length c).ownBlock = some k) (.slice A l.length c) l := ⟨fun k hk => hk, h.2.imp_ (fun _ _ hp => hp)⟩
  obtain ⟨inner, ho⟩ := Kd.R_own h
  exact (Kd.R_reads' (Kd.R_step h1 (fun k hq hlt => hk k (own_base ho k hq) hlt))).2.2
theorem sr_base {W : World} {B g n c : Nat} {l : List ByteArray} (h : SR W B (.slice (some ⟨g, 0, none⟩) n c) l) : B ≤ g := by
  obtain ⟨inner, ho⟩ := Kd.R_own h
  exact own_base ho g (by simp [Value.ownBlock])
theorem bytes_in (W : World) (y : ByteArray) : ∃ (WB : World) (cap : Nat) (ns : List Int), (convert 9 120 (.string y)).run Try.prog W = .ok (.slice (some ⟨W.heap.size, 0, none⟩) y.size cap) WB ∧ ns.length = y.size ∧ y.size ≤ cap ∧
    (∀ i, i < y.size → WB.cell? ⟨W.heap.size, i, none⟩ = some (.int .u8 (ns.getD i 0)) ∧ WB.frozen? ⟨W.heap.size, i, none⟩ = false ∧ 0 ≤ ns.getD i 0 ∧ ns.getD i 0 ≤ 255) ∧
    (∀ p X, (convert 120 9 (.slice (some ⟨W.heap.size, 0, none⟩) y.size cap)).run Try.prog (WB.setCell ⟨W.heap.size, p, none⟩ (.int .u8 X)) = .ok (.string (strOfNums (ns.set p X))) (WB.setCell ⟨W.heap.size, p, none⟩ (.int .u8 X))) ∧ Below W.heap.size W WB := by
  have hn := Lib.bytesWorld_at_new W 5 y
  have hc : ∀ i, i < y.size → (Lib.bytesCells W 5 y)[i]? = some (.int .u8 ((y.data.toList.map fun b => (b.toNat : Int)).getD i 0)) := fun i hi => by
    have hd : i < y.data.size := hi
    unfold Lib.bytesCells
    rw [Array.getElem?_append_left (by simpa using hd)]
    rw [Array.getElem?_map, List.getD_eq_getElem?_getD, List.getElem?_map, List.getElem?_eq_getElem (by simpa using hd), Array.getElem?_eq_getElem hd]
    simp
  have hsz : y.size ≤ (Lib.bytesCells W 5 y).size := by
    have := grownCap_ge W y.size 0 5
    unfold Lib.bytesCells
    have h2 : y.data.size = y.size := rfl
    simp [h2]
  have hset : ∀ p X i, i < y.size → ((Lib.bytesWorld W 5 y).setCell ⟨W.heap.size, p, none⟩ (.int .u8 X)).cell? ⟨W.heap.size, i, none⟩ = some (.int .u8 (((y.data.toList.map fun b => (b.toNat : Int)).set p X).getD i 0)) := fun p X i hi => by
    have h2 := Mem.blk_set_any hn p (.int .u8 X)
    rw [cell_of_row _ _ i _ _ _ h2]
    rw [Array.getElem?_setIfInBounds]
    have hl : (y.data.toList.map fun b => (b.toNat : Int)).length = y.size := by rw [List.length_map]; rfl
    rw [List.getD_eq_getElem?_getD, List.getElem?_set]
    by_cases e : p = i
    · subst e
      rw [if_pos rfl, if_pos (by omega), if_pos rfl, if_pos (by omega)]
      rfl
    · rw [if_neg e, if_neg e, hc i hi, List.getD_eq_getElem?_getD]
  refine ⟨Lib.bytesWorld W 5 y, _, y.data.toList.map fun b => (b.toNat : Int), Lib.run_convert_string_bytes (P := Try.prog) W 9 120 5 y Try.underlying9 Try.underlying120 Try.underlying5, by rw [List.length_map]; rfl, grownCap_ge W y.size 0 5, fun i hi => ⟨?_, ?_, ?_, ?_⟩, fun p X => run_convert_bytes_arg (P := Try.prog) _ 120 5 Try.underlying120 Try.underlying5 W.heap.size 0 y.size _ _ (by rw [List.length_set, List.length_map]; rfl) (fun i hi => by rw [Nat.zero_add]; exact hset p X i hi) 9 Try.underlying9, Lib.bytesWorld_below W 5 y⟩
  · rw [cell_of_row _ _ i _ _ _ hn]
    exact hc i hi
  · have hi2 : i < (Lib.bytesCells W 5 y).size := Nat.lt_of_lt_of_le hi hsz
    unfold World.frozen?
    rw [hn]
    simp
    omega
  · have hd : i < y.data.toList.length := hi
    rw [List.getD_eq_getElem?_getD, List.getElem?_map, List.getElem?_eq_getElem hd]
    simp
  · have hd : i < y.data.toList.length := hi
    rw [List.getD_eq_getElem?_getD, List.getElem?_map, List.getElem?_eq_getElem hd]
    have := (y.data.toList[i]).toNat_lt
    simp only [Option.map_some, Option.getD_some]
    omega
theorem rd_small {l : List ByteArray} (i : Int) (h : ∀ y ∈ l, y.size ≤ 1000) : (rdOf ByteArray.empty l i).size ≤ 1000 := by
  unfold rdOf
  rw [List.getD_eq_getElem?_getD]
  cases hq9 : l[i.toNat]? with
  | none => exact Nat.zero_le _
  | some y => exact h y (List.mem_of_getElem? hq9)
theorem row_turn {W : World} {B g : Nat} {v : Value} {l : List ByteArray} (h : SR W B v l) (hg : v.ownBlock ≠ some g) (p : Nat) (u : Value) : SR (W.setCell ⟨g, p, none⟩ u) B v l := by
  have h1 : Kd.R Kd.string 9 W B (fun k => v.ownBlock = some k) v l := ⟨fun k hk => hk, h.2.imp_ (fun _ _ hp => hp)⟩
  exact Kd.R_mono (Kd.R_step h1 (fun k hq hlt => Below.heap_setCell _ _ _ _ (fun e => hg (by rw [hq, e])))) (fun _ _ => trivial)
theorem sr_old {W : World} {B g n c : Nat} {l : List ByteArray} (h : SR W B (.slice (some ⟨g, 0, none⟩) n c) l) : (Value.slice (some ⟨g, 0, none⟩) n c).ownBlock ≠ some W.heap.size := by
  obtain ⟨inner, ho⟩ := Kd.R_own h
  intro e
  have := own_lt ho _ e
  omega
variable {a b : Int} {g c B : Nat} {l : List ByteArray} {w : World}
def BentP (B : Nat) (w w' : World) (e : Ending) : Prop := ∃ A' c' T, e = .returned (.slice A' T.length c') ∧ T.length ≤ c' ∧ T.length ≤ 2000 ∧ (∀ y ∈ T, y.size ≤ 1000) ∧ Below B w w' ∧ StayC B w' A' T
theorem bent_0 (ha : 0 ≤ a ∧ a ≤ 65535) (hb : 0 ≤ b ∧ b ≤ 65535) (hq : b % 5 = 0) (hB : B ≤ w.heap.size) (h0 : 0 < l.length) (hl : l.length ≤ 1000) (hsz : ∀ y ∈ l, y.size ≤ 1000) (hr : SR w B (.slice (some ⟨g, 0, none⟩) l.length c) l) :
    Calls Try.prog 44 #[.slice (some ⟨g, 0, none⟩) l.length c, .agg #[.int .u16 a, .int .u16 b]] w fun e w' => BentP B w w' e := by
  have OW := Aside0.mk (Mem.Own.nil w)
  have HR := Aside0.mk hr
  have HB := Aside0.mk hB
  have HGB := Aside0.mk (sr_base hr)
  have HL := Aside0.mk hl
  have HS := Aside0.mk hsz
  obtain ⟨ha0, ha1⟩ := ha
  obtain ⟨hb0, hb1⟩ := hb
  have HC := Aside0.mk (Kd.R_reads' hr).2.1
  obtain ⟨A9, hcut, hC9, h9⟩ := cut_drop (some ⟨g, 0, none⟩) c l 1 h0 HC.out
  simp only [show ((1 : Nat) : Int) = 1 from rfl] at hcut
  have HT := Aside0.mk (show (l.drop 1).length ≤ 2000 ∧ ∀ y ∈ l.drop 1, y.size ≤ 1000 from ⟨by rw [List.length_drop]; omega, fun y hy => hsz y (List.mem_of_mem_drop hy)⟩)
  generalize l.drop 1 = T at *
  have HC9 := Aside0.mk hC9
  have H9 := Aside0.mk h9
  clear hC9 h9
  obtain ⟨n, hn⟩ : ∃ n, l.length = n := ⟨_, rfl⟩
  have HN := Aside0.mk hn
  have hn0 : 0 < (n : Int) := by omega
  obtain ⟨q, hqa⟩ : ∃ q : Nat, a % (n : Int) = q := ⟨(a % (n : Int)).toNat, by have := Int.emod_nonneg a (show (n : Int) ≠ 0 by omega); omega⟩
  have hqn : (q : Int) < (n : Int) := by rw [← hqa]; exact Int.emod_lt_of_pos _ hn0
  rw [hn] at HR HC hcut ⊢
  clear hr hB hl hsz h0 hn
  go_enter Try.func44, Try.ntmps44
  go_wp2_with (first
    | ((with_reducible refine gate_dst (N := 3) rfl ?_); refine box_event ?hg (N := 3) ?hd (cs := #[.int .u16 a, .int .u16 b]) (t := 85) ?hr ?_; (case hd => rfl); (case hg => rfl); (case hr => first | (go_simp; done) | (go_simp; rfl)); intro gB hg W_ hb hbb; have j0 := (blk_cell hb 0).trans rfl; have j1 := (blk_cell hb 1).trans rfl; have n_ : Aside0 (Mem.Own w W_ [(gB, #[.int .u16 a, .int .u16 b], 85)]) := ⟨OW.out.new hg hb hbb⟩; clear OW hb hbb hg; have OW := n_; clear n_))
  go_ret
  refine ⟨A9, c - 1, T, rfl, H9.out, HT.out.1, HT.out.2, OW.out.below.mono HB.out, fun W' hk => HC9.out W' ?_⟩
  rw [HN.out]
  have := sr_stay (l := l) (c := c) (A := some ⟨g, 0, none⟩) (by rw [HN.out]; exact Kd.R_below HR.out OW.out.below) W' hk
  rw [HN.out] at this
  exact this
theorem bent_4 (ha : 0 ≤ a ∧ a ≤ 65535) (hb : 0 ≤ b ∧ b ≤ 65535) (hq : b % 5 = 4) (hB : B ≤ w.heap.size) (h0 : 0 < l.length) (hl : l.length ≤ 1000) (hsz : ∀ y ∈ l, y.size ≤ 1000) (hr : SR w B (.slice (some ⟨g, 0, none⟩) l.length c) l) :
    Calls Try.prog 44 #[.slice (some ⟨g, 0, none⟩) l.length c, .agg #[.int .u16 a, .int .u16 b]] w fun e w' => BentP B w w' e := by
  have OW := Aside0.mk (Mem.Own.nil w)
  have HR := Aside0.mk hr
  have HB := Aside0.mk hB
  have HGB := Aside0.mk (sr_base hr)
  have HL := Aside0.mk hl
  have HS := Aside0.mk hsz
  obtain ⟨ha0, ha1⟩ := ha
  obtain ⟨hb0, hb1⟩ := hb
  have HC := Aside0.mk (Kd.R_reads' hr).2.1
  obtain ⟨n, hn⟩ : ∃ n, l.length = n := ⟨_, rfl⟩
  have HN := Aside0.mk hn
  have hn0 : 0 < (n : Int) := by omega
  obtain ⟨q, hqa⟩ : ∃ q : Nat, a % (n : Int) = q := ⟨(a % (n : Int)).toNat, by have := Int.emod_nonneg a (show (n : Int) ≠ 0 by omega); omega⟩
  have hqn : (q : Int) < (n : Int) := by rw [← hqa]; exact Int.emod_lt_of_pos _ hn0
  rw [hn] at HR HC ⊢
  clear hr hB hl hsz h0 hn
  go_enter Try.func44, Try.ntmps44
  go_wp2_with (first
    | ((with_reducible refine gate_dst (N := 3) rfl ?_); refine box_event ?hg (N := 3) ?hd (cs := #[.int .u16 a, .int .u16 b]) (t := 85) ?hr ?_; (case hd => rfl); (case hg => rfl); (case hr => first | (go_simp; done) | (go_simp; rfl)); intro gB hg W_ hb hbb; have j0 := (blk_cell hb 0).trans rfl; have j1 := (blk_cell hb 1).trans rfl; have n_ : Aside0 (Mem.Own w W_ [(gB, #[.int .u16 a, .int .u16 b], 85)]) := ⟨OW.out.new hg hb hbb⟩; clear OW hb hbb hg; have OW := n_; clear n_))
  go_ret
  refine ⟨some ⟨g, 0, none⟩, c, l, by rw [HN.out]; rfl, by rw [HN.out]; exact HC.out, by have := HL.out; omega, HS.out, OW.out.below.mono HB.out, sr_stay (c := c) ?_⟩
  rw [HN.out]
  exact Kd.R_below HR.out OW.out.below
theorem bent_2 (ha : 0 ≤ a ∧ a ≤ 65535) (hb : 0 ≤ b ∧ b ≤ 65535) (hq : b % 5 = 2) (hB : B ≤ w.heap.size) (h0 : 0 < l.length) (hl : l.length ≤ 1000) (hsz : ∀ y ∈ l, y.size ≤ 1000) (hr : SR w B (.slice (some ⟨g, 0, none⟩) l.length c) l) :
    Calls Try.prog 44 #[.slice (some ⟨g, 0, none⟩) l.length c, .agg #[.int .u16 a, .int .u16 b]] w fun e w' => BentP B w w' e := by
  have OW := Aside0.mk (Mem.Own.nil w)
  have HR := Aside0.mk hr
  have HB := Aside0.mk hB
  have HGB := Aside0.mk (sr_base hr)
  have HL := Aside0.mk hl
  have HS := Aside0.mk hsz
  obtain ⟨ha0, ha1⟩ := ha
  obtain ⟨hb0, hb1⟩ := hb
  have HC := Aside0.mk (Kd.R_reads' hr).2.1
  obtain ⟨n, hn⟩ : ∃ n, l.length = n := ⟨_, rfl⟩
  have HN := Aside0.mk hn
  have hn0 : 0 < (n : Int) := by omega
  obtain ⟨q, hqa⟩ : ∃ q : Nat, a % (n : Int) = q := ⟨(a % (n : Int)).toNat, by have := Int.emod_nonneg a (show (n : Int) ≠ 0 by omega); omega⟩
  have hqn : (q : Int) < (n : Int) := by rw [← hqa]; exact Int.emod_lt_of_pos _ hn0
  rw [hn] at HR HC ⊢
  clear hr hB hl hsz h0 hn
  go_enter Try.func44, Try.ntmps44
  go_wp2_with (first
    | ((with_reducible refine gate_dst (N := 3) rfl ?_); refine box_event ?hg (N := 3) ?hd (cs := #[.int .u16 a, .int .u16 b]) (t := 85) ?hr ?_; (case hd => rfl); (case hg => rfl); (case hr => first | (go_simp; done) | (go_simp; rfl)); intro gB hg W_ hb hbb; have j0 := (blk_cell hb 0).trans rfl; have j1 := (blk_cell hb 1).trans rfl; have HR1 := Aside0.mk (Kd.R_below HR.out hbb); have cc := Kd.R_celln ByteArray.empty HR1.out (q : Int) (Int.natCast_nonneg q) hqn; rw [Int.toNat_natCast] at cc; obtain ⟨c0, c1⟩ := cc; have n_ : Aside0 (Mem.Own w W_ [(gB, #[.int .u16 a, .int .u16 b], 85)]) := ⟨OW.out.new hg hb hbb⟩; clear OW hb hbb hg; have OW := n_; clear n_))
  have HB2 := Aside0.mk ((OW.out.below.mono HB.out).setCell (p := ⟨g, q, none⟩) HGB.out (.string ⟨#[]⟩))
  have HP := Aside0.mk (Kd.R_putn HR1.out (q : Int) (⟨#[]⟩ : ByteArray))
  rw [Int.toNat_natCast] at HP
  go_ret
  refine ⟨some ⟨g, 0, none⟩, c, l.set q ⟨#[]⟩, by rw [List.length_set, HN.out]; rfl, by rw [List.length_set, HN.out]; exact HC.out, by rw [List.length_set]; have := HL.out; omega, ?_, HB2.out, sr_stay (c := c) ?_⟩
  · intro y hy
    rcases List.mem_or_eq_of_mem_set hy with h | rfl
    · exact HS.out y h
    · exact Nat.zero_le _
  · rw [List.length_set, HN.out]
    exact HP.out
theorem bent_1 (ha : 0 ≤ a ∧ a ≤ 65535) (hb : 0 ≤ b ∧ b ≤ 65535) (hq : b % 5 = 1) (hB : B ≤ w.heap.size) (h0 : 0 < l.length) (hl : l.length ≤ 1000) (hsz : ∀ y ∈ l, y.size ≤ 1000) (hr : SR w B (.slice (some ⟨g, 0, none⟩) l.length c) l) :
    Calls Try.prog 44 #[.slice (some ⟨g, 0, none⟩) l.length c, .agg #[.int .u16 a, .int .u16 b]] w fun e w' => BentP B w w' e := by
  have OW := Aside0.mk (Mem.Own.nil w)
  have HR := Aside0.mk hr
  have HB := Aside0.mk hB
  have HGB := Aside0.mk (sr_base hr)
  have HL := Aside0.mk hl
  have HS := Aside0.mk hsz
  obtain ⟨ha0, ha1⟩ := ha
  obtain ⟨hb0, hb1⟩ := hb
  have HC := Aside0.mk (Kd.R_reads' hr).2.1
  obtain ⟨n, hn⟩ : ∃ n, l.length = n := ⟨_, rfl⟩
  have HN := Aside0.mk hn
  have hn0 : 0 < (n : Int) := by omega
  have hn1 : 0 < n := by omega
  obtain ⟨q, hqa⟩ : ∃ q : Nat, a % (n : Int) = q := ⟨(a % (n : Int)).toNat, by have := Int.emod_nonneg a (show (n : Int) ≠ 0 by omega); omega⟩
  have hqn : (q : Int) < (n : Int) := by rw [← hqa]; exact Int.emod_lt_of_pos _ hn0
  rw [hn] at HR HC ⊢
  clear hr hB hl hsz h0 hn
  go_enter Try.func44, Try.ntmps44
  go_wp2_with (first
    | ((with_reducible refine gate_dst (N := 3) rfl ?_); refine box_event ?hg (N := 3) ?hd (cs := #[.int .u16 a, .int .u16 b]) (t := 85) ?hr ?_; (case hd => rfl); (case hg => rfl); (case hr => first | (go_simp; done) | (go_simp; rfl)); intro gB hg W_ hb hbb; have j0 := (blk_cell hb 0).trans rfl; have j1 := (blk_cell hb 1).trans rfl; have n_ : Aside0 (Mem.Own w W_ [(gB, #[.int .u16 a, .int .u16 b], 85)]) := ⟨OW.out.new hg hb hbb⟩; clear OW hb hbb hg; have OW := n_; clear n_))
  have OD := Aside0.mk OW.out.drew
  have HRD := Aside0.mk (Kd.R_drew (Kd.R_below HR.out OW.out.below))
  refine start_ (n := 9) (S := fun w' => Below (W_).drew.heap.size (W_).drew w') (ds := []) #[false, false, false, false, false, false, false, false, false] (by kernel_rfl) rfl rfl (Below.refl _ _) (fun hHeld => ?_)
  generalize (W_).drew = W1 at *
  refine pure_ (i := 1) (N := (some 27)) (v := ?_) (a' := ?_) #[false, true, false, false, false, false, false, false, false] rfl rfl (by kernel_rfl) (fun _ _ _ h => h) (Or.inl ⟨by rfl, ?_⟩) ?_ ?_
  rotate_left
  · intro w'
    go_simp
    first | done | with_reducible rfl
  rotate_left
  · simp only [Act.put, List.setIfInBounds_toArray, List.set_cons_zero, List.set_cons_succ, i64_w, i32_w]
    rfl
  refine pure_ (i := 3) (N := (some 29)) (v := ?_) (a' := ?_) #[false, true, false, true, false, false, false, false, false] rfl rfl (by kernel_rfl) (fun _ _ _ h => h) (Or.inl ⟨by rfl, ?_⟩) ?_ ?_
  rotate_left
  · intro w'
    go_simp
    first | done | with_reducible rfl
  rotate_left
  · simp only [Act.put, List.setIfInBounds_toArray, List.set_cons_zero, List.set_cons_succ, i64_w, i32_w]
    rfl
  refine pure_ (i := 4) (N := (some 30)) (v := ?_) (a' := ?_) #[false, true, false, true, true, false, false, false, false] rfl rfl (by kernel_rfl) (fun _ _ _ h => h) (Or.inl ⟨by rfl, ?_⟩) ?_ ?_
  rotate_left
  · intro w'
    go_simp
    first | done | with_reducible rfl
  rotate_left
  · simp only [Act.put, List.setIfInBounds_toArray, List.set_cons_zero, List.set_cons_succ, i64_w, i32_w]
    rfl
  refine take_ (i := 5) (N := (some 31)) (v := ?_) (a' := ?_) #[false, true, false, true, true, true, false, false, false] rfl rfl (by kernel_rfl) (fun _ _ _ h => h) (Or.inl ⟨by rfl, ?_⟩) hHeld ?_ ?_
  rotate_left
  · intro w' hS
    have cc := (Kd.R_celln ByteArray.empty (Kd.R_below HRD.out hS) 0 (Int.le_refl 0) hn0).1
    simp only [Int.toNat_zero] at cc
    go_simp
    first | done | with_reducible rfl
  rotate_left
  · simp only [Act.put, List.setIfInBounds_toArray, List.set_cons_zero, List.set_cons_succ, i64_w, i32_w]
    rfl
  refine two_ (i := 0) (j := 6) (Ni := (some 26)) (Nj := (some 32)) #[true, true, false, true, true, true, false, false, false] #[false, true, false, true, true, true, true, false, false] rfl rfl rfl rfl (by kernel_rfl) (by decide) (by decide) (fun K hK => ?_) (fun K hK => ?_)
  refine lit_step2 (by rfl) (N := 26) rfl [] (by first | (go_simp; done) | (go_simp; rfl)) (by decide) ?_
  intro vN wz hrN hB
  have hS2 : Below W1.heap.size W1 wz := below_step hHeld hB
  (try (have HNE := Aside0.mk (ne_rows hrN HY.out); have n_ := Aside0.mk (Kd.R_below HY.out hB); clear HY; have HY := n_; clear n_))
  have HN1 := Aside0.mk (Kd.R_lower hrN hHeld.size)
  clear hB hHeld hrN
  refine hK.out _ _ hS2 (fun hHeld => ?_)
  clear hK K
  refine norm_ (a' := ?_) ?_ ?_
  rotate_left
  · show Act.put _ (some 26) _ = _
    simp only [Act.put, List.setIfInBounds_toArray, List.set_cons_zero, List.set_cons_succ, i64_w, i32_w]
    rfl
  refine two_ (i := 2) (j := 6) (Ni := (some 28)) (Nj := (some 32)) #[true, true, true, true, true, true, false, false, false] #[true, true, false, true, true, true, true, false, false] rfl rfl rfl rfl (by kernel_rfl) (by decide) (by decide) (fun K hK => ?_) (fun K hK => ?_)
  refine app_step2 (W0 := W1) W1.heap.size (by rfl) (.tmp 26) (.tmp 27) rfl vN [] l (some ⟨g, 0, none⟩) c rfl (by rw [HN.out]; rfl) HN1.out (by have := (Kd.R_reads' (Kd.R_below HRD.out hHeld)).2.2; rw [HN.out] at this ⊢; exact this) hHeld hHeld.size (by have := HL.out; simp; omega) ?_
  intro vN2 wz hrN hb hg hat
  have hS2 : Below W1.heap.size W1 wz := hb
  (try (have m_ := Aside0.mk (ne_app HNE.out hat HY.out); have n_ := Aside0.mk (row_beside HY.out HNE.out hg); clear HNE HY; have HNE := m_; have HY := n_; clear m_ n_))
  clear HN1
  rw [List.nil_append] at hrN
  have HN1 := Aside0.mk hrN
  clear hb hg hat hrN hHeld
  refine hK.out _ _ hS2 (fun hHeld => ?_)
  clear hK K
  refine norm_ (a' := ?_) ?_ ?_
  rotate_left
  · show Act.put _ (some 28) _ = _
    simp only [Act.put, List.setIfInBounds_toArray, List.set_cons_zero, List.set_cons_succ, i64_w, i32_w]
    rfl
  refine one_ (i := 6) (N := (some 32)) #[true, true, true, true, true, true, true, false, false] rfl rfl (by kernel_rfl) (by decide) (fun K hK => ?_)
  refine lit_step2 (by rfl) (N := 32) rfl [rdOf ByteArray.empty l 0] (by first | (go_simp; done) | (go_simp; rfl)) (by simp) ?_
  intro vY wz hrY hB
  have hS2 : Below W1.heap.size W1 wz := below_step hHeld hB
  (try (have HNE := Aside0.mk (ne_symm (ne_rows hrY HN1.out)); have n_ := Aside0.mk (Kd.R_below HN1.out hB); clear HN1; have HN1 := n_; clear n_))
  obtain ⟨AY, cYY, rfl⟩ := Kd.R_slice hrY
  have HY := Aside0.mk (Kd.R_lower hrY hHeld.size)
  clear hB hHeld hrY
  refine hK.out _ _ hS2 (fun hHeld => ?_)
  clear hK K
  refine norm_ (a' := ?_) ?_ ?_
  rotate_left
  · show Act.put _ (some 32) _ = _
    simp only [Act.put, List.setIfInBounds_toArray, List.set_cons_zero, List.set_cons_succ, i64_w, i32_w]
    rfl
  refine one_ (i := 7) (N := (some 33)) #[true, true, true, true, true, true, true, true, false] rfl rfl (by kernel_rfl) (by decide) (fun K hK => ?_)
  refine app_step2 (W0 := W1) W1.heap.size (by rfl) (.tmp 28) (.tmp 32) rfl _ l [rdOf ByteArray.empty l 0] AY cYY rfl rfl HN1.out (Kd.R_reads' HY.out).2.2 hHeld hHeld.size (by have := HL.out; simp; omega) ?_
  intro vN3 wz hrN hb hg hat
  have hS2 : Below W1.heap.size W1 wz := hb
  clear HN1 HY HNE
  obtain ⟨AN, cN, rfl⟩ := Kd.R_slice hrN
  have HN1 := Aside0.mk hrN
  clear hb hg hat hrN hHeld
  refine hK.out _ _ hS2 (fun hHeld => ?_)
  clear hK K
  refine norm_ (a' := ?_) ?_ ?_
  rotate_left
  · show Act.put _ (some 33) _ = _
    simp only [Act.put, List.setIfInBounds_toArray, List.set_cons_zero, List.set_cons_succ, i64_w, i32_w]
    rfl
  refine pure_ (i := 8) (N := (some 4)) (v := ?_) (a' := ?_) #[true, true, true, true, true, true, true, true, true] rfl rfl (by kernel_rfl) (fun _ _ _ h => h) (Or.inl ⟨by rfl, ?_⟩) ?_ ?_
  rotate_left
  · intro w'
    go_simp
    first | done | with_reducible rfl
  rotate_left
  · simp only [Act.put, List.setIfInBounds_toArray, List.set_cons_zero, List.set_cons_succ, i64_w, i32_w]
    rfl
  refine done_ (by kernel_rfl) ?_
  rotate_left
  refine lit_step2 (by rfl) (N := 32) rfl [rdOf ByteArray.empty l 0] (by first | (go_simp; done) | (go_simp; rfl)) (by simp) ?_
  intro vY wz hrY hB
  have hS2 : Below W1.heap.size W1 wz := below_step hHeld hB
  (try (have HNE := Aside0.mk (ne_symm (ne_rows hrY HN1.out)); have n_ := Aside0.mk (Kd.R_below HN1.out hB); clear HN1; have HN1 := n_; clear n_))
  obtain ⟨AY, cYY, rfl⟩ := Kd.R_slice hrY
  have HY := Aside0.mk (Kd.R_lower hrY hHeld.size)
  clear hB hHeld hrY
  refine hK.out _ _ hS2 (fun hHeld => ?_)
  clear hK K
  refine norm_ (a' := ?_) ?_ ?_
  rotate_left
  · show Act.put _ (some 32) _ = _
    simp only [Act.put, List.setIfInBounds_toArray, List.set_cons_zero, List.set_cons_succ, i64_w, i32_w]
    rfl
  refine one_ (i := 2) (N := (some 28)) #[true, true, true, true, true, true, true, false, false] rfl rfl (by kernel_rfl) (by decide) (fun K hK => ?_)
  refine app_step2 (W0 := W1) W1.heap.size (by rfl) (.tmp 26) (.tmp 27) rfl vN [] l (some ⟨g, 0, none⟩) c rfl (by rw [HN.out]; rfl) HN1.out (by have := (Kd.R_reads' (Kd.R_below HRD.out hHeld)).2.2; rw [HN.out] at this ⊢; exact this) hHeld hHeld.size (by have := HL.out; simp; omega) ?_
  intro vN2 wz hrN hb hg hat
  have hS2 : Below W1.heap.size W1 wz := hb
  (try (have m_ := Aside0.mk (ne_app HNE.out hat HY.out); have n_ := Aside0.mk (row_beside HY.out HNE.out hg); clear HNE HY; have HNE := m_; have HY := n_; clear m_ n_))
  clear HN1
  rw [List.nil_append] at hrN
  have HN1 := Aside0.mk hrN
  clear hb hg hat hrN hHeld
  refine hK.out _ _ hS2 (fun hHeld => ?_)
  clear hK K
  refine norm_ (a' := ?_) ?_ ?_
  rotate_left
  · show Act.put _ (some 28) _ = _
    simp only [Act.put, List.setIfInBounds_toArray, List.set_cons_zero, List.set_cons_succ, i64_w, i32_w]
    rfl
  refine one_ (i := 7) (N := (some 33)) #[true, true, true, true, true, true, true, true, false] rfl rfl (by kernel_rfl) (by decide) (fun K hK => ?_)
  refine app_step2 (W0 := W1) W1.heap.size (by rfl) (.tmp 28) (.tmp 32) rfl _ l [rdOf ByteArray.empty l 0] AY cYY rfl rfl HN1.out (Kd.R_reads' HY.out).2.2 hHeld hHeld.size (by have := HL.out; simp; omega) ?_
  intro vN3 wz hrN hb hg hat
  have hS2 : Below W1.heap.size W1 wz := hb
  clear HN1 HY HNE
  obtain ⟨AN, cN, rfl⟩ := Kd.R_slice hrN
  have HN1 := Aside0.mk hrN
  clear hb hg hat hrN hHeld
  refine hK.out _ _ hS2 (fun hHeld => ?_)
  clear hK K
  refine norm_ (a' := ?_) ?_ ?_
  rotate_left
  · show Act.put _ (some 33) _ = _
    simp only [Act.put, List.setIfInBounds_toArray, List.set_cons_zero, List.set_cons_succ, i64_w, i32_w]
    rfl
  refine pure_ (i := 8) (N := (some 4)) (v := ?_) (a' := ?_) #[true, true, true, true, true, true, true, true, true] rfl rfl (by kernel_rfl) (fun _ _ _ h => h) (Or.inl ⟨by rfl, ?_⟩) ?_ ?_
  rotate_left
  · intro w'
    go_simp
    first | done | with_reducible rfl
  rotate_left
  · simp only [Act.put, List.setIfInBounds_toArray, List.set_cons_zero, List.set_cons_succ, i64_w, i32_w]
    rfl
  refine done_ (by kernel_rfl) ?_
  rotate_left
  refine lit_step2 (by rfl) (N := 32) rfl [rdOf ByteArray.empty l 0] (by first | (go_simp; done) | (go_simp; rfl)) (by simp) ?_
  intro vY wz hrY hB
  have hS2 : Below W1.heap.size W1 wz := below_step hHeld hB
  (try (have HNE := Aside0.mk (ne_symm (ne_rows hrY HN1.out)); have n_ := Aside0.mk (Kd.R_below HN1.out hB); clear HN1; have HN1 := n_; clear n_))
  obtain ⟨AY, cYY, rfl⟩ := Kd.R_slice hrY
  have HY := Aside0.mk (Kd.R_lower hrY hHeld.size)
  clear hB hHeld hrY
  refine hK.out _ _ hS2 (fun hHeld => ?_)
  clear hK K
  refine norm_ (a' := ?_) ?_ ?_
  rotate_left
  · show Act.put _ (some 32) _ = _
    simp only [Act.put, List.setIfInBounds_toArray, List.set_cons_zero, List.set_cons_succ, i64_w, i32_w]
    rfl
  refine one_ (i := 0) (N := (some 26)) #[true, true, false, true, true, true, true, false, false] rfl rfl (by kernel_rfl) (by decide) (fun K hK => ?_)
  refine lit_step2 (by rfl) (N := 26) rfl [] (by first | (go_simp; done) | (go_simp; rfl)) (by decide) ?_
  intro vN wz hrN hB
  have hS2 : Below W1.heap.size W1 wz := below_step hHeld hB
  (try (have HNE := Aside0.mk (ne_rows hrN HY.out); have n_ := Aside0.mk (Kd.R_below HY.out hB); clear HY; have HY := n_; clear n_))
  have HN1 := Aside0.mk (Kd.R_lower hrN hHeld.size)
  clear hB hHeld hrN
  refine hK.out _ _ hS2 (fun hHeld => ?_)
  clear hK K
  refine norm_ (a' := ?_) ?_ ?_
  rotate_left
  · show Act.put _ (some 26) _ = _
    simp only [Act.put, List.setIfInBounds_toArray, List.set_cons_zero, List.set_cons_succ, i64_w, i32_w]
    rfl
  refine one_ (i := 2) (N := (some 28)) #[true, true, true, true, true, true, true, false, false] rfl rfl (by kernel_rfl) (by decide) (fun K hK => ?_)
  refine app_step2 (W0 := W1) W1.heap.size (by rfl) (.tmp 26) (.tmp 27) rfl vN [] l (some ⟨g, 0, none⟩) c rfl (by rw [HN.out]; rfl) HN1.out (by have := (Kd.R_reads' (Kd.R_below HRD.out hHeld)).2.2; rw [HN.out] at this ⊢; exact this) hHeld hHeld.size (by have := HL.out; simp; omega) ?_
  intro vN2 wz hrN hb hg hat
  have hS2 : Below W1.heap.size W1 wz := hb
  (try (have m_ := Aside0.mk (ne_app HNE.out hat HY.out); have n_ := Aside0.mk (row_beside HY.out HNE.out hg); clear HNE HY; have HNE := m_; have HY := n_; clear m_ n_))
  clear HN1
  rw [List.nil_append] at hrN
  have HN1 := Aside0.mk hrN
  clear hb hg hat hrN hHeld
  refine hK.out _ _ hS2 (fun hHeld => ?_)
  clear hK K
  refine norm_ (a' := ?_) ?_ ?_
  rotate_left
  · show Act.put _ (some 28) _ = _
    simp only [Act.put, List.setIfInBounds_toArray, List.set_cons_zero, List.set_cons_succ, i64_w, i32_w]
    rfl
  refine one_ (i := 7) (N := (some 33)) #[true, true, true, true, true, true, true, true, false] rfl rfl (by kernel_rfl) (by decide) (fun K hK => ?_)
  refine app_step2 (W0 := W1) W1.heap.size (by rfl) (.tmp 28) (.tmp 32) rfl _ l [rdOf ByteArray.empty l 0] AY cYY rfl rfl HN1.out (Kd.R_reads' HY.out).2.2 hHeld hHeld.size (by have := HL.out; simp; omega) ?_
  intro vN3 wz hrN hb hg hat
  have hS2 : Below W1.heap.size W1 wz := hb
  clear HN1 HY HNE
  obtain ⟨AN, cN, rfl⟩ := Kd.R_slice hrN
  have HN1 := Aside0.mk hrN
  clear hb hg hat hrN hHeld
  refine hK.out _ _ hS2 (fun hHeld => ?_)
  clear hK K
  refine norm_ (a' := ?_) ?_ ?_
  rotate_left
  · show Act.put _ (some 33) _ = _
    simp only [Act.put, List.setIfInBounds_toArray, List.set_cons_zero, List.set_cons_succ, i64_w, i32_w]
    rfl
  refine pure_ (i := 8) (N := (some 4)) (v := ?_) (a' := ?_) #[true, true, true, true, true, true, true, true, true] rfl rfl (by kernel_rfl) (fun _ _ _ h => h) (Or.inl ⟨by rfl, ?_⟩) ?_ ?_
  rotate_left
  · intro w'
    go_simp
    first | done | with_reducible rfl
  rotate_left
  · simp only [Act.put, List.setIfInBounds_toArray, List.set_cons_zero, List.set_cons_succ, i64_w, i32_w]
    rfl
  refine done_ (by kernel_rfl) ?_
  all_goals (
    go_wp2
    go_ret
    have hy : (rdOf ByteArray.empty l 0).size ≤ 1000 := by
      unfold rdOf
      rw [List.getD_eq_getElem?_getD]
      cases hq9 : l[(0 : Int).toNat]? with
      | none => exact Nat.zero_le _
      | some y => exact HS.out y (List.mem_of_getElem? hq9)
    refine ⟨AN, cN, l ++ [rdOf ByteArray.empty l 0], by rw [List.length_append]; rfl, (Kd.R_reads' HN1.out).2.1, by have := HL.out; simp; omega, fun y hy9 => ?_, (OD.out.below.trans (hHeld.mono OD.out.size)).mono HB.out, fun W' hk => sr_stay HN1.out W' (fun k h1 h2 => hk k (Nat.le_trans HB.out (Nat.le_trans OD.out.size h1)) h2)⟩
    rcases List.mem_append.1 hy9 with h | h
    · exact HS.out y h
    · rw [List.mem_singleton.1 h]; exact hy)
theorem bent_3y (ha : 0 ≤ a ∧ a ≤ 65535) (hb : 0 ≤ b ∧ b ≤ 65535) (hq : b % 5 = 3) (hy0 : 0 < (rdOf ByteArray.empty l (a % (l.length : Int))).size) (hB : B ≤ w.heap.size) (h0 : 0 < l.length) (hl : l.length ≤ 1000) (hsz : ∀ y ∈ l, y.size ≤ 1000) (hr : SR w B (.slice (some ⟨g, 0, none⟩) l.length c) l) :
    Calls Try.prog 44 #[.slice (some ⟨g, 0, none⟩) l.length c, .agg #[.int .u16 a, .int .u16 b]] w fun e w' => BentP B w w' e := by
  have OW := Aside0.mk (Mem.Own.nil w)
  have HR := Aside0.mk hr
  have HB := Aside0.mk hB
  have HGB := Aside0.mk (sr_base hr)
  have HL := Aside0.mk hl
  have HS := Aside0.mk hsz
  obtain ⟨ha0, ha1⟩ := ha
  obtain ⟨hb0, hb1⟩ := hb
  have HC := Aside0.mk (Kd.R_reads' hr).2.1
  have HYS := Aside0.mk (rd_small (a % (l.length : Int)) hsz)
  obtain ⟨n, hn⟩ : ∃ n, l.length = n := ⟨_, rfl⟩
  have HN := Aside0.mk hn
  have hn0 : 0 < (n : Int) := by omega
  obtain ⟨q, hqa⟩ : ∃ q : Nat, a % (n : Int) = q := ⟨(a % (n : Int)).toNat, by have := Int.emod_nonneg a (show (n : Int) ≠ 0 by omega); omega⟩
  have hqn : (q : Int) < (n : Int) := by rw [← hqa]; exact Int.emod_lt_of_pos _ hn0
  rw [hn] at HR HC HYS hy0 ⊢
  rw [hqa] at HYS hy0
  obtain ⟨y, hy⟩ : ∃ y, rdOf ByteArray.empty l (q : Int) = y := ⟨_, rfl⟩
  rw [hy] at HYS hy0
  have HY := Aside0.mk hy
  obtain ⟨s, hs⟩ : ∃ s, y.size = s := ⟨_, rfl⟩
  have HSZ := Aside0.mk hs
  rw [hs] at HYS hy0
  have hs0 : 0 < (s : Int) := by omega
  obtain ⟨p, hpa⟩ : ∃ p : Nat, b % (s : Int) = p := ⟨(b % (s : Int)).toNat, by have := Int.emod_nonneg b (show (s : Int) ≠ 0 by omega); omega⟩
  have hpn : (p : Int) < (s : Int) := by rw [← hpa]; exact Int.emod_lt_of_pos _ hs0
  clear hy
  clear hr hB hl hsz h0 hn
  go_enter Try.func44, Try.ntmps44
  go_wp2_with (first
    | ((with_reducible refine gate_dst (N := 3) rfl ?_); refine box_event ?hg (N := 3) ?hd (cs := #[.int .u16 a, .int .u16 b]) (t := 85) ?hr ?_; (case hd => rfl); (case hg => rfl); (case hr => first | (go_simp; done) | (go_simp; rfl)); intro gB hg W_ hb hbb; have j0 := (blk_cell hb 0).trans rfl; have j1 := (blk_cell hb 1).trans rfl; have HR1 := Aside0.mk (Kd.R_below HR.out hbb); have cc := Kd.R_celln ByteArray.empty HR1.out (q : Int) (Int.natCast_nonneg q) hqn; rw [Int.toNat_natCast] at cc; rw [HY.out] at cc; obtain ⟨c0, c1⟩ := cc; obtain ⟨WB, cap, ns, hcv, hns, hcap, hcell, CV0, hbel⟩ := bytes_in W_ y; rw [HSZ.out] at hcv hns hcap hcell CV0; have CV := CV0 p; clear CV0; have HBEL := Aside0.mk hbel; have j2 := pw_cell_below hbel j1; have HNS := Aside0.mk hns; obtain ⟨d0, d1, d2, d3⟩ := hcell p (Int.ofNat_lt.1 hpn); have HR3 := Aside0.mk (fun X => row_turn (Kd.R_below HR1.out hbel) (g := W_.heap.size) (sr_old HR1.out) p (.int .u8 X)); have cc := fun X => Kd.R_celln ByteArray.empty (HR3.out X) (q : Int) (Int.natCast_nonneg q) hqn; simp only [Int.toNat_natCast, HY.out] at cc; have e0 := fun X => (cc X).1; have e1 := fun X => (cc X).2; clear cc hcell hbel hns; have n_ : Aside0 (Mem.Own w W_ [(gB, #[.int .u16 a, .int .u16 b], 85)]) := ⟨OW.out.new hg hb hbb⟩; clear OW hb hbb hg; have OW := n_; clear n_))
  generalize bits BinOp.xor IntKind.u8 (ns[p]?.getD 0) 1 = X
  have hp1 : (WB.setCell ⟨W_.heap.size, p, none⟩ (.int .u8 X)).heap.size = WB.heap.size := by simp [World.setCell]
  have HP := Kd.R_putn (HR3.out X) (q : Int) (strOfNums (ns.set p X))
  rw [Int.toNat_natCast] at HP
  have HB3 : Below B w WB := (OW.out.below.trans (HBEL.out.mono OW.out.size)).mono HB.out
  have hBW : B ≤ W_.heap.size := Nat.le_trans HB.out OW.out.size
  go_ret
  refine ⟨some ⟨g, 0, none⟩, c, l.set q (strOfNums (ns.set p X)), by rw [List.length_set, HN.out]; rfl, by rw [List.length_set, HN.out]; exact HC.out, by rw [List.length_set]; have := HL.out; omega, ?_, (HB3.setCell (p := ⟨W_.heap.size, p, none⟩) hBW _).setCell (p := ⟨g, q, none⟩) HGB.out _, sr_stay (c := c) ?_⟩
  · intro z hz
    rcases List.mem_or_eq_of_mem_set hz with h | rfl
    · exact HS.out z h
    · rw [strOfNums_size, List.length_set, HNS.out]
      exact HYS.out
  · rw [List.length_set, HN.out]
    exact HP
theorem bent_3n (ha : 0 ≤ a ∧ a ≤ 65535) (hb : 0 ≤ b ∧ b ≤ 65535) (hq : b % 5 = 3) (hy0 : ¬ 0 < (rdOf ByteArray.empty l (a % (l.length : Int))).size) (hB : B ≤ w.heap.size) (h0 : 0 < l.length) (hl : l.length ≤ 1000) (hsz : ∀ y ∈ l, y.size ≤ 1000) (hr : SR w B (.slice (some ⟨g, 0, none⟩) l.length c) l) :
    Calls Try.prog 44 #[.slice (some ⟨g, 0, none⟩) l.length c, .agg #[.int .u16 a, .int .u16 b]] w fun e w' => BentP B w w' e := by
  have OW := Aside0.mk (Mem.Own.nil w)
  have HR := Aside0.mk hr
  have HB := Aside0.mk hB
  have HGB := Aside0.mk (sr_base hr)
  have HL := Aside0.mk hl
  have HS := Aside0.mk hsz
  obtain ⟨ha0, ha1⟩ := ha
  obtain ⟨hb0, hb1⟩ := hb
  have HC := Aside0.mk (Kd.R_reads' hr).2.1
  obtain ⟨n, hn⟩ : ∃ n, l.length = n := ⟨_, rfl⟩
  have HN := Aside0.mk hn
  have hn0 : 0 < (n : Int) := by omega
  obtain ⟨q, hqa⟩ : ∃ q : Nat, a % (n : Int) = q := ⟨(a % (n : Int)).toNat, by have := Int.emod_nonneg a (show (n : Int) ≠ 0 by omega); omega⟩
  have hqn : (q : Int) < (n : Int) := by rw [← hqa]; exact Int.emod_lt_of_pos _ hn0
  rw [hn] at HR HC hy0 ⊢
  rw [hqa] at hy0
  obtain ⟨y, hy⟩ : ∃ y, rdOf ByteArray.empty l (q : Int) = y := ⟨_, rfl⟩
  rw [hy] at hy0
  have HY := Aside0.mk hy
  obtain ⟨s, hs⟩ : ∃ s, y.size = s := ⟨_, rfl⟩
  rw [hs] at hy0
  clear hy
  clear hr hB hl hsz h0 hn
  go_enter Try.func44, Try.ntmps44
  go_wp2_with (first
    | ((with_reducible refine gate_dst (N := 3) rfl ?_); refine box_event ?hg (N := 3) ?hd (cs := #[.int .u16 a, .int .u16 b]) (t := 85) ?hr ?_; (case hd => rfl); (case hg => rfl); (case hr => first | (go_simp; done) | (go_simp; rfl)); intro gB hg W_ hb hbb; have j0 := (blk_cell hb 0).trans rfl; have j1 := (blk_cell hb 1).trans rfl; have HR1 := Aside0.mk (Kd.R_below HR.out hbb); have cc := Kd.R_celln ByteArray.empty HR1.out (q : Int) (Int.natCast_nonneg q) hqn; rw [Int.toNat_natCast, HY.out] at cc; obtain ⟨c0, c1⟩ := cc; have n_ : Aside0 (Mem.Own w W_ [(gB, #[.int .u16 a, .int .u16 b], 85)]) := ⟨OW.out.new hg hb hbb⟩; clear OW hb hbb hg; have OW := n_; clear n_))
  go_ret
  refine ⟨some ⟨g, 0, none⟩, c, l, by rw [HN.out]; rfl, by rw [HN.out]; exact HC.out, by have := HL.out; omega, HS.out, OW.out.below.mono HB.out, sr_stay (c := c) ?_⟩
  rw [HN.out]
  exact Kd.R_below HR.out OW.out.below
theorem bent_c (ha : 0 ≤ a ∧ a ≤ 65535) (hb : 0 ≤ b ∧ b ≤ 65535) (hB : B ≤ w.heap.size) (h0 : 0 < l.length) (hl : l.length ≤ 1000) (hsz : ∀ y ∈ l, y.size ≤ 1000) (hr : SR w B (.slice (some ⟨g, 0, none⟩) l.length c) l) :
    Calls Try.prog 44 #[.slice (some ⟨g, 0, none⟩) l.length c, .agg #[.int .u16 a, .int .u16 b]] w fun e w' => BentP B w w' e := by
  rcases (by omega : b % 5 = 0 ∨ b % 5 = 1 ∨ b % 5 = 2 ∨ b % 5 = 3 ∨ b % 5 = 4) with h | h | h | h | h
  · exact bent_0 ha hb h hB h0 hl hsz hr
  · exact bent_1 ha hb h hB h0 hl hsz hr
  · exact bent_2 ha hb h hB h0 hl hsz hr
  · by_cases hy : 0 < (rdOf ByteArray.empty l (a % (l.length : Int))).size
    · exact bent_3y ha hb h hy hB h0 hl hsz hr
    · exact bent_3n ha hb h hy hB h0 hl hsz hr
  · exact bent_4 ha hb h hB h0 hl hsz hr
end Go.Proofs.Ytondnammkcgjpaa.Ft
namespace Go.Proofs.Ytondnammkcgjpaa.Til
open Go Go.Proofs Go.RowKit Go.Shelf
attribute [local go_sem] Oper.semAt_some

def qv (m : Int) : Nat → Int
  | 0 => m
  | k + 1 => qv m k / 4
def ln (m : Int) : Nat := if m ≤ 0 then 0 else if m < 4 then 1 else if m < 16 then 2 else if m < 64 then 3 else 4
abbrev Lv := { p : Int × Int // 0 ≤ p.1 ∧ p.1 ≤ 4 ∧ 0 ≤ p.2 ∧ p.2 ≤ 64 }
def mkLv (i : Nat) (q : Int) : Lv := ⟨(min (i : Int) 4, max 0 (min q 64)), by simp only; omega⟩
theorem mkLv_1 (i : Nat) (q : Int) (h : i ≤ 4) : (mkLv i q).1.1 = i := by show min (i : Int) 4 = i; omega
theorem mkLv_2 (i : Nat) (q : Int) (h0 : 0 ≤ q) (h1 : q ≤ 64) : (mkLv i q).1.2 = q := by show max 0 (min q 64) = q; omega
def lvs (m : Int) (k : Nat) : List Lv := (List.range k).map fun (i : Nat) => mkLv i (qv m i)
theorem lvs_succ (m : Int) (k : Nat) : lvs m (k + 1) = lvs m k ++ [mkLv k (qv m k)] := by simp [lvs, List.range_succ]
theorem lvs_len (m : Int) (k : Nat) : (lvs m k).length = k := by simp [lvs]
theorem ln_le (m : Int) : ln m ≤ 4 := by unfold ln; (repeat' split) <;> omega
theorem qv_in (m : Int) (h0 : 0 ≤ m) (h1 : m ≤ 64) (k : Nat) : 0 ≤ qv m k ∧ qv m k ≤ 64 := by
  induction k with
  | zero => exact ⟨h0, h1⟩
  | succ k ih => simp only [qv]; omega
theorem qv_pos (m : Int) (h0 : 0 ≤ m) (h1 : m ≤ 64) (k : Nat) (hk : k ≤ 4) : 0 < qv m k ↔ k < ln m := by
  unfold ln
  match k, hk with
  | 0, _ => simp only [qv]; (repeat' split) <;> omega
  | 1, _ => simp only [qv]; (repeat' split) <;> omega
  | 2, _ => simp only [qv]; (repeat' split) <;> omega
  | 3, _ => simp only [qv]; (repeat' split) <;> omega
  | 4, _ => simp only [qv]; (repeat' split) <;> omega

abbrev enc2 (x : Lv) : Array Value := #[.int .i64 x.1.1, .int .i64 x.1.2]
def Keep1 (Bn : Nat) (A B : World) : Prop := ∀ v, Boxed A Bn 3 v → Boxed B Bn 3 v

theorem levels1 (F : Fence) (n : Nat) (hf : F.fn 100) (hro : F.round = none) (hn : 1 ≤ n) (Bn : Nat) (m : Int) (h0 : 0 ≤ m) (h1 : m ≤ 64) (w : World) (hBn : Bn < w.heap.size) (hc : Boxed w Bn 3 (.int .i64 m)) :
    CellSeq F n Try.prog 100 #[.pointer (some ⟨Bn, 0, none⟩)] enc2 Bn (Keep1 Bn) (fun xs => xs = lvs m (ln m)) (fun pre => ∃ k, k < ln m ∧ pre = lvs m (k + 1)) 4 w := fun l J Jx W hW hJc _ _ hY hJ0 => by
  have hcW : Boxed W Bn 3 (.int .i64 m) := (hW.block Bn hBn).trans hc
  refine callsIn_of_wp Try.func100 rfl hf ?_ hro
  simp only [Try.ntmps100, List.size_toArray, List.length_cons, List.length_nil, Nat.reduceAdd, Nat.reduceSub, Array.replicate_succ, Array.replicate_zero, List.push_toArray, List.append_toArray, List.nil_append, List.cons_append]
  gi_wp2
  gi_loopw [3] (fun p wr => ∃ k : Nat, p = .int .i64 k ∧ k ≤ ln m ∧ Boxed wr Bn 3 (.int .i64 (qv m k)) ∧ J (lvs m k) wr) (fun p _ => 4 - (intOf p).toNat)
  case atStart => exact ⟨0, rfl, Nat.zero_le _, hcW, hJ0⟩
  case round =>
    obtain ⟨k, rfl, hk, hb, hJ⟩ := hrel
    have hl := ln_le m
    have hq := qv_in m h0 h1 k
    have hp := qv_pos m h0 h1 k (by omega)
    have hce := hb.cell
    by_cases hlt : k < ln m
    · have hpos : 0 < qv m k := hp.2 hlt
      obtain ⟨fn, tmps, assign, body, hy, hR⟩ := hY (lvs m k) (mkLv k (qv m k)) wr hJ (by rw [lvs_len]; omega)
      simp only [enc2, mkLv_1 k _ (Nat.le_of_lt (Nat.lt_of_lt_of_le hlt hl)), mkLv_2 k _ hq.1 hq.2] at hy
      gi_wp2
      refine hR.mono ?_
      rintro e W3 (⟨rfl, hJ3, hk3⟩ | ⟨rfl, hx3⟩)
      · have hb3 := hk3 _ hb
        have hc3 := hb3.cell
        have hf3 := hb3.frozen
        gi_wp2
        go_roundw
        case rel => exact ⟨k + 1, by go_num, by omega, hb3.set _, by rw [lvs_succ]; exact hJc _ _ _ hJ3⟩
        case measure => simp [intOf]; omega
      · gi_wp2
        refine bodyPost_ret (results_none rfl _ _ _) rfl ?_
        exact ⟨⟨_, rfl⟩, .inr ⟨_, ⟨k, hlt, (lvs_succ m k).symm⟩, hx3⟩⟩
    · have hz : qv m k ≤ 0 := by have := hp.1; omega
      obtain rfl : k = ln m := by omega
      gi_wp2
      go_end0
      exact ⟨⟨_, rfl⟩, .inl ⟨_, rfl, hJ⟩⟩

def inB (n : Int) : Bool := decide (0 ≤ n ∧ n ≤ 64)
theorem in_c (n : Int) (b : Bool) (hb : inB n = b) (w : World) : Calls Try.prog 73 #[.int .i64 n] w fun e w' => e = .returned (.bool b) ∧ w = w' := by
  subst hb
  by_cases h0 : 0 ≤ n
  · by_cases h1 : n ≤ 64
    · go_enter Try.func73, Try.ntmps73
      go_wp2
      go_ret
      exact ⟨by simp [inB, h0, h1], rfl⟩
    · have h1' : 64 < n := by omega
      go_enter Try.func73, Try.ntmps73
      go_wp2
      go_ret
      exact ⟨by simp [inB, h0, h1], rfl⟩
  · have h0' : n < 0 := by omega
    go_enter Try.func73, Try.ntmps73
    go_wp2
    go_ret
    exact ⟨by simp [inB]; omega, rfl⟩
theorem levels_c (n : Int) (w : World) : Calls Try.prog 74 #[.int .i64 n] w fun e w' => e = .returned (.func (.func 100) #[] #[.pointer (some ⟨w.heap.size, 0, none⟩)]) ∧ w' = w.alloc (.cells #[.int .i64 n] 3) := by
  go_enter Try.func74, Try.ntmps74
  go_wp2
  go_ret
  exact ⟨rfl, rfl⟩

theorem own_boxed (B : Nat) (t : TypeId) (v : Value) : Own (fun (_ : List Lv) W => Boxed W B t v) := by
  intro s A A2 row hs hg hr
  exact hs.kept hg (fun e => by obtain ⟨o, ho, hc⟩ := hr B e.symm; rw [show A.heap[B]? = _ from hs] at ho; cases ho; cases hc)

def cntv (n k : Int) : Int := if 0 ≤ n ∧ n ≤ 64 ∧ 0 ≤ k ∧ k.toNat < ln n then qv n k.toNat else 0

theorem keep1_t {Bn : Nat} {A B C : World} (h : Keep1 Bn A B) (k : Keep1 Bn B C) : Keep1 Bn A C := fun v hv => k v (h v hv)
theorem keep1_b {Bn B0 : Nat} (hB : Bn < B0) (W : World) (l : Nat) (o o2 : Obj) (hl : B0 ≤ l) (_ : W.heap[l]? = some o) (_ : o.isCells = false) : Keep1 Bn W (W.putObj l o2) :=
  fun _ hv => (World.putObj_heap_other (by omega)).trans hv

theorem count_in (n k : Int) (h0 : 0 ≤ n) (h1 : n ≤ 64) (w : World) : CallsIn Fence.wide 3 Try.prog 45 #[.int .i64 n, .int .i64 k] w fun e w' => e = .returned (.int .i64 (cntv n k)) ∧ Below w.heap.size w w' := by
  have hin : inB n = true := by simp [inB, h0, h1]
  refine callsIn_of_wp_marks Try.func45 rfl trivial ?_ rfl
  simp only [Try.ntmps45, List.size_toArray, List.length_cons, List.length_nil, Nat.reduceAdd, Nat.reduceSub, Array.replicate_succ, Array.replicate_zero, List.push_toArray, List.append_toArray, List.nil_append, List.cons_append]
  have hpo := fun W => in_c n true hin W
  have HPO := Lib.hid hpo
  have HL := Lib.hid (levels_c n)
  clear hin hpo
  gi_wp2_with (first | (refine ⟨trivial, ?_⟩; gi_at_call 73; refine (callsIn_wide.2 (HPO.out _)).mono ?_; rintro e w' ⟨rfl, rfl⟩) | (refine ⟨trivial, ?_⟩; gi_at_call 74; refine (callsIn_wide.2 (HL.out _)).mono ?_; rintro e w' ⟨rfl, rfl⟩))
  have bK := Boxed.new w 3 (.int .i64 k)
  have bR := Boxed.new (w.alloc (.cells #[.int .i64 k] 3)) 3 (.int .i64 0)
  have bN := Boxed.new ((w.alloc (.cells #[.int .i64 k] 3)).alloc (.cells #[.int .i64 0] 3)) 3 (.int .i64 n)
  rw [World.size_alloc] at bR
  rw [World.size_alloc, World.size_alloc] at bN
  have hB0 : Below w.heap.size w (((w.alloc (.cells #[.int .i64 k] 3)).alloc (.cells #[.int .i64 0] 3)).alloc (.cells #[.int .i64 n] 3)) := (((Below.refl _ w).alloc (Nat.le_refl _) _).alloc (by simp) _).alloc (by simp; omega) _
  have bK2 := (bK.alloc (.cells #[.int .i64 0] 3)).alloc (.cells #[.int .i64 n] 3)
  have bR2 := bR.alloc (.cells #[.int .i64 n] 3)
  have hsz : (((w.alloc (.cells #[.int .i64 k] 3)).alloc (.cells #[.int .i64 0] 3)).alloc (.cells #[.int .i64 n] 3)).heap.size = w.heap.size + 3 := by simp
  obtain ⟨W0, hW0⟩ : ∃ W0, ((w.alloc (.cells #[.int .i64 k] 3)).alloc (.cells #[.int .i64 0] 3)).alloc (.cells #[.int .i64 n] 3) = W0 := ⟨_, rfl⟩
  rw [hW0] at hB0 bK2 bR2 hsz bN ⊢
  clear hW0 bK bR
  refine range_cell (α := Lv) (encs := enc2) (N := 4) (Bn := w.heap.size + 1 + 1) (Kp := Keep1 (w.heap.size + 1 + 1)) rfl (Nat.le_add_left 1 2) (gf := 100) (lb := #[.pointer (some ⟨w.heap.size + 1 + 1, 0, none⟩)]) rfl trivial (enters_of Try.func100 (by kernel_rfl) rfl)
    (levels1 Fence.wide 2 trivial rfl (by omega) (w.heap.size + 1 + 1) n h0 h1 W0 (by rw [hsz]; omega) bN) keep1_t
    (fun V l o o2 hl h hc => keep1_b (Bn := w.heap.size + 1 + 1) (B0 := w.heap.size + 3) (by omega) V l o o2 (by rw [hsz] at hl; exact hl) h hc) (Below.refl _ _) (fun _ => rfl)
    (fun (pre : List Lv) W => (Boxed W w.heap.size 3 (.int .i64 k) ∧ Boxed W (w.heap.size + 1) 3 (.int .i64 0) ∧ ∀ x : Lv, x ∈ pre → x.1.1 ≠ k) ∧ Below w.heap.size w W)
    (fun c (pre : List Lv) W => (c = .ret ∧ ∃ (x : Lv) (ys : List Lv), pre = ys ++ [x] ∧ x.1.1 = k ∧ Boxed W (w.heap.size + 1) 3 (.int .i64 x.1.2)) ∧ Below w.heap.size w W)
    (OwnFrom.and (Own.from (fun s A A2 row hs hg hr => ⟨own_boxed _ _ _ s A A2 row hs.1 hg hr, own_boxed _ _ _ s A A2 row hs.2.1 hg hr, hs.2.2⟩) _) (ownFrom_below (Nat.le_refl _) (by rw [hsz]; omega)))
    (fun c => OwnFrom.and (Own.from (fun s A A2 row hs hg hr => by obtain ⟨hc, x, ys, e1, e2, hb⟩ := hs; exact ⟨hc, x, ys, e1, e2, own_boxed _ _ _ s A A2 row hb hg hr⟩) _) (ownFrom_below (Nat.le_refl _) (by rw [hsz]; omega)))
    (fun s A v hs => ⟨⟨hs.1.1.other (by omega) v, hs.1.2.1.other (by omega) v, hs.1.2.2⟩, hs.2.setCell (p := ⟨w.heap.size + 1 + 1, 0, none⟩) (by show w.heap.size ≤ w.heap.size + 1 + 1; omega) v⟩)
    ⟨⟨bK2, bR2, fun x hx => by cases hx⟩, hB0⟩
    (fun x => { tmps := #[.int .i64 n, .int .i64 k, undef, .pointer (some ⟨w.heap.size, 0, none⟩), .pointer (some ⟨w.heap.size + 1, 0, none⟩), .int .i64 x.1.1, .int .i64 x.1.2, .int .i64 n, .bool true, .int .i64 n, .func (.func 100) #[] #[.pointer (some ⟨w.heap.size + 1 + 1, 0, none⟩)], .int .i64 x.1.1, .int .i64 x.1.2, undef, undef, undef, undef], defers := [] }) ?assign ?body ?done ?stop
  case assign =>
    intro l x W K hK
    gi_wp2
    exact hK
  case body =>
    rintro l pre x W ⟨⟨b1, b2, hne⟩, hB⟩ _
    have hc1 := b1.cell
    have hc2 := b2.cell
    have hf2 := b2.frozen
    by_cases hx : x.1.1 = k
    · have hx2 : (x.1.1 == k) = true := by simp [hx]
      gi_wp2
      exact ⟨(KeepsOthers.setCell _ _ _).from _, ⟨rfl, x, pre, rfl, hx, b2.set _⟩, hB.setCell (p := ⟨w.heap.size + 1, 0, none⟩) (by show w.heap.size ≤ w.heap.size + 1; omega) _⟩
    · have hx2 : (x.1.1 == k) = false := by simp [hx]
      gi_wp2
      exact ⟨KeepsFrom.refl _ _, fun v hv => hv, ⟨b1, b2, fun y hy => by rcases List.mem_append.1 hy with h | h; exact hne y h; rw [List.mem_singleton.1 h]; exact hx⟩, hB⟩
  case done =>
    rintro D xs W hD rfl ⟨⟨b1, b2, hne⟩, hB⟩ hK
    have hc2 := b2.cell
    have hf2 := b2.frozen
    have hv : cntv n k = 0 := by
      unfold cntv
      split
      · rename_i h
        have := hne (mkLv k.toNat (qv n k.toNat)) (List.mem_map.2 ⟨k.toNat, List.mem_range.2 h.2.2.2, rfl⟩)
        have hl := ln_le n
        exact absurd (by rw [mkLv_1 _ _ (by omega)]; omega) this
      · rfl
    have HV := Lib.hid hv
    clear hv
    gi_wp2
    have hK2 := (KeepsOthers.setCell W ⟨w.heap.size + 1, 0, none⟩ (.int .i64 0)).same D _ hK rfl
    have b4 : Boxed ((W.setCell ⟨w.heap.size + 1, 0, none⟩ (.int .i64 0)).putObj D (.deferred none)) (w.heap.size + 1) 3 (.int .i64 0) := (World.putObj_heap_other (by rw [hsz] at hD; omega)).trans (b2.set _)
    refine ⟨by simp, .inl ⟨_, _, rfl, run_takeDeferred hK2, ?_⟩⟩
    refine ⟨.int .i64 0, ?_, by rw [HV.out], ?_⟩
    · have hc5 := b4.cell
      simp [results, Try.f45, go_sem, hc5]
    · exact (hB.setCell (p := ⟨w.heap.size + 1, 0, none⟩) (by show w.heap.size ≤ w.heap.size + 1; omega) _).trans (belowK_b (w := w) (Nat.le_refl _) _ D _ _ (by rw [hsz] at hD; omega) hK2 rfl rfl)
  case stop =>
    rintro D c pre W hD ⟨j, hj, rfl⟩ ⟨⟨rfl, x, ys, hp, hx, b2⟩, hB⟩ hK
    have hv : cntv n k = x.1.2 := by
      have hl := ln_le n
      have hq := qv_in n h0 h1 j
      rw [lvs_succ] at hp
      obtain ⟨_, e⟩ := List.append_inj' hp rfl
      obtain rfl := List.singleton_inj.1 e
      have hk : k = (j : Int) := by rw [← hx, mkLv_1 _ _ (by omega)]
      rw [mkLv_2 _ _ hq.1 hq.2]
      unfold cntv
      rw [if_pos ⟨h0, h1, by omega, by omega⟩]
      show qv n k.toNat = qv n j
      congr 1; omega
    have HV := Lib.hid hv
    clear hv hp
    have b4 : Boxed (W.putObj D (.deferred none)) (w.heap.size + 1) 3 (.int .i64 x.1.2) := (World.putObj_heap_other (by rw [hsz] at hD; omega)).trans b2
    gi_wp2
    refine ⟨by simp, .inl ⟨_, _, rfl, run_takeDeferred hK, ?_⟩⟩
    refine ⟨.int .i64 x.1.2, ?_, by rw [HV.out], ?_⟩
    · have hc5 := b4.cell
      simp [results, Try.f45, go_sem, hc5]
    · exact hB.trans (belowK_b (w := w) (Nat.le_refl _) _ D _ _ (by rw [hsz] at hD; omega) hK rfl rfl)

theorem count_c (n k : Int) (r : Int) (hr : cntv n k = r) (w : World) : Calls Try.prog 45 #[.int .i64 n, .int .i64 k] w fun e w' => e = .returned (.int .i64 r) ∧ Below w.heap.size w w' := by
  subst hr
  by_cases h : 0 ≤ n ∧ n ≤ 64
  · exact callsIn_wide.1 (count_in n k h.1 h.2 w)
  · have HV := Lib.hid (show cntv n k = 0 from if_neg (fun hh => h ⟨hh.1, hh.2.1⟩))
    have HPO := Lib.hid (fun W => in_c n false (by simp [inB]; omega) W)
    clear h
    go_enter Try.func45, Try.ntmps45
    go_wp2_with (go_at_call 73; refine (HPO.out _).mono ?_; rintro e w' ⟨rfl, rfl⟩)
    exact bodyPost_ret (v := .int .i64 0) (by simp [results, Try.f45, go_sem]) rfl ⟨by rw [HV.out], ((Below.refl _ w).alloc (Nat.le_refl _) _).alloc (by simp) _⟩
end Go.Proofs.Ytondnammkcgjpaa.Til
namespace Go.Proofs.Ytondnammkcgjpaa.Til
open Go Go.RowKit Go.Shelf Go.Proofs.YtondnammkcgjpaaW.PrintWords Go.Proofs.YtondnammkcgjpaaW.PrintLast Go.Proofs.YtondnammkcgjpaaW.PrintMore
open Go.Proofs.Ytondnammkcgjpaa.ShaP Go.Proofs.Ytondnammkcgjpaa.Mk
theorem cntv_in (n l : Int) : 0 ≤ cntv n l ∧ cntv n l ≤ 64 := by
  unfold cntv
  split
  · rename_i h; exact qv_in n h.1 h.2.1 _
  · omega
theorem cntv_out (n l : Int) (h : n < 0 ∨ 64 < n ∨ l < 0 ∨ 3 < l) : cntv n l = 0 := by
  unfold cntv
  have hl := ln_le n
  rw [if_neg]
  rintro ⟨h1, h2, h3, h4⟩
  omega
theorem cnt_pow : ∀ n : Nat, n < 65 → ∀ k : Nat, k < 4 → cntv n k = ((n / 4 ^ k : Nat) : Int) := by decide +kernel
def inTile (x i : Int) : Int := if x < 0 then 0 else max 0 (min (i - 4 * x) 4)
theorem inTile_in (x i : Int) : 0 ≤ inTile x i ∧ inTile x i ≤ 4 := by unfold inTile; split <;> omega
theorem inTile_step (x i : Int) (hi : 0 ≤ i) : inTile x (i + 1) = if i / 4 = x then inTile x i + 1 else inTile x i := by
  unfold inTile; split <;> split <;> omega
theorem power_c (k : Nat) (hk : k < 4) (w : World) : Calls Try.prog 57 #[.int .i64 (k : Int)] w fun e w' => e = .returned (.int .i64 ((4 ^ k : Nat) : Int)) ∧ w = w' := by
  have HK := Aside0.mk hk
  have hki : (k : Int) < 4 := by omega
  clear hk
  go_enter Try.func57, Try.ntmps57
  go_wp2
  go_loop [3, 4] (fun v3 v4 => ∃ i p : Nat, v4 = .int .i64 i ∧ v3 = .int .i64 p ∧ i ≤ k ∧ Aside0 (p = 4 ^ i)) (fun _ v4 => k - (intOf v4).toNat)
  case atStart => exact ⟨0, 1, rfl, rfl, Nat.zero_le _, ⟨rfl⟩⟩
  case round =>
    obtain ⟨i, p, rfl, rfl, hi, HP⟩ := hrel
    by_cases h1 : i < k
    · have h1i : (i : Int) < (k : Int) := by omega
      have HP2 : Aside0 (p * 4 = 4 ^ (i + 1)) := ⟨by rw [HP.out, Nat.pow_succ]⟩
      have hp : p ≤ 64 := by
        rw [HP.out]
        have := HK.out
        exact Nat.le_trans (Nat.pow_le_pow_right (by omega) (by omega : i ≤ 3)) (by decide)
      have hpi : (p : Int) * 4 ≤ 256 := by omega
      have hp0 : (0 : Int) ≤ (p : Int) * 4 := by omega
      clear HP hp
      go_wp2
      go_round
      case rel => exact ⟨i + 1, p * 4, by go_num, by go_num, by omega, HP2⟩
      case measure => simp [intOf]; omega
    · have h1i : ¬ (i : Int) < (k : Int) := by omega
      obtain rfl : i = k := by omega
      go_wp2
      go_ret
      exact ⟨by rw [HP.out]; rfl, rfl⟩
theorem rcount_c (n l : Int) (w : World) : Calls Try.prog 56 #[.int .i64 n, .int .i64 l] w fun e w' => e = .returned (.int .i64 (cntv n l)) ∧ w = w' := by
  by_cases h0 : n < 0
  · have HV := Aside0.mk (cntv_out n l (by omega))
    go_enter Try.func56, Try.ntmps56
    go_wp2
    go_ret
    exact ⟨by rw [HV.out]; rfl, rfl⟩
  by_cases h1 : 64 < n
  · have HV := Aside0.mk (cntv_out n l (by omega))
    go_enter Try.func56, Try.ntmps56
    go_wp2
    go_ret
    exact ⟨by rw [HV.out]; rfl, rfl⟩
  by_cases h2 : l < 0
  · have HV := Aside0.mk (cntv_out n l (by omega))
    go_enter Try.func56, Try.ntmps56
    go_wp2
    go_ret
    exact ⟨by rw [HV.out]; rfl, rfl⟩
  by_cases h3 : 3 < l
  · have HV := Aside0.mk (cntv_out n l (by omega))
    go_enter Try.func56, Try.ntmps56
    go_wp2
    go_ret
    exact ⟨by rw [HV.out]; rfl, rfl⟩
  obtain ⟨m, rfl⟩ : ∃ m : Nat, n = m := ⟨n.toNat, by omega⟩
  obtain ⟨k, rfl⟩ : ∃ k : Nat, l = k := ⟨l.toNat, by omega⟩
  have HV := Aside0.mk (cnt_pow m (by omega) k (by omega))
  have HPW := Aside0.mk (fun W => power_c k (by omega) W)
  have hp : 0 < 4 ^ k := Nat.pow_pos (by omega)
  obtain ⟨p, hpe⟩ : ∃ p, 4 ^ k = p := ⟨_, rfl⟩
  rw [hpe] at HPW HV hp
  have hq : Int.tdiv (m : Int) (p : Int) = ((m / p : Nat) : Int) := Int.ofNat_tdiv m p
  have hq2 : (m : Int) / (p : Int) = ((m / p : Nat) : Int) := rfl
  have hle := Nat.div_le_self m p
  obtain ⟨q, hqe⟩ : ∃ q, m / p = q := ⟨_, rfl⟩
  rw [hqe] at hq hq2 hle HV
  have hp0 : ¬ (p : Int) = 0 := by omega
  have hw : wrap64 (q : Int) = (q : Int) := by unfold wrap64; omega
  clear hpe hp hqe
  go_enter Try.func56, Try.ntmps56
  go_wp2_with (go_at_call 57; (with_reducible refine (HPW.out _).mono ?_); rintro e w_ ⟨rfl, rfl⟩)
  go_ret
  exact ⟨by rw [HV.out]; first | rfl | (rw [← hq2]; rfl) | (rw [← hw]; rfl) | (rw [← hw, ← hq2]; rfl), rfl⟩
theorem rwidth_c (n l x : Int) (w : World) : Calls Try.prog 25 #[.int .i64 n, .int .i64 l, .int .i64 x] w fun e w' => e = .returned (.int .i64 (inTile x (cntv n l))) ∧ w = w' := by
  obtain ⟨c, hc⟩ : ∃ c : Nat, cntv n l = c := ⟨(cntv n l).toNat, by have := cntv_in n l; omega⟩
  have hcl : (c : Int) ≤ 64 := by have := cntv_in n l; omega
  have HC := Aside0.mk (fun W => rcount_c n l W)
  rw [hc] at HC ⊢
  clear hc
  have z0 : inTile x 0 = 0 := by unfold inTile; split <;> omega
  have HZ := Aside0.mk z0
  clear z0
  go_enter Try.func25, Try.ntmps25
  go_wp2_with (go_at_call 56; (with_reducible refine (HC.out _).mono ?_); rintro e w_ ⟨rfl, rfl⟩)
  go_loop [8, 9] (fun v8 v9 => ∃ (i : Nat) (q : Int), v9 = .int .i64 i ∧ v8 = .int .i64 q ∧ i ≤ c ∧ 0 ≤ q ∧ q ≤ 64 ∧ Aside0 (q = inTile x i)) (fun _ v9 => c - (intOf v9).toNat)
  case atStart => exact ⟨0, 0, rfl, rfl, Nat.zero_le _, by omega, by omega, ⟨HZ.out.symm⟩⟩
  case round =>
    obtain ⟨i, q, rfl, rfl, hi, hq0, hq1, HQ⟩ := hrel
    by_cases h1 : i < c
    · have h1i : (i : Int) < (c : Int) := by omega
      have HS := Aside0.mk (inTile_step x (i : Int) (by omega))
      have HB := Aside0.mk (inTile_in x ((i : Int) + 1))
      by_cases h2 : (i : Int) / 4 = x
      · have HS2 : Aside0 (inTile x ((i : Int) + 1) = q + 1) := ⟨by rw [HS.out, if_pos h2, HQ.out]⟩
        have hq2 : q + 1 ≤ 64 := by have := HB.out; have := HS2.out; omega
        clear HS HB HQ
        go_wp2
        go_round
        case rel => exact ⟨i + 1, q + 1, by go_num, rfl, by omega, by omega, by omega, ⟨by rw [← HS2.out]; rfl⟩⟩
        case measure => simp [intOf]; omega
      · have HS2 : Aside0 (inTile x ((i : Int) + 1) = q) := ⟨by rw [HS.out, if_neg h2, HQ.out]⟩
        clear HS HB HQ
        go_wp2
        go_round
        case rel => exact ⟨i + 1, q, by go_num, rfl, by omega, by omega, by omega, ⟨HS2.out.symm⟩⟩
        case measure => simp [intOf]; omega
    · have h1i : ¬ (i : Int) < (c : Int) := by omega
      obtain rfl : i = c := by omega
      go_wp2
      go_ret
      exact ⟨by rw [← HQ.out]; rfl, rfl⟩
theorem width_c (n l x : Int) (w : World) : Calls Try.prog 50 #[.int .i64 n, .agg #[.int .i64 l, .int .i64 x]] w fun e w' => e = .returned (.int .i64 (inTile x (cntv n l))) ∧ Below w.heap.size w w' := by
  have OW := Aside0.mk (Mem.Own.nil w)
  have hci := cntv_in n l
  obtain ⟨c, hc⟩ : ∃ c, cntv n l = c := ⟨_, rfl⟩
  rw [hc] at hci ⊢
  obtain ⟨hc0, hc1⟩ := hci
  have HC := Aside0.mk (fun W => count_c n l c hc W)
  clear hc
  by_cases h0 : x < 0
  · have HV := Aside0.mk (show inTile x c = 0 from by unfold inTile; rw [if_pos h0])
    go_enter Try.func50, Try.ntmps50
    go_wp2_with ((with_reducible refine gate_dst (N := 3) rfl ?_); refine box_event ?hg (N := 3) ?hd (cs := #[.int .i64 l, .int .i64 x]) (t := 24) ?hr ?_; (case hd => rfl); (case hg => rfl); (case hr => first | (go_simp; done) | (go_simp; rfl)); intro gI hg W_ hb hbb; have x1 := (blk_cell hb 1).trans rfl; have n_ : Aside0 (Mem.Own w W_ [(gI, #[.int .i64 l, .int .i64 x], 24)]) := ⟨OW.out.new hg hb hbb⟩; clear OW hb hbb hg; have OW := n_; clear n_)
    go_ret
    exact ⟨by rw [HV.out]; rfl, OW.out.below⟩
  by_cases h1 : 64 < x
  · have HV := Aside0.mk (show inTile x c = 0 from by unfold inTile; rw [if_neg h0]; omega)
    go_enter Try.func50, Try.ntmps50
    go_wp2_with ((with_reducible refine gate_dst (N := 3) rfl ?_); refine box_event ?hg (N := 3) ?hd (cs := #[.int .i64 l, .int .i64 x]) (t := 24) ?hr ?_; (case hd => rfl); (case hg => rfl); (case hr => first | (go_simp; done) | (go_simp; rfl)); intro gI hg W_ hb hbb; have x1 := (blk_cell hb 1).trans rfl; have n_ : Aside0 (Mem.Own w W_ [(gI, #[.int .i64 l, .int .i64 x], 24)]) := ⟨OW.out.new hg hb hbb⟩; clear OW hb hbb hg; have OW := n_; clear n_)
    go_ret
    exact ⟨by rw [HV.out]; rfl, OW.out.below⟩
  have hv : inTile x c = max 0 (min (c - 4 * x) 4) := by unfold inTile; rw [if_neg h0]
  obtain ⟨x4, hx4⟩ : ∃ q, x * 4 = q := ⟨_, rfl⟩
  obtain ⟨d, hd⟩ : ∃ q, c - x4 = q := ⟨_, rfl⟩
  have hw4 : IntKind.i64.wrap x4 = x4 := by rw [i64_w]; unfold wrap64; omega
  have hwd : IntKind.i64.wrap d = d := by rw [i64_w]; unfold wrap64; omega
  have hw4' : wrap64 x4 = x4 := by unfold wrap64; omega
  have hwd' : wrap64 d = d := by unfold wrap64; omega
  have HV : Aside0 (inTile x c = min (max d 0) 4) := ⟨by rw [hv]; omega⟩
  clear hv
  go_enter Try.func50, Try.ntmps50
  go_wp2_with ((with_reducible refine gate_dst (N := 3) rfl ?_); refine box_event ?hg (N := 3) ?hd (cs := #[.int .i64 l, .int .i64 x]) (t := 24) ?hr ?_; (case hd => rfl); (case hg => rfl); (case hr => first | (go_simp; done) | (go_simp; rfl)); intro gI hg W_ hb hbb; have x0 := (blk_cell hb 0).trans rfl; have x1 := (blk_cell hb 1).trans rfl; have n_ : Aside0 (Mem.Own w W_ [(gI, #[.int .i64 l, .int .i64 x], 24)]) := ⟨OW.out.new hg hb hbb⟩; clear OW hb hbb hg; have OW := n_; clear n_)
  have OD := Aside0.mk OW.out.drew
  have c0 : W_.drew.cell? ⟨gI, 0, none⟩ = some (.int .i64 l) := (OD.out.cell 0 rfl 0).trans rfl
  have c1 : W_.drew.cell? ⟨gI, 1, none⟩ = some (.int .i64 x) := (OD.out.cell 0 rfl 1).trans rfl
  clear x0 x1 OW
  refine start_ (n := 11) (S := fun w' => Below (W_).drew.heap.size (W_).drew w') (ds := []) #[false, false, false, false, false, false, false, false, false, false, false] (by kernel_rfl) rfl rfl (Below.refl _ _) (fun hHeld => ?_)
  generalize (W_).drew = W0 at *
  refine pure_ (i := 0) (N := (some 13)) (v := ?_) (a' := ?_) #[true, false, false, false, false, false, false, false, false, false, false] rfl rfl (by kernel_rfl) (fun _ _ _ h => h) (Or.inl ⟨by rfl, ?_⟩) ?_ ?_
  rotate_left
  · intro w'
    go_simp
    first | done | with_reducible rfl
  rotate_left
  · simp only [Act.put, List.setIfInBounds_toArray, List.set_cons_zero, List.set_cons_succ, i64_w, i32_w]
    rfl
  refine pure_ (i := 1) (N := (some 14)) (v := ?_) (a' := ?_) #[true, true, false, false, false, false, false, false, false, false, false] rfl rfl (by kernel_rfl) (fun _ _ _ h => h) (Or.inl ⟨by rfl, ?_⟩) ?_ ?_
  rotate_left
  · intro w'
    go_simp
    first | done | with_reducible rfl
  rotate_left
  · simp only [Act.put, List.setIfInBounds_toArray, List.set_cons_zero, List.set_cons_succ, i64_w, i32_w]
    rfl
  refine take_ (i := 2) (N := (some 15)) (v := ?_) (a' := ?_) #[true, true, true, false, false, false, false, false, false, false, false] rfl rfl (by kernel_rfl) (fun _ _ _ h => h) (Or.inl ⟨by rfl, ?_⟩) hHeld ?_ ?_
  rotate_left
  · intro w' hS
    have s0 := pw_cell_below hS c0
    go_simp
    first | done | with_reducible rfl
  rotate_left
  · simp only [Act.put, List.setIfInBounds_toArray, List.set_cons_zero, List.set_cons_succ, i64_w, i32_w]
    rfl
  refine pure_ (i := 4) (N := (some 17)) (v := ?_) (a' := ?_) #[true, true, true, false, true, false, false, false, false, false, false] rfl rfl (by kernel_rfl) (fun _ _ _ h => h) (Or.inl ⟨by rfl, ?_⟩) ?_ ?_
  rotate_left
  · intro w'
    go_simp
    first | done | with_reducible rfl
  rotate_left
  · simp only [Act.put, List.setIfInBounds_toArray, List.set_cons_zero, List.set_cons_succ, i64_w, i32_w]
    rfl
  refine take_ (i := 5) (N := (some 18)) (v := ?_) (a' := ?_) #[true, true, true, false, true, true, false, false, false, false, false] rfl rfl (by kernel_rfl) (fun _ _ _ h => h) (Or.inl ⟨by rfl, ?_⟩) hHeld ?_ ?_
  rotate_left
  · intro w' hS
    have s0 := pw_cell_below hS c1
    go_simp
    first | done | with_reducible rfl
  rotate_left
  · simp only [Act.put, List.setIfInBounds_toArray, List.set_cons_zero, List.set_cons_succ, i64_w, i32_w]
    rfl
  refine pure_ (i := 6) (N := (some 19)) (v := ?_) (a' := ?_) #[true, true, true, false, true, true, true, false, false, false, false] rfl rfl (by kernel_rfl) (fun _ _ _ h => h) (Or.inl ⟨by rfl, ?_⟩) ?_ ?_
  rotate_left
  · intro w'
    go_simp
    first | done | with_reducible rfl
  rotate_left
  · simp only [Act.put, List.setIfInBounds_toArray, List.set_cons_zero, List.set_cons_succ, i64_w, i32_w]
    rfl
  refine one_ (i := 3) (N := (some 16)) #[true, true, true, true, true, true, true, false, false, false, false] rfl rfl (by kernel_rfl) (by decide) (fun K hK => ?_)
  refine goes_ Try.func45 (by kernel_rfl) rfl #[.int .i64 n, .int .i64 l] (by rfl) rfl rfl (by (try simp only [List.map_toArray, List.map_cons, List.map_nil]); first | done | rfl) ?_
  (with_reducible refine (HC.out _).mono ?_)
  rintro e wz ⟨rfl, hB⟩
  refine ⟨_, rfl, ?_⟩
  have hS2 : Below W0.heap.size W0 wz := below_step hHeld hB
  clear hB hHeld
  refine hK.out _ _ hS2 (fun hHeld => ?_)
  clear hK K
  refine norm_ (a' := ?_) ?_ ?_
  rotate_left
  · show Act.put _ (some 16) _ = _
    simp only [Act.put, List.setIfInBounds_toArray, List.set_cons_zero, List.set_cons_succ, i64_w, i32_w]
    rfl
  refine pure_ (i := 7) (N := (some 20)) (v := ?_) (a' := ?_) #[true, true, true, true, true, true, true, true, false, false, false] rfl rfl (by kernel_rfl) (fun _ _ _ h => h) (Or.inl ⟨by rfl, ?_⟩) ?_ ?_
  rotate_left
  · intro w'
    go_simp
    first | done | with_reducible rfl
  rotate_left
  · simp only [Act.put, List.setIfInBounds_toArray, List.set_cons_zero, List.set_cons_succ, i64_w, i32_w]
    rfl
  refine pure_ (i := 8) (N := (some 21)) (v := ?_) (a' := ?_) #[true, true, true, true, true, true, true, true, true, false, false] rfl rfl (by kernel_rfl) (fun _ _ _ h => h) (Or.inl ⟨by rfl, ?_⟩) ?_ ?_
  rotate_left
  · intro w'
    skip
    go_simp
    first | done | with_reducible rfl
  rotate_left
  · simp only [Act.put, List.setIfInBounds_toArray, List.set_cons_zero, List.set_cons_succ, i64_w, i32_w]
    rfl
  refine pure_ (i := 9) (N := (some 22)) (v := ?_) (a' := ?_) #[true, true, true, true, true, true, true, true, true, true, false] rfl rfl (by kernel_rfl) (fun _ _ _ h => h) (Or.inl ⟨by rfl, ?_⟩) ?_ ?_
  rotate_left
  · intro w'
    skip
    go_simp
    first | done | with_reducible rfl
  rotate_left
  · simp only [Act.put, List.setIfInBounds_toArray, List.set_cons_zero, List.set_cons_succ, i64_w, i32_w]
    rfl
  refine pure_ (i := 10) (N := (some 4)) (v := ?_) (a' := ?_) #[true, true, true, true, true, true, true, true, true, true, true] rfl rfl (by kernel_rfl) (fun _ _ _ h => h) (Or.inl ⟨by rfl, ?_⟩) ?_ ?_
  rotate_left
  · intro w'
    go_simp
    first | done | with_reducible rfl
  rotate_left
  · simp only [Act.put, List.setIfInBounds_toArray, List.set_cons_zero, List.set_cons_succ, i64_w, i32_w]
    rfl
  refine done_ (by kernel_rfl) ?_
  all_goals
    have OB := (OD.out.step hHeld).below
    go_wp2_with fail
    go_ret
    exact ⟨by rw [HV.out]; first | rfl | (simp only [mn, mx]; rfl), OB⟩
end Go.Proofs.Ytondnammkcgjpaa.Til

namespace Go.Proofs.Ytondnammkcgjpaa.Til
open Go Go.RowKit Go.Shelf Go.Proofs.YtondnammkcgjpaaW.PrintWords Go.Proofs.YtondnammkcgjpaaW.PrintLast Go.Proofs.YtondnammkcgjpaaW.PrintMore
open Go.Proofs.Ytondnammkcgjpaa.ShaP Go.Proofs.Ytondnammkcgjpaa.Mk Go.Proofs.Ytondnammkcgjpaa.Rg Go.Proofs.Ytondnammkcgjpaa.Rng Go.Proofs.Ytondnammkcgjpaa.Fun
attribute [local go_sem] Oper.semAt_some
def chN (A : Option Addr) (l : List ByteArray) : Nat → Nat → List (Option Addr × List ByteArray)
  | 0, _ => []
  | f + 1, i => if i < l.length then (A.map (·.add i), (l.take (min (i + 4) l.length)).drop i) :: chN A l f (i + 4) else []
end Go.Proofs.Ytondnammkcgjpaa.Til
namespace Go.Proofs.Ytondnammkcgjpaa.Til
open Go Go.RowKit Go.Shelf Go.Proofs.YtondnammkcgjpaaW.PrintWords Go.Proofs.YtondnammkcgjpaaW.PrintLast Go.Proofs.YtondnammkcgjpaaW.PrintMore
open Go.Proofs.Ytondnammkcgjpaa.ShaP Go.Proofs.Ytondnammkcgjpaa.Mk Go.Proofs.Ytondnammkcgjpaa.Rg Go.Proofs.Ytondnammkcgjpaa.Rng Go.Proofs.Ytondnammkcgjpaa.Fun Go.Proofs.Ytondnammkcgjpaa.RgP
attribute [local go_sem] Oper.semAt_some
def upP (pre : List (Option Addr × List ByteArray)) : List ByteArray := (pre.filter fun x => x.2.length == 4).map fun x => rootF x.2
def upF (l : List ByteArray) : List ByteArray := upP (chN none l l.length 0)
def levF : Nat → List ByteArray → List ByteArray
  | 0, l => l
  | k + 1, l => levF k (upF l)
theorem chN_mem (A : Option Addr) (l : List ByteArray) (x : Option Addr × List ByteArray) : ∀ f i, x ∈ chN A l f i → ∃ a b, a < b ∧ b ≤ l.length ∧ x = (A.map (·.add a), (l.take b).drop a)
  | 0, _, h => by cases h
  | f + 1, i, h => by
    rw [chN] at h
    split at h
    · rename_i hi
      rcases List.mem_cons.1 h with h | h
      · exact ⟨i, min (i + 4) l.length, by omega, by omega, h⟩
      · exact chN_mem A l x f (i + 4) h
    · cases h
theorem upF_32 (l : List ByteArray) (h : A32 l) (hl : l.length ≤ 64) : A32 (upF l) := fun s hs => by
  obtain ⟨x, hx, rfl⟩ := List.mem_map.1 hs
  obtain ⟨a, b, _, _, e⟩ := chN_mem _ _ _ _ _ (List.mem_filter.1 hx).1
  subst e
  have hm : A32 ((l.take b).drop a) := fun s hs => h s (List.mem_of_mem_take (List.mem_of_mem_drop hs))
  exact rootF_32 _ hm (by rw [List.length_drop, List.length_take]; omega)
end Go.Proofs.Ytondnammkcgjpaa.Til
namespace Go.Proofs.Ytondnammkcgjpaa.Til
open Go Go.RowKit Go.Shelf
open Go.Proofs.Ytondnammkcgjpaa.Mk Go.Proofs.Ytondnammkcgjpaa.Rg Go.Proofs.Ytondnammkcgjpaa.RgP
def seg (l : List ByteArray) (a n : Nat) : List ByteArray := (l.take (a + n)).drop a
theorem seg_len (l : List ByteArray) (a n : Nat) (h : a + n ≤ l.length) : (seg l a n).length = n := by unfold seg; rw [List.length_drop, List.length_take]; omega
theorem seg_take (l : List ByteArray) (a n m : Nat) (h : m ≤ n) : (seg l a n).take m = seg l a m := by
  unfold seg
  rw [List.take_drop, List.take_take]
  congr 2
  omega
theorem seg_drop (l : List ByteArray) (a n m : Nat) (h : m ≤ n) : (seg l a n).drop m = seg l (a + m) (n - m) := by
  unfold seg
  rw [List.drop_drop]
  congr 2
  omega
theorem up_get (l : List ByteArray) : ∀ f i j, l.length ≤ i + f → i + 4 * j + 4 ≤ l.length → (upP (chN none l f i))[j]? = some (rootF (seg l (i + 4 * j) 4))
  | 0, i, j, h, h2 => by omega
  | f + 1, i, j, h, h2 => by
    have hm : min (i + 4) l.length = i + 4 := by omega
    have hl4 : ((l.take (i + 4)).drop i).length = 4 := by rw [List.length_drop, List.length_take]; omega
    rw [chN, if_pos (by omega), hm]
    unfold upP
    rw [List.filter_cons, if_pos (by simp only [hl4]; rfl), List.map_cons]
    cases j with
    | zero => rw [List.getElem?_cons_zero, Nat.mul_zero, Nat.add_zero]; rfl
    | succ j =>
      rw [List.getElem?_cons_succ]
      have ih := up_get l f (i + 4) j (by omega) (by omega)
      unfold upP at ih
      rw [ih]
      congr 3
      omega
theorem up_len (l : List ByteArray) : ∀ f i, l.length ≤ i + f → (upP (chN none l f i)).length = (l.length - i) / 4
  | 0, i, h => by
    have : l.length - i = 0 := by omega
    rw [this]; rfl
  | f + 1, i, h => by
    have ih := up_len l f (i + 4) (by omega)
    rw [chN]
    split
    · rename_i hi
      unfold upP at ih ⊢
      rw [List.filter_cons]
      have hl : ((l.take (min (i + 4) l.length)).drop i).length = min (i + 4) l.length - i := by rw [List.length_drop, List.length_take]; omega
      split
      · rename_i hq
        rw [List.map_cons, List.length_cons, ih]
        have h4 : ((l.take (min (i + 4) l.length)).drop i).length = 4 := by simpa using hq
        rw [hl] at h4
        omega
      · rename_i hq
        rw [ih]
        have h4 : ¬ ((l.take (min (i + 4) l.length)).drop i).length = 4 := by simpa using hq
        rw [hl] at h4
        omega
    · rename_i hi
      have : l.length - i = 0 := by omega
      rw [this]; rfl
theorem upF_get (l : List ByteArray) (j : Nat) (h : 4 * j + 4 ≤ l.length) : (upF l)[j]? = some (rootF (seg l (4 * j) 4)) := by
  have h2 := up_get l l.length 0 j (by omega) (by omega)
  rw [Nat.zero_add] at h2
  exact h2
theorem upF_length (l : List ByteArray) : (upF l).length = l.length / 4 := by have := up_len l l.length 0 (by omega); rw [Nat.sub_zero] at this; exact this
theorem rootF_up (l : List ByteArray) (hl : l.length ≤ 64) : ∀ m a, m < 6 → 4 * a + 4 * 2 ^ m ≤ l.length → rootF (seg (upF l) a (2 ^ m)) = rootF (seg l (4 * a) (4 * 2 ^ m))
  | 0, a, _, h => by
    have hg := upF_get l a (by omega)
    have e : seg (upF l) a (2 ^ 0) = [rootF (seg l (4 * a) 4)] := by
      have hlt : a < (upF l).length := by rw [upF_length]; omega
      rw [List.getElem?_eq_getElem hlt] at hg
      unfold seg
      rw [Nat.pow_zero, List.take_succ_eq_append_getElem hlt, Option.some.inj hg, List.drop_left' (by rw [List.length_take]; omega)]
      rfl
    rw [e, rootF_one, Nat.pow_zero, Nat.mul_one]
  | m + 1, a, hm, h => by
    have hp : 2 ^ (m + 1) = 2 ^ m + 2 ^ m := by rw [Nat.pow_succ]; omega
    have hp0 : 0 < 2 ^ m := Nat.pow_pos (by omega)
    have hs1 : splitN (2 ^ (m + 1)) = 2 ^ m := split_two m (by omega)
    have hs2 : splitN (4 * 2 ^ (m + 1)) = 4 * 2 ^ m := by
      have h1 := split_two (m + 2) (by omega)
      have e1 : 2 ^ (m + 2 + 1) = 4 * 2 ^ (m + 1) := by simp only [Nat.pow_succ]; omega
      have e2 : 2 ^ (m + 2) = 4 * 2 ^ m := by simp only [Nat.pow_succ]; omega
      rw [e1, e2] at h1
      exact h1
    have hl1 : (seg (upF l) a (2 ^ (m + 1))).length = 2 ^ (m + 1) := seg_len _ _ _ (by rw [upF_length]; omega)
    have hl2 : (seg l (4 * a) (4 * 2 ^ (m + 1))).length = 4 * 2 ^ (m + 1) := seg_len _ _ _ h
    have i1 := rootF_up l hl m a (by omega) (by omega)
    have i2 := rootF_up l hl m (a + 2 ^ m) (by omega) (by omega)
    rw [rootF_split (seg (upF l) a (2 ^ (m + 1))) (by omega) (by omega), rootF_split (seg l (4 * a) (4 * 2 ^ (m + 1))) (by omega) (by omega), hl1, hl2, hs1, hs2,
      seg_take _ _ _ _ (by omega), seg_take _ _ _ _ (by omega), seg_drop _ _ _ _ (by omega), seg_drop _ _ _ _ (by omega), i1]
    have e3 : 2 ^ (m + 1) - 2 ^ m = 2 ^ m := by omega
    have e4 : 4 * 2 ^ (m + 1) - 4 * 2 ^ m = 4 * 2 ^ m := by omega
    have e5 : 4 * a + 4 * 2 ^ m = 4 * (a + 2 ^ m) := by omega
    rw [e3, e4, e5, i2]
def hashF (l : List ByteArray) (k j : Nat) : ByteArray := rootF (seg l (j * 4 ^ k) (4 ^ k))
theorem lev_len : ∀ (k : Nat) (l : List ByteArray), (levF k l).length = l.length / 4 ^ k
  | 0, l => by rw [levF, Nat.pow_zero, Nat.div_one]
  | k + 1, l => by rw [levF, lev_len k, upF_length, Nat.div_div_eq_div_mul, Nat.pow_succ, Nat.mul_comm]
theorem lev_get : ∀ (k : Nat) (l : List ByteArray) (j : Nat), k < 4 → l.length ≤ 64 → j * 4 ^ k + 4 ^ k ≤ l.length → (levF k l)[j]? = some (hashF l k j)
  | 0, l, j, _, _, h => by
    rw [Nat.pow_zero, Nat.mul_one] at h
    have hlt : j < l.length := by omega
    rw [levF, List.getElem?_eq_getElem hlt]
    unfold hashF seg
    rw [Nat.pow_zero, Nat.mul_one, List.take_succ_eq_append_getElem hlt, List.drop_left' (by rw [List.length_take]; omega), rootF_one]
  | k + 1, l, j, hk, hl, h => by
    have hp0 : 0 < 4 ^ k := Nat.pow_pos (by omega)
    have e1 : 4 ^ (k + 1) = 4 * 4 ^ k := by rw [Nat.pow_succ]; omega
    have e2 : j * 4 ^ (k + 1) = 4 * (j * 4 ^ k) := by rw [e1, Nat.mul_left_comm]
    rw [e2, e1] at h
    have hu := upF_length l
    have ih := lev_get k (upF l) j (by omega) (by omega) (by omega)
    rw [levF, ih]
    unfold hashF
    have e3 : 4 ^ k = 2 ^ (2 * k) := by rw [Nat.pow_mul]
    have hr := rootF_up l hl (2 * k) (j * 4 ^ k) (by omega) (by rw [← e3]; omega)
    rw [← e3] at hr
    rw [hr, e2, e1]
end Go.Proofs.Ytondnammkcgjpaa.Til
namespace Go.Proofs.Ytondnammkcgjpaa.Til
open Go Go.RowKit Go.Shelf Go.Proofs.YtondnammkcgjpaaW.PrintWords Go.Proofs.YtondnammkcgjpaaW.PrintLast Go.Proofs.YtondnammkcgjpaaW.PrintMore
open Go.Proofs.Ytondnammkcgjpaa.ShaP Go.Proofs.Ytondnammkcgjpaa.Mk Go.Proofs.Ytondnammkcgjpaa.Rg Go.Proofs.Ytondnammkcgjpaa.Rng Go.Proofs.Ytondnammkcgjpaa.RgP
theorem width_pos (n : Nat) (hn : n ≤ 64) (lv ix : Int) (h : inTile ix (cntv n lv) ≠ 0) : ∃ k i m : Nat, lv = k ∧ ix = i ∧ k < 4 ∧ i ≤ 16 ∧ inTile ix (cntv n lv) = m ∧ 0 < m ∧ m ≤ 4 ∧ 4 * i + m ≤ n / 4 ^ k := by
  have h1 := inTile_in ix (cntv n lv)
  have hci := cntv_in n lv
  have hlv : 0 ≤ lv ∧ lv ≤ 3 := by
    by_cases hh : lv < 0 ∨ 3 < lv
    · exact absurd (by rw [cntv_out n lv (by omega)]; unfold inTile; split <;> omega) h
    · omega
  obtain ⟨k, rfl⟩ : ∃ k : Nat, lv = k := ⟨lv.toNat, by omega⟩
  have hcp := cnt_pow n (by omega) k (by omega)
  have hx0 : 0 ≤ ix := by
    by_cases hh : ix < 0
    · exact absurd (by unfold inTile; rw [if_pos hh]) h
    · omega
  obtain ⟨i, rfl⟩ : ∃ i : Nat, ix = i := ⟨ix.toNat, by omega⟩
  rw [hcp] at h h1 hci ⊢
  obtain ⟨q, hq⟩ : ∃ q, n / 4 ^ k = q := ⟨_, rfl⟩
  rw [hq] at h h1 hci ⊢
  have e : inTile (i : Int) (q : Int) = max 0 (min ((q : Int) - 4 * (i : Int)) 4) := by unfold inTile; rw [if_neg (by omega)]
  rw [e] at h h1 ⊢
  exact ⟨k, i, (max 0 (min ((q : Int) - 4 * (i : Int)) 4)).toNat, rfl, rfl, by omega, by omega, by omega, by omega, by omega, by rw [hq]; omega⟩
end Go.Proofs.Ytondnammkcgjpaa.Til
namespace Go.Proofs.Ytondnammkcgjpaa.Til
open Go Go.Proofs Go.RowKit Go.Shelf
attribute [local go_sem] Oper.semAt_some

def rowK (lv : Int) (k : Nat) : List (Int × Int) := (List.range k).map fun (i : Nat) => (lv, (i : Int))
theorem rowK_succ (lv : Int) (k : Nat) : rowK lv (k + 1) = rowK lv k ++ [(lv, (k : Int))] := by simp [rowK, List.range_succ]
theorem rowK_len (lv : Int) (k : Nat) : (rowK lv k).length = k := by simp [rowK]
def nt (c : Int) : Nat := ((c + 3) / 4).toNat
def rowL (x : Lv) : List (Int × Int) := rowK x.1.1 (nt x.1.2)
def planL : List Lv → List (Int × Int) := List.foldl (fun l x => rowL x ++ l) []
theorem planL_snoc (pre : List Lv) (x : Lv) : planL (pre ++ [x]) = rowL x ++ planL pre := by simp [planL]
theorem nt_le (x : Lv) : nt x.1.2 ≤ 16 := by have := x.2; unfold nt; omega
theorem planL_len (pre : List Lv) : (planL pre).length ≤ 16 * pre.length := by
  suffices h : ∀ (l : List Lv) (acc : List (Int × Int)), (l.foldl (fun l x => rowL x ++ l) acc).length ≤ 16 * l.length + acc.length by
    have := h pre []; simpa [planL] using this
  intro l
  induction l with
  | nil => intro acc; simp
  | cons x l ih =>
    intro acc; rw [List.foldl_cons]; have h1 := ih (rowL x ++ acc); have h2 := nt_le x; have h3 : (rowL x ++ acc).length = nt x.1.2 + acc.length := by rw [List.length_append, rowL, rowK_len]
    simp only [List.length_cons]; omega
def idc (l : List (Int × Int)) : List Value := l.flatMap fun p => [.int .i64 p.1, .int .i64 p.2]
theorem idc_app (a b : List (Int × Int)) : idc (a ++ b) = idc a ++ idc b := by simp [idc]
theorem idc_one (l : List (Int × Int)) : ∀ u ∈ idc l, u.oneCell' = true := by
  intro u hu
  obtain ⟨p, _, hp⟩ := List.mem_flatMap.1 hu
  rcases List.mem_cons.1 hp with rfl | hp
  · rfl
  · rw [List.mem_singleton.1 hp]; rfl

theorem infoID : (Try.prog.info? 24).map (fun i => (i.zero, i.size, i.bytes)) = some (some (.agg #[.int .i64 0, .int .i64 0]), 2, 16) := by kernel_rfl

theorem two_new (w : World) (u v : Value) (t : TypeId) : ∀ j x, ([u, v] : List Value)[j]? = some x → (w.alloc (.cells #[u, v] t)).cell? ((⟨w.heap.size, 0, none⟩ : Addr).add j) = some x := by
  intro j x hx
  match j, hx with
  | 0, hx => obtain rfl : u = x := by simpa using hx
             simp [Addr.add]
  | 1, hx => obtain rfl : v = x := by simpa using hx
             simp [Addr.add]
  | j + 2, hx => simp at hx

theorem row_more {W wr w1 : World} {B0 : Nat} {v : Value} {k : Nat} {xs : List Value} {tmp : Obj} (hrow : wr.ownsRow W.heap.size 24 2 v k xs) (hb : Below W.heap.size W wr) (hk : KeepsFrom B0 W wr)
    (hg : (wr.alloc tmp).grownBy w1 v.ownBlock) : Below W.heap.size W w1 ∧ KeepsFrom B0 W w1 := by
  refine ⟨(hb.alloc hb.size tmp).grown hg (by have := hb.size; simp; omega) (fun j ej => (hrow.lt j ej).1), hk.trans (((KeepsOthers.alloc wr tmp).trans (KeepsOthers.of_grownBy hg fun j o ej hj => ?_)).from B0)⟩
  rcases (hrow.alloc tmp).2 with ⟨rfl, _⟩ | ⟨g, cap, cur, rfl, _, hgb, _⟩
  · simp [Value.ownBlock] at ej
  · obtain rfl : g = j := by simpa [Value.ownBlock] using ej
    rw [hgb] at hj; cases hj; rfl

theorem box_more {W wr w1 : World} {B0 base Bo : Nat} {v v2 vo : Value} {k m : Nat} {xs ys : List Value} (hbase : base ≤ W.heap.size) (hBo : base ≤ Bo) (hvo : Boxed W Bo 88 vo)
    (hrow : wr.ownsRow W.heap.size 24 2 v k xs) (hb : Below W.heap.size W wr) (hk : KeepsFrom B0 W wr) (hown : w1.ownsRow W.heap.size 24 2 v2 m ys) (hg : wr.grownBy w1 v.ownBlock) :
    Boxed w1 Bo 88 vo ∧ Boxed (w1.setCell ⟨Bo, 0, none⟩ v2) Bo 88 v2 ∧ (w1.setCell ⟨Bo, 0, none⟩ v2).ownsRow base 24 2 v2 m ys ∧ KeepsFrom B0 W (w1.setCell ⟨Bo, 0, none⟩ v2) ∧ Below base W (w1.setCell ⟨Bo, 0, none⟩ v2) ∧ Below W.heap.size W w1 := by
  have h1 : Below W.heap.size W w1 := hb.grown hg hb.size (fun j ej => (hrow.lt j ej).1)
  have h2 : Boxed w1 Bo 88 vo := (h1.block Bo hvo.lt).trans hvo
  refine ⟨h2, h2.set v2, own_mono (hown.kept (grownBy_setCell' w1 Bo v2) (.inr ?_)) hbase, (hk.trans ((KeepsOthers.of_grownBy hg fun j o ej hj => ?_).from B0)).trans ((KeepsOthers.setCell _ _ _).from B0), (h1.mono hbase).setCell (p := ⟨Bo, 0, none⟩) hBo v2, h1⟩
  · intro e
    have := hown.lt Bo e
    have := hvo.lt
    omega
  · rcases hrow.2 with ⟨rfl, _⟩ | ⟨g, cap, cur, rfl, _, hgb, _⟩
    · simp [Value.ownBlock] at ej
    · obtain rfl : g = j := by simpa [Value.ownBlock] using ej
      rw [hgb] at hj; cases hj; rfl

theorem own_slice {w : World} {b e size : Nat} {v : Value} {n : Nat} {xs : List Value} (h : w.ownsRow b e size v n xs) : ∃ A m c, v = .slice A m c := by
  rcases h.2 with ⟨rfl, _⟩ | ⟨g, cap, cur, rfl, _⟩
  · exact ⟨_, _, _, rfl⟩
  · exact ⟨_, _, _, rfl⟩
theorem own_boxRow (base Bo : Nat) : Own (fun (pre : List Lv) W => ∃ v, Boxed W Bo 88 v ∧ W.ownsRow base 24 2 v (planL pre).length (idc (planL pre))) := by
  intro s A A2 row hs hg hr
  obtain ⟨v, h1, h2, _⟩ := holdsRow_own base Bo 88 24 2 (fun (pre : List Lv) => (planL pre).length) (fun pre => idc (planL pre)) (fun _ _ => True) s A A2 row (by obtain ⟨v, h1, h2⟩ := hs; exact ⟨v, h1, h2, trivial⟩) hg hr
  exact ⟨v, h1, h2⟩

def planF (n : Int) : List (Int × Int) := if 0 ≤ n ∧ n ≤ 64 then planL (lvs n (ln n)) else []

theorem plan_in (n : Int) (h0 : 0 ≤ n) (h1 : n ≤ 64) (w : World) : CallsIn Fence.wide 3 Try.prog 46 #[.int .i64 n] w fun e w' => ∃ v, e = .returned v ∧ w'.ownsRow w.heap.size 24 2 v (planL (lvs n (ln n))).length (idc (planL (lvs n (ln n)))) ∧ Below w.heap.size w w' := by
  obtain ⟨i0, hi, hz0, hz1, hz2⟩ := info_parts infoID
  have hin : inB n = true := by simp [inB, h0, h1]
  have HPO := Lib.hid (fun W => in_c n true hin W)
  have HL := Lib.hid (levels_c n)
  clear hin
  refine callsIn_of_wp_marks Try.func46 rfl trivial ?_ rfl
  simp only [Try.ntmps46, List.size_toArray, List.length_cons, List.length_nil, Nat.reduceAdd, Nat.reduceSub, Array.replicate_succ, Array.replicate_zero, List.push_toArray, List.append_toArray, List.nil_append, List.cons_append]
  gi_wp2_with (first | (refine ⟨trivial, ?_⟩; gi_at_call 73; refine (callsIn_wide.2 (HPO.out _)).mono ?_; rintro e w' ⟨rfl, rfl⟩) | (refine ⟨trivial, ?_⟩; gi_at_call 74; refine (callsIn_wide.2 (HL.out _)).mono ?_; rintro e w' ⟨rfl, rfl⟩))
  have bO := Boxed.new w 88 (.slice none 0 0)
  have bN := Boxed.new (w.alloc (.cells #[.slice none 0 0] 88)) 3 (.int .i64 n)
  rw [World.size_alloc] at bN
  have hB0 : Below w.heap.size w ((w.alloc (.cells #[.slice none 0 0] 88)).alloc (.cells #[.int .i64 n] 3)) := ((Below.refl _ w).alloc (Nat.le_refl _) _).alloc (by simp) _
  have bO2 := bO.alloc (.cells #[.int .i64 n] 3)
  have hsz : ((w.alloc (.cells #[.slice none 0 0] 88)).alloc (.cells #[.int .i64 n] 3)).heap.size = w.heap.size + 2 := by simp
  obtain ⟨W0, hW0⟩ : ∃ W0, (w.alloc (.cells #[.slice none 0 0] 88)).alloc (.cells #[.int .i64 n] 3) = W0 := ⟨_, rfl⟩
  rw [hW0] at hB0 bO2 hsz bN ⊢
  clear hW0 bO
  refine range_cell (α := Lv) (encs := enc2) (N := 4) (Bn := w.heap.size + 1) (Kp := Keep1 (w.heap.size + 1)) rfl (Nat.le_add_left 1 2) (gf := 100) (lb := #[.pointer (some ⟨w.heap.size + 1, 0, none⟩)]) rfl trivial (enters_of Try.func100 (by kernel_rfl) rfl)
    (levels1 Fence.wide 2 trivial rfl (by omega) (w.heap.size + 1) n h0 h1 W0 (by rw [hsz]; omega) bN) keep1_t
    (fun V l o o2 hl h hc => keep1_b (Bn := w.heap.size + 1) (B0 := w.heap.size + 2) (by omega) V l o o2 (by rw [hsz] at hl; exact hl) h hc) (Below.refl _ _) (fun _ => rfl)
    (fun (pre : List Lv) W => (∃ v, Boxed W w.heap.size 88 v ∧ W.ownsRow w.heap.size 24 2 v (planL pre).length (idc (planL pre))) ∧ Below w.heap.size w W ∧ ∃ u, Boxed W (w.heap.size + 1) 3 u)
    (fun _ _ _ => False)
    (OwnFrom.and (Own.from (own_boxRow _ _) _) (OwnFrom.and (ownFrom_below (Nat.le_refl _) (by rw [hsz]; omega)) (Own.from (fun s A A2 row hs hg hr => by obtain ⟨u, hu⟩ := hs; exact ⟨u, own_boxed _ _ _ [] A A2 row hu hg hr⟩) _)))
    (fun _ _ _ _ _ hs _ _ => hs)
    (fun s A v hs => by
      obtain ⟨⟨u, b1, r1⟩, hB, z, hz⟩ := hs
      exact ⟨⟨u, b1.other (by omega) v, r1.kept (grownBy_setCell' A (w.heap.size + 1) v) (.inr (hz.not_row (by decide) r1).symm)⟩, hB.setCell (p := ⟨w.heap.size + 1, 0, none⟩) (by show w.heap.size ≤ w.heap.size + 1; omega) v, v, hz.set v⟩)
    ⟨⟨_, bO2, World.ownsRow_nil _ _ _ _⟩, hB0, _, bN⟩
    (fun x => { tmps := #[.int .i64 n, undef, .slice none 0 0, .pointer (some ⟨w.heap.size, 0, none⟩), .int .i64 x.1.1, .int .i64 x.1.2, undef, undef, .int .i64 n, .bool true, .bool false, .int .i64 n, .func (.func 100) #[] #[.pointer (some ⟨w.heap.size + 1, 0, none⟩)], .int .i64 x.1.1, .int .i64 x.1.2, undef, undef, undef, undef, undef, undef, undef, undef, undef, undef, undef, undef, undef, undef, undef, undef], defers := [] }) ?assign ?body ?done ?stop
  case assign =>
    intro l x W K hK
    gi_wp2
    exact hK
  case body =>
    rintro l pre x W ⟨⟨vo, bo, hro⟩, hB, z, hz⟩ hlen
    have hx := x.2
    have hpl := planL_len pre
    have hnt := nt_le x
    gi_wp2
    gi_loopw [6, 7] (fun v i wr => ∃ k : Nat, k ≤ nt x.1.2 ∧ i = .int .i64 k ∧ wr.ownsRow W.heap.size 24 2 v k (idc (rowK x.1.1 k)) ∧ Below W.heap.size W wr ∧ KeepsFrom (w.heap.size + 2) W wr) (fun _ i _ => 16 - (intOf i).toNat)
    case atStart => exact ⟨0, Nat.zero_le _, rfl, World.ownsRow_nil _ _ _ _, Below.refl _ _, KeepsFrom.refl _ _⟩
    case round =>
      obtain ⟨k, hk, rfl, hrow, hbW, hkW⟩ := hrel
      have bo2 : Boxed wr w.heap.size 88 vo := (hbW.block _ bo.lt).trans bo
      have hwW := hbW.size
      have hww := hB.size
      by_cases hlt : (k : Int) * 4 < x.1.2
      · have hkn : k < nt x.1.2 := by unfold nt; omega
        gi_wp2_with (gi_at_builtin; refine wpListIn_append_own _ rfl (.tmp 21) (.tmp 25) 88 rfl W.heap.size 24 i0 (.agg #[.int .i64 0, .int .i64 0]) 2 16 Try.underlying88 hi hz0 hz1 hz2 rfl (by decide) _ _ _ rfl (hrow.alloc _) ⟨wr.heap.size, 0, none⟩ 1 1 [.int .i64 x.1.1, .int .i64 k] rfl rfl (two_new _ _ _ _) (by simp [Value.oneCell']) (by simp only [maxLen]; omega) (by omega) (by simp; omega) ?_; intro v2 w1 hown2 hgrow _)
        go_roundw
        case rel =>
          obtain ⟨r1, r2⟩ := row_more hrow hbW hkW hgrow
          exact ⟨k + 1, by omega, by go_num, by rw [rowK_succ, idc_app]; simpa [idc] using hown2, r1, r2⟩
        case measure => simp [intOf]; omega
      · have hkn : k = nt x.1.2 := by unfold nt at *; omega
        have hco := bo2.cell
        have hro2 := own_below hro rfl hbW
        gi_wp2_with (gi_at_builtin; refine append_two _ rfl (.tmp 27) (.tmp 28) 88 rfl W.heap.size 24 i0 (.agg #[.int .i64 0, .int .i64 0]) 2 16 Try.underlying88 hi hz0 hz1 hz2 rfl (by decide) _ _ _ rfl hrow _ _ _ _ rfl hro2 (idc_one _) (by simp only [maxLen]; omega) (by omega) hwW ?_; intro v2 w1 hown2 hgrow; obtain ⟨A2, m2, q2, rfl⟩ := own_slice hown2; obtain ⟨c1, c2, c3, c4, c5, c6⟩ := box_more (B0 := w.heap.size + 2) hww (Nat.le_refl _) bo hrow hbW hkW hown2 hgrow; have hcn := c1.cell; have hfn := c1.frozen)
        refine ⟨c4, fun u hu => ?_, ⟨⟨_, c2, ?_⟩, hB.trans c5, z, ?_⟩⟩
        · exact Boxed.other ((c6.block _ hu.lt).trans hu) (by omega) _
        · rw [planL_snoc, idc_app, List.length_append, rowL, rowK_len, ← hkn]; exact c3
        · exact Boxed.other ((c6.block _ hz.lt).trans hz) (by omega) _
  case done =>
    rintro D xs W hD rfl ⟨⟨v, hv, hrow⟩, hB, _⟩ hK
    have hc := hv.cell
    gi_wp2
    refine ⟨by simp, .inl ⟨_, _, rfl, run_takeDeferred hK, ?_⟩⟩
    exact ⟨_, results_tmp rfl _ _ _, v, rfl, ownsRow_putObj hrow _ hK rfl, hB.trans (belowK_b (w := w) (Nat.le_refl _) W D _ _ (by rw [hsz] at hD; omega) hK rfl rfl)⟩
  case stop =>
    rintro D c pre W _ _ h _
    exact h.elim

theorem plan_c (n : Int) (w : World) : Calls Try.prog 46 #[.int .i64 n] w fun e w' => ∃ v, e = .returned v ∧ w'.ownsRow w.heap.size 24 2 v (planF n).length (idc (planF n)) ∧ Below w.heap.size w w' := by
  by_cases h : 0 ≤ n ∧ n ≤ 64
  · rw [planF, if_pos h]; exact callsIn_wide.1 (plan_in n h.1 h.2 w)
  · have HV := Lib.hid (show planF n = [] from if_neg h)
    have HPO := Lib.hid (fun W => in_c n false (by simp [inB]; omega) W)
    clear h
    go_enter Try.func46, Try.ntmps46
    go_wp2_with (go_at_call 73; refine (HPO.out _).mono ?_; rintro e w' ⟨rfl, rfl⟩)
    go_ret
    exact ⟨_, rfl, by rw [HV.out]; exact World.ownsRow_nil _ _ _ _, (Below.refl _ w).alloc (Nat.le_refl _) _⟩
end Go.Proofs.Ytondnammkcgjpaa.Til
namespace Go.Proofs.Ytondnammkcgjpaa.Til
open Go Go.RowKit Go.Shelf Go.Proofs.YtondnammkcgjpaaW.PrintWords Go.Proofs.YtondnammkcgjpaaW.PrintLast Go.Proofs.YtondnammkcgjpaaW.PrintMore
open Go.Proofs.Ytondnammkcgjpaa.ShaP Go.Proofs.Ytondnammkcgjpaa.Mk Go.Proofs.Ytondnammkcgjpaa.Rg Go.Proofs.Ytondnammkcgjpaa.Rng Go.Proofs.Ytondnammkcgjpaa.RgP Go.Proofs.Ytondnammkcgjpaa.Rf
def tileF (L : List ByteArray) (lv ix : Int) : List ByteArray :=
  if inTile ix (cntv L.length lv) = 0 then [] else (List.range (inTile ix (cntv L.length lv)).toNat).map fun t => hashF L lv.toNat (4 * ix.toNat + t)
theorem tileF_len (L : List ByteArray) (lv ix : Int) : ((tileF L lv ix).length : Int) = inTile ix (cntv L.length lv) := by
  have := inTile_in ix (cntv L.length lv)
  unfold tileF
  split
  · rename_i h; rw [h]; rfl
  · rw [List.length_map, List.length_range]; omega
theorem seg_hash (L : List ByteArray) (k i m : Nat) (hk : k < 4) (hl : L.length ≤ 64) (hfit : 4 * i + m ≤ L.length / 4 ^ k) : seg (levF k L) (4 * i) m = (List.range m).map fun t => hashF L k (4 * i + t) := by
  have hll := lev_len k L
  have hsl := seg_len (levF k L) (4 * i) m (by rw [hll]; exact hfit)
  refine List.ext_getElem? fun t => ?_
  by_cases ht : t < m
  · have hp0 : 0 < 4 ^ k := Nat.pow_pos (by omega)
    have h1 : (4 * i + t + 1) * 4 ^ k ≤ L.length := Nat.le_trans (Nat.mul_le_mul_right _ (by omega : 4 * i + t + 1 ≤ L.length / 4 ^ k)) (Nat.div_mul_le_self _ _)
    have hg := lev_get k L (4 * i + t) hk hl (by rw [Nat.add_mul, Nat.one_mul] at h1; exact h1)
    rw [List.getElem?_map, List.getElem?_range ht]
    unfold seg
    rw [List.getElem?_drop, List.getElem?_take, if_pos (by omega), hg]
    rfl
  · rw [List.getElem?_eq_none (by omega), List.getElem?_eq_none (by rw [List.length_map, List.length_range]; omega)]
theorem up_some (A : Option Addr) (c : Nat) (x0 x1 : Int) (sg : List ByteArray) (w : World) (hs : Sm sg) (hn : sg.length = 4) (hc : 4 ≤ c) (hr : Kd.C Kd.string w A 4 sg) :
    Calls Try.prog 27 #[.agg TV, .agg #[.int .i64 x0, .int .i64 x1, .slice A 4 c]] w fun e w' => e = .returned (.tuple #[.string (rootF sg), .int .i64 0]) ∧ Below w.heap.size w w' := by
  have OW := Aside0.mk (Mem.Own.nil w)
  have HI := Aside0.mk info_tab
  have HR := Aside0.mk hr
  have HRT := Aside0.mk (fun W h => root_c 100000 A c sg W (by omega) (by omega) hs (by omega) h)
  rw [hn] at HRT
  have hfold : rootN 100000 sg = rootF sg := rfl
  rw [hfold] at HRT
  clear hr hs hn hc hfold
  go_enter Try.func27, Try.ntmps27
  go_wp2_with (first
    | ((with_reducible refine gate_dst (N := 2) rfl ?_); refine box_event ?hg (N := 2) ?hd (cs := TV) (t := 31) ?hr ?_; (case hd => rfl); (case hg => rfl); (case hr => first | (go_simp; done) | (go_simp; rfl)); intro gT hg W_ hb hbb; have n_ : Aside0 (Mem.Own w W_ [(gT, TV, 31)]) := ⟨OW.out.new hg hb hbb⟩; clear OW hb hbb hg; have OW := n_; clear n_)
    | ((with_reducible refine gate_dst (N := 3) rfl ?_); refine box_event ?hg (N := 3) ?hd (cs := #[.int .i64 x0, .int .i64 x1, .slice A 4 c]) (t := 35) ?hr ?_; (case hd => rfl); (case hg => rfl); (case hr => first | (go_simp; done) | (go_simp; rfl)); intro gX hg W_ hb hbb; have d2 := (blk_cell hb 2).trans rfl; have n_ : Aside0 (Mem.Own w W_ [(gT, TV, 31), (gX, #[.int .i64 x0, .int .i64 x1, .slice A 4 c], 35)]) := ⟨OW.out.new hg hb hbb⟩; clear OW hb hbb hg; have OW := n_; clear n_)
    | ((with_reducible refine gate_dst (N := 10) rfl ?_); refine wpList_load_row rfl 31 (.tmp 2) rfl gT rfl 31 TV (0, 0) _ (OW.out.blk 0 rfl) Try.underlying31 rfl HI.out ?_)
    | (go_at_call 30; (with_reducible refine (HRT.out _ (Kd.C_below HR.out OW.out.below)).mono ?_); rintro e w_ ⟨rfl, hB⟩; have n_ := Aside0.mk (OW.out.step hB); clear OW hB d2; have OW := n_; clear n_))
  go_ret2
  exact ⟨rfl, OW.out.below⟩
theorem rhash_c (A : Option Addr) (c : Nat) (L : List ByteArray) (k j : Nat) (w : World) (hk : k < 4) (hl : L.length ≤ 64) (h32 : A32 L) (hfit : j * 4 ^ k + 4 ^ k ≤ L.length) (hc : L.length ≤ c) (hr : Kd.C Kd.string w A L.length L) :
    Calls Try.prog 26 #[.slice A L.length c, .int .i64 (k : Int), .int .i64 (j : Int)] w fun e w' => e = .returned (.string (hashF L k j)) ∧ Below w.heap.size w w' := by
  have HPW := Aside0.mk (fun W => power_c k hk W)
  have hp0 : 0 < 4 ^ k := Nat.pow_pos (by omega)
  obtain ⟨p, hp⟩ : ∃ p, 4 ^ k = p := ⟨_, rfl⟩
  have hh : hashF L k j = rootF ((L.take (j * p + p)).drop (j * p)) := by unfold hashF seg; rw [hp]
  rw [hp] at HPW hfit hp0
  obtain ⟨a, ha⟩ : ∃ a, j * p = a := ⟨_, rfl⟩
  obtain ⟨b, hb⟩ : ∃ b, a + p = b := ⟨_, rfl⟩
  rw [ha, hb] at hh hfit
  obtain ⟨A2, hcut, hC2, hc2⟩ := cut_mid A c L a b (by omega) hfit hc
  have s32 : A32 ((L.take b).drop a) := fun s hs => h32 s (List.mem_of_mem_take (List.mem_of_mem_drop hs))
  have l2 : ((L.take b).drop a).length ≤ 64 := by rw [List.length_drop, List.length_take]; omega
  have CS := Aside0.mk (hC2 w hr)
  rw [hh]
  generalize (L.take b).drop a = sg at *
  have HRT := Aside0.mk (fun W h => rfroot_c 100000 A2 (c - a) sg W (by omega) l2 s32.sm hc2 h)
  have hfold : rootN 100000 sg = rootF sg := rfl
  rw [hfold] at HRT
  have hbi : (a : Int) + (p : Int) = (b : Int) := by rw [← hb]; rfl
  have hb64 : b ≤ 64 := Nat.le_trans hfit hl
  have ha64 : a ≤ 64 := by rw [← hb] at hb64; exact Nat.le_trans (Nat.le_add_right a p) hb64
  have hw (x : Nat) (hx : x ≤ 64) : wrap64 (x : Int) = (x : Int) := by unfold wrap64; clear hr hcut hC2 hc2 hh hfit; omega
  have hwb := hw b hb64
  have hwa := hw a ha64
  have hai : (j : Int) * (p : Int) = (a : Int) := by rw [← ha]; exact (Int.natCast_mul j p).symm
  clear hw hb64 ha64
  clear hk hl h32 hfit hc hr hp0 hp hh ha hb hC2 hc2 s32 l2 hfold
  go_enter Try.func26, Try.ntmps26
  go_wp2_with (first
    | (go_at_call 57; (with_reducible refine (HPW.out _).mono ?_); rintro e w_ ⟨rfl, rfl⟩)
    | (go_at_call 36; (with_reducible refine (HRT.out _ CS.out).mono ?_); rintro e w1 ⟨rfl, hB⟩))
  go_ret
  exact ⟨rfl, hB⟩
end Go.Proofs.Ytondnammkcgjpaa.Til

namespace Go.Proofs.Ytondnammkcgjpaa.Til
open Go Go.RowKit Go.Shelf
open Go.Proofs.Ytondnammkcgjpaa.Mk Go.Proofs.Ytondnammkcgjpaa.Rg Go.Proofs.Ytondnammkcgjpaa.RgP
theorem lev_up : ∀ (k : Nat) (l : List ByteArray), levF (k + 1) l = upF (levF k l)
  | 0, l => rfl
  | k + 1, l => by rw [levF, lev_up k (upF l)]; rfl
theorem up_hash (L : List ByteArray) (k i : Nat) (hk : k < 4) (hl : L.length ≤ 64) (h : 4 * i + 4 ≤ L.length / 4 ^ k) : k < 3 ∧ i + 1 ≤ L.length / 4 ^ (k + 1) ∧ rootF ((List.range 4).map fun t => hashF L k (4 * i + t)) = hashF L (k + 1) i := by
  have hk3 : k < 3 := by
    rcases Nat.lt_or_ge k 3 with h3 | h3
    · exact h3
    · obtain rfl : k = 3 := by omega
      have : L.length / 4 ^ 3 ≤ 64 / 4 ^ 3 := Nat.div_le_div_right hl
      have e : 64 / 4 ^ 3 = 1 := by decide
      omega
  have hdiv : L.length / 4 ^ (k + 1) = L.length / 4 ^ k / 4 := by rw [Nat.pow_succ, Nat.div_div_eq_div_mul]
  have hi : i + 1 ≤ L.length / 4 ^ (k + 1) := by rw [hdiv]; omega
  refine ⟨hk3, hi, ?_⟩
  have h1 := upF_get (levF k L) i (by rw [lev_len]; exact h)
  have hm : (i + 1) * 4 ^ (k + 1) ≤ L.length := Nat.le_trans (Nat.mul_le_mul_right _ hi) (Nat.div_mul_le_self _ _)
  have h2 := lev_get (k + 1) L i (by omega) hl (by rw [Nat.add_mul, Nat.one_mul] at hm; exact hm)
  rw [lev_up, h1] at h2
  rw [← seg_hash L k i 4 hk hl h]
  exact Option.some.inj h2
end Go.Proofs.Ytondnammkcgjpaa.Til
namespace Go.Proofs.Ytondnammkcgjpaa.Til
open Go Go.RowKit Go.Shelf Go.Proofs.YtondnammkcgjpaaW.PrintWords Go.Proofs.YtondnammkcgjpaaW.PrintLast Go.Proofs.YtondnammkcgjpaaW.PrintMore
open Go.Proofs.Ytondnammkcgjpaa.ShaP Go.Proofs.Ytondnammkcgjpaa.Mk Go.Proofs.Ytondnammkcgjpaa.Rg Go.Proofs.Ytondnammkcgjpaa.Rng Go.Proofs.Ytondnammkcgjpaa.RgP Go.Proofs.Ytondnammkcgjpaa.Rf Go.Proofs.Ytondnammkcgjpaa.RgL
theorem levF_32 : ∀ (k : Nat) (l : List ByteArray), A32 l → l.length ≤ 64 → A32 (levF k l)
  | 0, l, h, _ => h
  | k + 1, l, h, hl => levF_32 k (upF l) (upF_32 l h hl) (by rw [upF_length]; omega)
theorem seg_32 (l : List ByteArray) (a n : Nat) (h : A32 l) : A32 (seg l a n) := fun s hs => h s (List.mem_of_mem_take (List.mem_of_mem_drop hs))
end Go.Proofs.Ytondnammkcgjpaa.Til
namespace Go.Proofs.Ytondnammkcgjpaa.Fg
open Go Go.RowKit Go.Shelf Go.Proofs.YtondnammkcgjpaaW.PrintWords Go.Proofs.YtondnammkcgjpaaW.PrintLast Go.Proofs.YtondnammkcgjpaaW.PrintMore
open Go.Proofs.Ytondnammkcgjpaa.ShaP Go.Proofs.Ytondnammkcgjpaa.Mk Go.Proofs.Ytondnammkcgjpaa.Rg Go.Proofs.Ytondnammkcgjpaa.Rng Go.Proofs.Ytondnammkcgjpaa.RgP Go.Proofs.Ytondnammkcgjpaa.Rf Go.Proofs.Ytondnammkcgjpaa.RgL Go.Proofs.Ytondnammkcgjpaa.Til
theorem same21_c (A B : Option Addr) (c1 c2 : Nat) (l1 l2 : List ByteArray) (w : World) (hr1 : Kd.C Kd.string w A l1.length l1) (hr2 : Kd.C Kd.string w B l2.length l2) :
    Calls Try.prog 33 #[.slice A l1.length c1, .slice B l2.length c2] w fun e w' => e = .returned (.bool (decide (l1 = l2))) ∧ Below w.heap.size w w' := by
  have HR1 := Aside0.mk hr1
  have HR2 := Aside0.mk hr2
  have hm := hr1.2.1
  have hm2 := hr2.2.1
  clear hr1 hr2
  by_cases hl : l1.length = l2.length
  · have hli : ((l1.length : Int) != (l2.length : Int)) = false := by rw [hl]; simp
    have HL := Aside0.mk hl
    clear hl
    go_enter Try.func33, Try.ntmps33
    go_wp2
    go_loopw [5] (fun t wr => ∃ k : Nat, t = .int .i64 k ∧ k ≤ l1.length ∧ Aside0 (l1.take k = l2.take k) ∧ Aside0 (Below w.heap.size w wr)) (fun t _ => l1.length - (intOf t).toNat)
    case atStart => exact ⟨0, rfl, Nat.zero_le _, ⟨rfl⟩, ⟨Below.refl _ _⟩⟩
    case round =>
      obtain ⟨k, rfl, hk1, HA, HB⟩ := hrel
      by_cases h1 : k < l1.length
      · have h1i : (k : Int) < (l1.length : Int) := by omega
        have h12 : k < l2.length := by have := HL.out; omega
        have h12i : (k : Int) < (l2.length : Int) := by omega
        obtain ⟨a1, e, hx⟩ := Kd.at_string (Kd.C_below HR1.out HB.out) (k : Int) (by omega) h1i
        cases e
        obtain ⟨a2, e, hy⟩ := Kd.at_string (Kd.C_below HR2.out HB.out) (k : Int) (by omega) h12i
        cases e
        have hg : rdOf ByteArray.empty l1 (k : Int) = l1[k] := rdOf_at l1 k h1
        have hg2 : rdOf ByteArray.empty l2 (k : Int) = l2[k] := rdOf_at l2 k h12
        rw [hg, Int.toNat_natCast] at hx
        rw [hg2, Int.toNat_natCast] at hy
        by_cases h3 : l1[k] = l2[k]
        · have HA2 : Aside0 (l1.take (k + 1) = l2.take (k + 1)) := ⟨by rw [List.take_succ_eq_append_getElem h1, List.take_succ_eq_append_getElem h12, HA.out, h3]⟩
          rw [h3] at hx
          generalize l2[k] = s at *
          clear HA hg hg2
          go_wp2_with fail
          go_quiet (fail)
          go_wp2
          go_roundw
          case rel => exact ⟨k + 1, by go_num, by omega, HA2, ⟨pw_below_drewN HB.out _⟩⟩
          case measure => simp [intOf]; omega
        · have HF : Aside0 (decide (l1 = l2) = false) := ⟨decide_eq_false (fun e => h3 (by simp only [e]))⟩
          have h3b : (l1[k].toList != l2[k].toList) = true := bne_iff_ne.2 (fun e => h3 (toList_inj e))
          have h3c : (l1[k].toList == l2[k].toList) = false := beq_eq_false_iff_ne.2 (fun e => h3 (toList_inj e))
          generalize l1[k] = s1 at *
          generalize l2[k] = s2 at *
          clear HA hg hg2
          go_wp2_with fail
          go_quiet (fail)
          go_wp2
          go_ret
          exact ⟨by rw [HF.out]; rfl, pw_below_drewN HB.out _⟩
      · have h1i : ¬ (k : Int) < (l1.length : Int) := by omega
        have HF : Aside0 (decide (l1 = l2) = true) := ⟨decide_eq_true (by
          obtain rfl : k = l1.length := by omega
          have h := HA.out
          rwa [List.take_length, HL.out, List.take_length] at h)⟩
        clear HA
        go_wp2
        go_ret
        exact ⟨by rw [HF.out]; rfl, HB.out⟩
  · have hli : ((l1.length : Int) != (l2.length : Int)) = true := by rw [bne_iff_ne]; omega
    have HF : Aside0 (decide (l1 = l2) = false) := ⟨decide_eq_false (fun e => hl (by rw [e]))⟩
    clear hl
    go_enter Try.func33, Try.ntmps33
    go_wp2
    go_ret
    exact ⟨by rw [HF.out]; rfl, Below.refl _ _⟩
theorem mleaf_c (a : ByteArray) (ha : a.size ≤ 100000) (w : World) :
    Calls Try.prog 63 #[.agg TV, .string a] w fun e w' => e = .returned (.string (leafF a)) ∧ Below w.heap.size w w' := by
  have OW := Aside0.mk (Mem.Own.nil w)
  have HI := Aside0.mk info_tab
  have HS := Aside0.mk (fun W => sha_c ((⟨#[0]⟩ : ByteArray) ++ a) (by rw [ByteArray.size_append]; show 1 + a.size ≤ _; omega) W)
  have hfold : Ref01.sumF ((⟨#[0]⟩ : ByteArray) ++ a) = leafF a := rfl
  rw [hfold] at HS
  have z1 : (1 + a.size ≤ 9223372036854775807) = True := eq_true (by omega)
  have z3 : (9223372036854775807 < 1 + a.size) = False := eq_false (by omega)
  clear hfold
  go_enter Try.func63, Try.ntmps63
  go_wp2_with (first
    | ((with_reducible refine gate_dst (N := 2) rfl ?_); refine box_event ?hg (N := 2) ?hd (cs := TV) (t := 31) ?hr ?_; (case hd => rfl); (case hg => rfl); (case hr => first | (go_simp; done) | (go_simp; rfl)); intro gT hg W_ hb hbb; have n_ : Aside0 (Mem.Own w W_ [(gT, TV, 31)]) := ⟨OW.out.new hg hb hbb⟩; clear OW hb hbb hg; have OW := n_; clear n_)
    | ((with_reducible refine gate_dst (N := 5) rfl ?_); refine wpList_load_row rfl 31 (.tmp 2) rfl gT rfl 31 TV (0, 0) _ (OW.out.blk 0 rfl) Try.underlying31 rfl HI.out ?_)
    | (go_at_call 58; with_reducible refine (HS.out _).mono ?_; rintro e w_ ⟨rfl, hB⟩; have OB := Aside0.mk (below_step OW.out.below hB); clear OW hB))
  go_ret
  exact ⟨rfl, OB.out⟩
end Go.Proofs.Ytondnammkcgjpaa.Fg

namespace Go.Proofs.Ytondnammkcgjpaa.Fg
open Go Go.RowKit Go.Shelf Go.Proofs.YtondnammkcgjpaaW.PrintWords Go.Proofs.YtondnammkcgjpaaW.PrintLast Go.Proofs.YtondnammkcgjpaaW.PrintMore
open Go.Proofs.Ytondnammkcgjpaa.ShaP Go.Proofs.Ytondnammkcgjpaa.Mk Go.Proofs.Ytondnammkcgjpaa.Rg Go.Proofs.Ytondnammkcgjpaa.Rng Go.Proofs.Ytondnammkcgjpaa.RgP Go.Proofs.Ytondnammkcgjpaa.Rf Go.Proofs.Ytondnammkcgjpaa.RgL Go.Proofs.Ytondnammkcgjpaa.Til
theorem wr_nat (a : Nat) (h : a ≤ 1000000000) : wrap64 (a : Int) = (a : Int) := by unfold wrap64; omega
end Go.Proofs.Ytondnammkcgjpaa.Fg

namespace Go.Proofs.Ytondnammkcgjpaa.Fg
open Go Go.RowKit Go.Shelf Go.Proofs.YtondnammkcgjpaaW.PrintWords Go.Proofs.YtondnammkcgjpaaW.PrintLast Go.Proofs.YtondnammkcgjpaaW.PrintMore
open Go.Proofs.Ytondnammkcgjpaa.ShaP Go.Proofs.Ytondnammkcgjpaa.Mk Go.Proofs.Ytondnammkcgjpaa.Rg Go.Proofs.Ytondnammkcgjpaa.Rng Go.Proofs.Ytondnammkcgjpaa.RgP Go.Proofs.Ytondnammkcgjpaa.Rf Go.Proofs.Ytondnammkcgjpaa.RgL Go.Proofs.Ytondnammkcgjpaa.Til
theorem rgive_tile (A : Option Addr) (c : Nat) (ls : List ByteArray) (s k i m : Nat) (w : World) (hs : s ≤ 64) (hls : ls.length = s) (hsz : ∀ x ∈ ls, x.size ≤ 10000) (hk : k < 4) (hi : i ≤ 16) (hm : 0 < m) (hm4 : m ≤ 4)
    (hw : inTile (i : Int) (cntv s k) = m) (hfit : 4 * i + m ≤ s / 4 ^ k) (hc : s ≤ c) (hr : Kd.C Kd.string w A s ls) :
    Calls Try.prog 34 #[.slice A s c, .agg #[.bool false, .int .i64 (k : Int), .int .i64 (i : Int)]] w fun e w' => ∃ A' c', e = .returned (.slice A' m c') ∧ SR w' w.heap.size (.slice A' m c') (tileF (leavesF ls) k i) ∧ Below w.heap.size w w' := by
  subst hls
  have OW := Aside0.mk (Mem.Own.nil w)
  have HR := Aside0.mk hr
  have HW := Aside0.mk (fun W => rwidth_c (ls.length : Int) (k : Int) (i : Int) W)
  rw [hw] at HW
  have HLV := Aside0.mk (fun W h => leaves_c A c ls W (by omega) hsz h)
  have hll := leaves_len ls
  have h32 := leaves_32 ls
  have e0 : tileF (leavesF ls) k i = (List.range m).map fun t => hashF (leavesF ls) k (4 * i + t) := by
    unfold tileF
    rw [hll, if_neg (by rw [hw]; omega), hw]
    rfl
  rw [e0]
  have hL : (leavesF ls).length ≤ 64 := by rw [hll]; exact hs
  rw [← hll] at hfit
  generalize leavesF ls = L at *
  have HH := Aside0.mk (fun (t : Nat) (ht : t < m) (A8 : Option Addr) (c8 : Nat) (h8 : L.length ≤ c8) (W : World) h => rhash_c A8 c8 L k (4 * i + t) W hk hL h32 (by
    have h1 : (4 * i + t + 1) * 4 ^ k ≤ L.length := Nat.le_trans (Nat.mul_le_mul_right _ (by omega : 4 * i + t + 1 ≤ L.length / 4 ^ k)) (Nat.div_mul_le_self _ _)
    rw [Nat.add_mul, Nat.one_mul] at h1
    exact h1) h8 h)
  have hm4i : (m : Int) ≤ 4 := by omega
  have hki : (k : Int) < 4 := by omega
  have hii : (i : Int) ≤ 16 := by omega
  have hw4 : wrap64 (4 * (i : Int)) = 4 * (i : Int) := by have := wr_nat (4 * i) (by omega); rw [← show ((4 * i : Nat) : Int) = 4 * (i : Int) by omega]; exact this
  clear hw hs hr hi hfit hc hll h32 hsz hk hm hm4 e0 hL
  go_enter Try.func34, Try.ntmps34
  go_wp2_with (first
    | ((with_reducible refine gate_dst (N := 3) rfl ?_); refine box_event ?hg (N := 3) ?hd (cs := #[.bool false, .int .i64 (k : Int), .int .i64 (i : Int)]) (t := 58) ?hr ?_; (case hd => rfl); (case hg => rfl); (case hr => first | (go_simp; done) | (go_simp; rfl)); intro gW hg W_ hb hbb; have j0 := (blk_cell hb 0).trans rfl; have j1 := (blk_cell hb 1).trans rfl; have j2 := (blk_cell hb 2).trans rfl; have n_ : Aside0 (Mem.Own w W_ [(gW, #[.bool false, .int .i64 (k : Int), .int .i64 (i : Int)], 58)]) := ⟨OW.out.new hg hb hbb⟩; clear OW hb hbb hg; have OW := n_; clear n_)
    | (go_at_call 25; (with_reducible refine (HW.out _).mono ?_); rintro e w_ ⟨rfl, rfl⟩)
    | (go_at_call 17; (with_reducible refine (HLV.out _ (Kd.C_below HR.out OW.out.below)).mono ?_); rintro e wz ⟨v4, rfl, hr4, hB⟩; obtain ⟨A8, c8, rfl, h8, _⟩ := Kd.R_reads hr4; have HC8 := Aside0.mk (Kd.R_lower hr4 OW.out.size); have H8 := Aside0.mk h8; have n_ := Aside0.mk (OW.out.step hB); clear OW hB hr4 h8 j0 j1 j2; have OW := n_; clear n_))
  have OZ := Aside0.mk OW.out
  clear OW
  go_loopw [7, 8] (fun v7 v8 wr => ∃ (t : Nat) (A3 : Option Addr) (c3 : Nat), v8 = .int .i64 t ∧ v7 = .slice A3 t c3 ∧ t ≤ m ∧ Aside0 (SR wr wz.heap.size (.slice A3 t c3) ((List.range t).map fun t => hashF L k (4 * i + t))) ∧ Aside0 (Below wz.heap.size wz wr)) (fun _ v8 _ => m - (intOf v8).toNat)
  case atStart => exact ⟨0, none, 0, rfl, rfl, Nat.zero_le _, ⟨Kd.R_nil _ _ _ _ _⟩, ⟨Below.refl _ _⟩⟩
  case round =>
    obtain ⟨t, A3, c3, rfl, rfl, ht, HO, HB⟩ := hrel
    by_cases h1 : t < m
    · have h1i : (t : Int) < (m : Int) := by omega
      obtain ⟨q, hq⟩ : ∃ q, 4 * i + t = q := ⟨_, rfl⟩
      have HQ := HH.out t h1
      rw [hq] at HQ
      have HHQ := Aside0.mk HQ
      have HT : Aside0 (((List.range (t + 1)).map fun t => hashF L k (4 * i + t)) = ((List.range t).map fun t => hashF L k (4 * i + t)) ++ [hashF L k q]) := ⟨by rw [List.range_succ, List.map_append, ← hq]; rfl⟩
      have hlt : ((List.range t).map fun t => hashF L k (4 * i + t)).length = t := by rw [List.length_map, List.length_range]
      have HLT := Aside0.mk hlt
      generalize ((List.range t).map fun t => hashF L k (4 * i + t)) = ol at *
      generalize hashF L k q = x at *
      have hqi : 4 * (i : Int) + (t : Int) = (q : Int) := by omega
      have e10 : wrap64 (q : Int) = (q : Int) := wr_nat _ (by omega)
      have O1 := Aside0.mk (OZ.out.step HB.out)
      have C8 := Aside0.mk (Kd.R_below HC8.out HB.out)
      have j1 := (O1.out.cell 0 rfl 1).trans rfl
      have j2 := (O1.out.cell 0 rfl 2).trans rfl
      clear hlt HQ hq
      go_wp2_with (first
        | (go_at_call 26; (with_reducible refine (HHQ.out A8 c8 H8.out _ (Kd.R_reads' C8.out).2.2).mono ?_); rintro e w1 ⟨rfl, hB⟩; have HB1 := Aside0.mk (below_step HB.out hB); have HO1 := Aside0.mk (Kd.R_below HO.out hB); clear hB HB HO j1 j2 O1 C8)
        | ((with_reducible refine gate_builtin (b := .append) (xs := #[.tmp 39, .tmp 51]) rfl ?_); at_builtin; refine Kd.R_append (P := Try.prog) Kd.string (w0 := wz) (W := w1) wz.heap.size rfl (.tmp 39) (.tmp 51) 22 9 (.string ⟨#[]⟩) 16 rfl Try.underlying22 info_str rfl (by decide) (by decide) (.slice A3 t c3) ol x [.string x] (fun _ => True) (fun _ => False) rfl rfl rfl (fun _ h => h.elim) (fun _ _ => trivial) HO1.out HB1.out HB1.out.size (by rw [HLT.out]; omega) ?_; intro v2 w2 hr2 hb2 hg2 hat2; obtain ⟨A4, c4, e4⟩ := Kd.R_slice hr2; have e5 : (ol ++ [x]).length = t + 1 := (by rw [List.length_append, HLT.out]; rfl); rw [e5] at e4; subst e4; have HR2 := Aside0.mk hr2; have HB2 := Aside0.mk hb2; clear hr2 hb2 hg2 hat2 e5))
      go_roundw
      case rel => exact ⟨t + 1, A4, c4, by go_num, rfl, by omega, by rw [HT.out]; exact HR2, HB2⟩
      case measure => simp [intOf]; omega
    · have h1i : ¬ (t : Int) < (m : Int) := by omega
      obtain rfl : t = m := by omega
      go_wp2
      go_ret
      exact ⟨_, _, rfl, Kd.R_lower HO.out OZ.out.size, below_step OZ.out.below HB.out⟩
end Go.Proofs.Ytondnammkcgjpaa.Fg
namespace Go.Proofs.Ytondnammkcgjpaa.Mp
open Go Go.RowKit Go.MapKept
open Go.Maps (Keyed)
open Go.ChangeMaps (setBlock heap_setBlock_same heap_setBlock_other)
abbrev Cont := Value → Option Value
open Classical in
noncomputable def put (f : Cont) (k v : Value) : Cont := fun x => if x = k then some v else f x
open Classical in
noncomputable def drop (f : Cont) (k : Value) : Cont := fun x => if x = k then none else f x
theorem put_self (f : Cont) (k v : Value) : put f k v k = some v := if_pos rfl
theorem put_ne (f : Cont) {k x : Value} (v : Value) (h : x ≠ k) : put f k v x = f x := if_neg h
theorem drop_self (f : Cont) (k : Value) : drop f k k = none := if_pos rfl
theorem drop_ne (f : Cont) {k x : Value} (h : x ≠ k) : drop f k x = f x := if_neg h
structure Ents (P : Program) (k : TypeId) (es : Array MapEntry) (clock : Nat) (f : Cont) : Prop where
  st : Stamped es clock
  ks : ∀ e, e ∈ es.toList → (∃ l, keyOf P k e.key = some l) ∧ f e.key = some e.val
  all : ∀ x v, f x = some v → ∃ e, e ∈ es.toList ∧ e.key = x
def IMap (w : World) (P : Program) (k : TypeId) (b : Nat) (f : Cont) : Prop := ∃ es clock, w.heap[b]? = some (.map es clock) ∧ Ents P k es clock f
variable {P : Program} {k t e ty : TypeId} {w w2 : World} {b : Nat} {f : Cont}
theorem IMap.made (w : World) (P : Program) (k : TypeId) : IMap (w.alloc (.map #[] 0)) P k w.heap.size (fun _ => none) :=
  ⟨#[], 0, (MapKept.heap_alloc w _).1, stamped_empty 0, fun e h => by simp at h, fun x v h => by cases h⟩
theorem IMap.lt (h : IMap w P k b f) : b < w.heap.size := by
  obtain ⟨es, clock, hb, _⟩ := h
  exact (Array.getElem?_eq_some_iff.1 hb).1
theorem IMap.block (h : IMap w P k b f) (e : w2.heap[b]? = w.heap[b]?) : IMap w2 P k b f := by
  obtain ⟨es, clock, hb, r⟩ := h
  exact ⟨es, clock, e.trans hb, r⟩
theorem IMap.below {n : Nat} (h : IMap w P k b f) (hB : Below n w w2) (hn : b < n) : IMap w2 P k b f := h.block (hB.block b hn)
theorem IMap.below' (h : IMap w P k b f) (hB : Below w.heap.size w w2) : IMap w2 P k b f := h.below hB h.lt
theorem IMap.set (h : IMap w P k b f) {p : Addr} (hp : b ≠ p.block) (v : Value) : IMap (w.setCell p v) P k b f := h.block (RowKit.Below.heap_setCell _ _ _ _ hp)
theorem IMap.drew (h : IMap w P k b f) : IMap w.drew P k b f := h
theorem IMap.grown {row : Option Nat} (h : IMap w P k b f) (hg : w.grownBy w2 row) (hne : some b ≠ row) : IMap w2 P k b f := h.block (hg.block b h.lt hne)
theorem IMap.turned {c : Nat} (h : IMap w P k b f) (hg : w.mapTurned w2 c) (hne : b ≠ c) : IMap w2 P k b f := h.grown hg.grown (fun e => hne (Option.some.inj e))
theorem IMap.look (h : IMap w P k b f) (c : Bool) (K : Keyed P k) (ht : P.underlying t = some (.map k e)) {z : Value} (hz : (zeroValue e).run P w = .ok z w) {key : Value} {kl : Lit} (hkey : keyOf P k key = some kl) :
    (Instr.lookup t (.map (some b)) key c).run P w = .ok (if c then .tuple #[(f key).getD z, .bool (f key).isSome] else (f key).getD z) w := by
  obtain ⟨es, clock, hb, st, ks, all⟩ := h
  rcases K.find w hkey es.toList (fun e he => (ks e he).1) with ⟨h1, h2⟩ | ⟨j, e0, h1, h2, h3⟩
  · have hf : f key = none := by
      cases hv : f key with
      | none => rfl
      | some v => obtain ⟨e, he, hek⟩ := all key v hv; exact absurd hek (h2 e he)
    rw [hf]
    simp [Instr.lookup, run_underlying ht, MapKept.run_getObj_map hb, K.check w _ hkey, h1, hz, Result.andThen]
  · have hf : f key = some e0.val := by rw [← h3]; exact (ks e0 (List.mem_of_getElem? h2)).2
    rw [hf]
    simp [Instr.lookup, run_underlying ht, MapKept.run_getObj_map hb, K.check w _ hkey, h1, Result.andThen]
theorem IMap.store (h : IMap w P k b f) (K : Keyed P k) (ht : P.underlying t = some (.map k e)) {key val : Value} {kl : Lit} (hkey : keyOf P k key = some kl) :
    ∃ w2, (Instr.mapUpdate t (.map (some b)) key val).run P w = .ok () w2 ∧ IMap w2 P k b (put f key val) ∧ w.mapTurned w2 b := by
  obtain ⟨es, clock, hb, st, ks, all⟩ := h
  rcases K.find w hkey es.toList (fun e he => (ks e he).1) with ⟨h1, h2⟩ | ⟨j, e0, h1, h2, h3⟩
  · refine ⟨_, ?_, ⟨es.push ⟨key, val, clock⟩, clock + 1, heap_setBlock_same hb _, stamped_push st h2, fun x hx => ?_, fun x v hv => ?_⟩, ⟨es, clock, _, _, hb, rfl⟩⟩
    · simp [Instr.mapUpdate, run_underlying ht, MapKept.run_getObj_map hb, K.check w false hkey, h1, MapKept.run_setObj_map _ hb, Result.andThen, setBlock]
    · simp only [Array.toList_push, List.mem_append, List.mem_singleton] at hx
      rcases hx with hx | rfl
      · exact ⟨(ks x hx).1, by rw [put_ne _ _ (h2 x hx)]; exact (ks x hx).2⟩
      · exact ⟨⟨_, hkey⟩, put_self _ _ _⟩
    · by_cases hxk : x = key
      · exact ⟨⟨key, val, clock⟩, by simp, hxk.symm⟩
      · rw [put_ne _ _ hxk] at hv
        obtain ⟨y, hy, hyk⟩ := all x v hv
        exact ⟨y, by simp [hy], hyk⟩
  · have hj : es[j]? = some e0 := by simpa using h2
    have hlist : (es.modify j (fun e' => { e' with key := key, val := val })).toList = es.toList.set j { e0 with key := key, val := val } := by rw [Array.toList_modify, Go.ChangeMaps.modify_eq_set _ _ _ _ h2]
    have hkeyf : ∀ e', es[j]? = some e' → ({ e' with key := key, val := val } : MapEntry).key = e'.key := fun e' he' => by rw [hj] at he'; cases he'; exact h3.symm
    have hpw := ((stamped_iff es clock).1 st).2.2
    have hjl : j < es.toList.length := (List.getElem?_eq_some_iff.1 h2).1
    refine ⟨_, ?_, ⟨es.modify j (fun e' => { e' with key := key, val := val }), clock, heap_setBlock_same hb _, stamped_modify st _ _ (fun _ _ => rfl) (fun e' _ he' => hkeyf e' he'), fun x hx => ?_, fun x v hv => ?_⟩, ⟨es, clock, _, _, hb, rfl⟩⟩
    · simp [Instr.mapUpdate, run_underlying ht, MapKept.run_getObj_map hb, K.check w false hkey, h1, hj, h3, K.stays w hkey, MapKept.run_setObj_map _ hb, Result.andThen, setBlock]
    · rw [hlist] at hx
      obtain ⟨i, hi, ex⟩ := List.getElem_of_mem hx
      rw [List.getElem_set] at ex
      by_cases hij : j = i
      · rw [if_pos hij] at ex
        subst ex
        exact ⟨⟨_, hkey⟩, put_self _ _ _⟩
      · rw [if_neg hij] at ex
        have hi' : i < es.toList.length := by simpa using hi
        have hxm : x ∈ es.toList := ex ▸ List.getElem_mem hi'
        have hne : x.key ≠ key := fun hh => by
          have ej : es.toList[j] = e0 := (List.getElem?_eq_some_iff.1 h2).2
          have ejk : es.toList[j].key = es.toList[i].key := (congrArg MapEntry.key ej).trans (h3.trans (hh.symm.trans (congrArg MapEntry.key ex).symm))
          rcases Nat.lt_or_gt_of_ne hij with q | q
          · exact List.pairwise_iff_getElem.1 hpw j i hjl hi' q ejk
          · exact List.pairwise_iff_getElem.1 hpw i j hi' hjl q ejk.symm
        exact ⟨(ks x hxm).1, by rw [put_ne _ _ hne]; exact (ks x hxm).2⟩
    · rw [hlist]
      by_cases hxk : x = key
      · exact ⟨{ e0 with key := key, val := val }, List.mem_iff_getElem.2 ⟨j, by simpa using hjl, by simp⟩, hxk.symm⟩
      · rw [put_ne _ _ hxk] at hv
        obtain ⟨y, hy, hyk⟩ := all x v hv
        obtain ⟨i, hi, ey⟩ := List.getElem_of_mem hy
        have hij : j ≠ i := fun hh => by
          subst hh
          have : es.toList[j] = e0 := (List.getElem?_eq_some_iff.1 h2).2
          rw [this] at ey
          exact hxk (by rw [← hyk, ← ey, h3])
        exact ⟨y, List.mem_iff_getElem.2 ⟨i, by simpa using hi, by rw [List.getElem_set_ne hij]; exact ey⟩, hyk⟩
theorem IMap.del (h : IMap w P k b f) (K : Keyed P k) (ht : P.underlying t = some (.map k e)) {key : Value} {kl : Lit} (hkey : keyOf P k key = some kl) (ty : TypeId) :
    ∃ w2, (Builtin.delete_ #[t, k] ty #[.map (some b), key]).run P w = .ok (.tuple #[]) w2 ∧ IMap w2 P k b (drop f key) ∧ w.mapTurned w2 b := by
  obtain ⟨es, clock, hb, st, ks, all⟩ := h
  rcases K.find w hkey es.toList (fun e he => (ks e he).1) with ⟨h1, h2⟩ | ⟨j, e0, h1, h2, h3⟩
  · refine ⟨_, ?_, ⟨es, clock, heap_setBlock_same hb _, st, fun x hx => ⟨(ks x hx).1, by rw [drop_ne _ (h2 x hx)]; exact (ks x hx).2⟩, fun x v hv => ?_⟩, ⟨es, clock, _, _, hb, rfl⟩⟩
    · simp [Builtin.delete_, run_underlying ht, MapKept.run_getObj_map hb, K.check w _ hkey, h1, MapKept.run_setObj_map _ hb, Result.andThen, setBlock]
    · by_cases hxk : x = key
      · rw [hxk, drop_self] at hv; cases hv
      · rw [drop_ne _ hxk] at hv
        exact all x v hv
  · have hpw := ((stamped_iff es clock).1 st).2.2
    have hjl : j < es.toList.length := (List.getElem?_eq_some_iff.1 h2).1
    have hjs : j < es.size := by simpa using hjl
    have ej : es.toList[j] = e0 := (List.getElem?_eq_some_iff.1 h2).2
    have hsub : (es.eraseIdxIfInBounds j).toList = es.toList.eraseIdx j := by
      unfold Array.eraseIdxIfInBounds
      rw [dif_pos hjs]
      simp
    refine ⟨_, ?_, ⟨es.eraseIdxIfInBounds j, clock, heap_setBlock_same hb _, stamped_erase st j, fun x hx => ?_, fun x v hv => ?_⟩, ⟨es, clock, _, _, hb, rfl⟩⟩
    · simp [Builtin.delete_, run_underlying ht, MapKept.run_getObj_map hb, K.check w _ hkey, h1, MapKept.run_setObj_map _ hb, Result.andThen, setBlock]
    · rw [hsub] at hx
      obtain ⟨i, hij, hi⟩ := List.mem_eraseIdx_iff_getElem?.1 hx
      have hi' : i < es.toList.length := (List.getElem?_eq_some_iff.1 hi).1
      have ei : es.toList[i] = x := (List.getElem?_eq_some_iff.1 hi).2
      have hne : x.key ≠ key := fun hh => by
        have ejk : es.toList[j].key = es.toList[i].key := (congrArg MapEntry.key ej).trans (h3.trans (hh.symm.trans (congrArg MapEntry.key ei).symm))
        rcases Nat.lt_or_gt_of_ne hij with q | q
        · exact List.pairwise_iff_getElem.1 hpw i j hi' hjl q ejk.symm
        · exact List.pairwise_iff_getElem.1 hpw j i hjl hi' q ejk
      have hxm := List.mem_of_getElem? hi
      exact ⟨(ks x hxm).1, by rw [drop_ne _ hne]; exact (ks x hxm).2⟩
    · by_cases hxk : x = key
      · rw [hxk, drop_self] at hv; cases hv
      · rw [drop_ne _ hxk] at hv
        obtain ⟨y, hy, hyk⟩ := all x v hv
        obtain ⟨i, hi, ey⟩ := List.getElem_of_mem hy
        refine ⟨y, ?_, hyk⟩
        rw [hsub]
        refine List.mem_eraseIdx_iff_getElem?.2 ⟨i, fun hh => ?_, by rw [List.getElem?_eq_getElem hi, ey]⟩
        subst hh
        rw [ej] at ey
        exact hxk (by rw [← hyk, ← ey, h3])
end Go.Proofs.Ytondnammkcgjpaa.Mp
namespace Go.Proofs.Ytondnammkcgjpaa.Ft
open Go Go.RowKit Go.Shelf Go.Proofs.YtondnammkcgjpaaW.PrintWords Go.Proofs.YtondnammkcgjpaaW.PrintLast Go.Proofs.YtondnammkcgjpaaW.PrintMore Go.Proofs.Ytondnammkcgjpaa.Mp
open Go.Proofs.Ytondnammkcgjpaa.ShaP Go.Proofs.Ytondnammkcgjpaa.Mk Go.Proofs.Ytondnammkcgjpaa.Rg Go.Proofs.Ytondnammkcgjpaa.RgP Go.Proofs.Ytondnammkcgjpaa.Rf Go.Proofs.Ytondnammkcgjpaa.Til Go.Proofs.Ytondnammkcgjpaa.Fg
def tag (W : World) (k : Nat) : Option Nat := match W.heap[k]? with | some (.cells _ t _) => some t | some (.map _ _) => some 1000000 | _ => none
theorem tag_cells {W : World} {k t : Nat} {cs : Array Value} {fr : Nat × Nat} (h : W.heap[k]? = some (.cells cs t fr)) : tag W k = some t := by unfold tag; rw [h]
theorem ne_tag {W : World} {a b s t : Nat} (ha : tag W a = some s) (hb : tag W b = some t) (h : s ≠ t) : a ≠ b := fun e => by
  subst e; rw [ha] at hb; exact h (Option.some.inj hb)
theorem tag_map {W : World} {P : Program} {k : TypeId} {b : Nat} {f : Cont} (h : IMap W P k b f) : tag W b = some 1000000 := by
  obtain ⟨es, clock, hb, _⟩ := h
  unfold tag; rw [hb]
theorem tag_row {α : Type} {kd : Kd α} {e base : Nat} {ok : Nat → Prop} {W : World} {v : Value} {xs : List α} (h : kd.R e W base ok v xs) (k : Nat) (hk : v.ownBlock = some k) : tag W k = some e := by
  obtain ⟨inner, ho⟩ := Kd.R_own h
  obtain ⟨cells, hc⟩ := own_typed ho k hk
  exact tag_cells hc
theorem only_s {e base : Nat} {W : World} {ok : Nat → Prop} {v : Value} {xs : List ByteArray} (h : Kd.string.R e W base ok v xs) : Kd.string.R e W base (fun k => v.ownBlock = some k) v xs := ⟨fun k hk => hk, h.2.imp_ (fun _ _ hp => hp)⟩
theorem sr_keep {base : Nat} {W W1 : World} {v : Value} {l : List ByteArray} (h : SR W base v l) (hk : ∀ k, k < W.heap.size → tag W k = some 9 → W1.heap[k]? = W.heap[k]?) : SR W1 base v l :=
  Kd.R_mono (Kd.R_step (only_s h) (fun k ho hlt => hk k hlt (tag_row h k ho))) (fun _ _ => trivial)
structure FS where
  size : Nat
  root : ByteArray
  tiles : Int × Int → Option (List ByteArray)
  bund : Int → Option (List ByteArray)
  asked : Int
def idV (x : Int × Int) : Value := .agg #[.int .i64 x.1, .int .i64 x.2]
def inV (x : Int) : Value := .int .i64 x
theorem idV_inj {x y : Int × Int} (h : idV x = idV y) : x = y := by
  obtain ⟨a, b⟩ := x; obtain ⟨c, d⟩ := y
  simp [idV] at h
  exact Prod.ext h.1 h.2
theorem inV_inj {x y : Int} (h : inV x = inV y) : x = y := by simpa [inV] using h
def Rows {K : Type} (W : World) (base gm : Nat) (k : TypeId) (enc : K → Value) (F : K → Option (List ByteArray)) : Prop :=
  ∃ f : Cont, IMap W Try.prog k gm f ∧ ∀ x, (F x = none → f (enc x) = none) ∧ ∀ l, F x = some l → ∃ v, f (enc x) = some v ∧ SR W base v l ∧ 0 < l.length ∧ l.length ≤ 4
variable {K : Type} {W W1 W2 : World} {base g gt gb gm : Nat} {k : TypeId} {enc : K → Value} {F : K → Option (List ByteArray)}
theorem Rows.tag (h : Rows W base gm k enc F) : tag W gm = some 1000000 := by obtain ⟨f, h1, _⟩ := h; exact tag_map h1
theorem Rows.lt (h : Rows W base gm k enc F) : gm < W.heap.size := by obtain ⟨f, h1, _⟩ := h; exact h1.lt
theorem Rows.keep (h : Rows W base gm k enc F) (hg : W1.heap[gm]? = W.heap[gm]?) (hk : ∀ k, k < W.heap.size → Ft.tag W k = some 9 → W1.heap[k]? = W.heap[k]?) : Rows W1 base gm k enc F := by
  obtain ⟨f, h1, h2⟩ := h
  refine ⟨f, h1.block hg, fun x => ⟨(h2 x).1, fun l hl => ?_⟩⟩
  obtain ⟨v, e, hr, hn⟩ := (h2 x).2 l hl
  exact ⟨v, e, sr_keep hr hk, hn⟩
open Classical in
noncomputable def upd (F : K → Option (List ByteArray)) (x : K) (l : Option (List ByteArray)) : K → Option (List ByteArray) := fun y => if y = x then l else F y
theorem upd_self (F : K → Option (List ByteArray)) (x : K) (l : Option (List ByteArray)) : upd F x l x = l := if_pos rfl
theorem upd_ne (F : K → Option (List ByteArray)) {x y : K} (l : Option (List ByteArray)) (h : y ≠ x) : upd F x l y = F y := if_neg h
theorem turned_other (hT : W.mapTurned W1 gm) (ht : Ft.tag W gm = some 1000000) : ∀ k, k < W.heap.size → Ft.tag W k = some 9 → W1.heap[k]? = W.heap[k]? := fun k hk htk => hT.grown.block k hk (fun e => by
  cases e; rw [ht] at htk; exact absurd (Option.some.inj htk) (by decide))
theorem Rows.put (hinj : ∀ {x y : K}, enc x = enc y → x = y) (h : Rows W base gm k enc F) (x : K) (v : Value) (l : List ByteArray) (hv : SR W base v l) (h0 : 0 < l.length) (h4 : l.length ≤ 4)
    (hT : W.mapTurned W1 gm) (hm : ∀ f, IMap W Try.prog k gm f → IMap W1 Try.prog k gm (Mp.put f (enc x) v)) : Rows W1 base gm k enc (upd F x (some l)) := by
  have hk := turned_other hT h.tag
  obtain ⟨f, h1, h2⟩ := h
  refine ⟨_, hm f h1, fun y => ?_⟩
  by_cases e : y = x
  · subst e
    rw [upd_self, put_self]
    exact ⟨fun q => (by cases q), fun l' q => by cases q; exact ⟨v, rfl, sr_keep hv hk, h0, h4⟩⟩
  · rw [upd_ne _ _ e, put_ne _ _ (fun q => e (hinj q))]
    refine ⟨(h2 y).1, fun l' q => ?_⟩
    obtain ⟨v', e1, hr, hn⟩ := (h2 y).2 l' q
    exact ⟨v', e1, sr_keep hr hk, hn⟩
theorem Rows.drop (hinj : ∀ {x y : K}, enc x = enc y → x = y) (h : Rows W base gm k enc F) (x : K) (hT : W.mapTurned W1 gm) (hm : ∀ f, IMap W Try.prog k gm f → IMap W1 Try.prog k gm (Mp.drop f (enc x))) : Rows W1 base gm k enc (upd F x none) := by
  have hk := turned_other hT h.tag
  obtain ⟨f, h1, h2⟩ := h
  refine ⟨_, hm f h1, fun y => ?_⟩
  by_cases e : y = x
  · subst e
    rw [upd_self, drop_self]
    exact ⟨fun q => rfl, fun l' q => by cases q⟩
  · rw [upd_ne _ _ e, drop_ne _ (fun q => e (hinj q))]
    refine ⟨(h2 y).1, fun l' q => ?_⟩
    obtain ⟨v', e1, hr, hn⟩ := (h2 y).2 l' q
    exact ⟨v', e1, sr_keep hr hk, hn⟩
def fcs (s : FS) (gt gb : Nat) : Array Value := TV ++ #[.int .i64 (s.size : Int), .string s.root, .map (some gt), .map (some gb), .int .i64 s.asked]
theorem fcs_get (s : FS) (gt gb i : Nat) : (fcs s gt gb)[72 + i]? = (#[.int .i64 (s.size : Int), .string s.root, .map (some gt), .map (some gb), .int .i64 s.asked] : Array Value)[i]? := by
  unfold fcs
  rw [Array.getElem?_append_right (by rw [tv_size]; omega), tv_size, Nat.add_sub_cancel_left]
theorem fcs_set (s : FS) (gt gb : Nat) (a : Int) : (fcs s gt gb).setIfInBounds 76 (.int .i64 a) = fcs { s with asked := a } gt gb := by
  unfold fcs
  rw [Array.setIfInBounds_append_right (by rw [tv_size]; omega), tv_size]
  rfl
structure IsF (base : Nat) (W : World) (g gt gb : Nat) (s : FS) : Prop where
  blk : W.heap[g]? = some (.cells (fcs s gt gb) 114 (0, 0))
  tl : Rows W base gt 24 idV s.tiles
  bn : Rows W base gb 3 inV s.bund
  ne : gt ≠ gb
  ge : base ≤ g ∧ base ≤ gt ∧ base ≤ gb
  sz : s.size ≤ 64
variable {s : FS}
theorem IsF.tg (h : IsF base W g gt gb s) : tag W g = some 114 := tag_cells h.blk
theorem IsF.keep (h : IsF base W g gt gb s) (hk : ∀ k, k < W.heap.size → (k = g ∨ k = gt ∨ k = gb ∨ tag W k = some 9) → W1.heap[k]? = W.heap[k]?) : IsF base W1 g gt gb s where
  blk := (hk g (blk_lt h.blk) (.inl rfl)).trans h.blk
  tl := h.tl.keep (hk gt h.tl.lt (.inr (.inl rfl))) (fun k h1 h2 => hk k h1 (.inr (.inr (.inr h2))))
  bn := h.bn.keep (hk gb h.bn.lt (.inr (.inr (.inl rfl)))) (fun k h1 h2 => hk k h1 (.inr (.inr (.inr h2))))
  ne := h.ne
  ge := h.ge
  sz := h.sz
theorem IsF.below (h : IsF base W g gt gb s) (hB : Below W.heap.size W W1) : IsF base W1 g gt gb s := h.keep (fun k hk _ => hB.block k hk)
theorem IsF.drew (h : IsF base W g gt gb s) : IsF base W.drew g gt gb s := h.keep (fun _ _ _ => rfl)
theorem IsF.cell (h : IsF base W g gt gb s) (i : Nat) : W.cell? ⟨g, 72 + i, none⟩ = (#[.int .i64 (s.size : Int), .string s.root, .map (some gt), .map (some gb), .int .i64 s.asked] : Array Value)[i]? := (blk_cell h.blk (72 + i)).trans (fcs_get s gt gb i)
def Foot (g gt gb k : Nat) : Prop := k = g ∨ k = gt ∨ k = gb
structure Turn (F : Nat → Prop) (W W' : World) : Prop where
  os : W'.os = W.os
  tape : W'.tape = W.tape
  output : W'.output = W.output
  size : W.heap.size ≤ W'.heap.size
  keep : ∀ k, k < W.heap.size → ¬ F k → W'.heap[k]? = W.heap[k]?
variable {P : Nat → Prop}
theorem Turn.below (h : Below W.heap.size W W1) : Turn P W W1 := ⟨h.os, h.tape, h.output, h.size, fun k hk _ => h.block k hk⟩
theorem Turn.refl (W : World) : Turn P W W := ⟨rfl, rfl, rfl, Nat.le_refl _, fun _ _ _ => rfl⟩
theorem Turn.trans (h : Turn P W W1) (k : Turn P W1 W2) : Turn P W W2 :=
  ⟨k.os.trans h.os, k.tape.trans h.tape, k.output.trans h.output, Nat.le_trans h.size k.size, fun j hj hf => (k.keep j (Nat.lt_of_lt_of_le hj h.size) hf).trans (h.keep j hj hf)⟩
theorem Turn.drew (h : Turn P W W1) : Turn P W W1.drew := ⟨h.os, h.tape, h.output, h.size, h.keep⟩
theorem Turn.to_below {B : Nat} (h : Turn P W W1) (hF : ∀ k, P k → B ≤ k) (hB : B ≤ W.heap.size) : Below B W W1 :=
  ⟨h.os, h.tape, h.output, h.size, fun k hk => h.keep k (Nat.lt_of_lt_of_le hk hB) (fun hf => absurd (hF k hf) (Nat.not_le.2 hk))⟩
theorem IsF.foot_ge (h : IsF base W g gt gb s) (k : Nat) (hk : Foot g gt gb k) : base ≤ k := by
  obtain ⟨h1, h2, h3⟩ := h.ge
  rcases hk with rfl | rfl | rfl <;> assumption
theorem IsF.turned (h : IsF base W g gt gb s) (hT : W.mapTurned W1 gm) (hm : Foot g gt gb gm) : Turn (Foot g gt gb) W W1 :=
  ⟨hT.grown.os, hT.grown.tape, hT.grown.output, hT.grown.size, fun k hk hf => hT.grown.block k hk (fun e => hf (by cases e; exact hm))⟩
theorem IsF.asks (h : IsF base W g gt gb s) (a : Int) : IsF base (W.setCell ⟨g, 76, none⟩ (.int .i64 a)) g gt gb { s with asked := a } ∧ Turn (Foot g gt gb) W (W.setCell ⟨g, 76, none⟩ (.int .i64 a)) := by
  have hk : ∀ k, k ≠ g → (W.setCell ⟨g, 76, none⟩ (.int .i64 a)).heap[k]? = W.heap[k]? := fun k hk => Below.heap_setCell _ _ _ k hk
  have h1 := blk_put h.blk 76 (.int .i64 a) (fcs_set s gt gb a)
  refine ⟨⟨h1, h.tl.keep (hk gt (ne_tag h.tl.tag h.tg (by decide))) (fun k _ h2 => hk k (ne_tag h2 h.tg (by decide))), h.bn.keep (hk gb (ne_tag h.bn.tag h.tg (by decide))) (fun k _ h2 => hk k (ne_tag h2 h.tg (by decide))), h.ne, h.ge, h.sz⟩, ⟨rfl, rfl, rfl, by simp, fun k _ hf => hk k (fun e => hf (.inl e))⟩⟩
theorem IsF.putTile (h : IsF base W g gt gb s) (x : Int × Int) (v : Value) (l : List ByteArray) (hv : SR W base v l) (h0 : 0 < l.length) (h4 : l.length ≤ 4) (hT : W.mapTurned W1 gt) (hm : ∀ f, IMap W Try.prog 24 gt f → IMap W1 Try.prog 24 gt (Mp.put f (idV x) v)) :
    IsF base W1 g gt gb { s with tiles := upd s.tiles x (some l) } := by
  have hk := turned_other hT h.tl.tag
  have ho : ∀ k, k < W.heap.size → k ≠ gt → W1.heap[k]? = W.heap[k]? := fun k hk hne => hT.grown.block k hk (fun e => hne (Option.some.inj e))
  exact ⟨(ho g (blk_lt h.blk) (ne_tag h.tg h.tl.tag (by decide))).trans h.blk, h.tl.put idV_inj x v l hv h0 h4 hT hm, h.bn.keep (ho gb h.bn.lt h.ne.symm) hk, h.ne, h.ge, h.sz⟩
theorem IsF.dropTile (h : IsF base W g gt gb s) (x : Int × Int) (hT : W.mapTurned W1 gt) (hm : ∀ f, IMap W Try.prog 24 gt f → IMap W1 Try.prog 24 gt (Mp.drop f (idV x))) :
    IsF base W1 g gt gb { s with tiles := upd s.tiles x none } := by
  have hk := turned_other hT h.tl.tag
  have ho : ∀ k, k < W.heap.size → k ≠ gt → W1.heap[k]? = W.heap[k]? := fun k hk hne => hT.grown.block k hk (fun e => hne (Option.some.inj e))
  exact ⟨(ho g (blk_lt h.blk) (ne_tag h.tg h.tl.tag (by decide))).trans h.blk, h.tl.drop idV_inj x hT hm, h.bn.keep (ho gb h.bn.lt h.ne.symm) hk, h.ne, h.ge, h.sz⟩
theorem IsF.putBund (h : IsF base W g gt gb s) (x : Int) (v : Value) (l : List ByteArray) (hv : SR W base v l) (h0 : 0 < l.length) (h4 : l.length ≤ 4) (hT : W.mapTurned W1 gb) (hm : ∀ f, IMap W Try.prog 3 gb f → IMap W1 Try.prog 3 gb (Mp.put f (inV x) v)) :
    IsF base W1 g gt gb { s with bund := upd s.bund x (some l) } := by
  have hk := turned_other hT h.bn.tag
  have ho : ∀ k, k < W.heap.size → k ≠ gb → W1.heap[k]? = W.heap[k]? := fun k hk hne => hT.grown.block k hk (fun e => hne (Option.some.inj e))
  exact ⟨(ho g (blk_lt h.blk) (ne_tag h.tg h.bn.tag (by decide))).trans h.blk, h.tl.keep (ho gt h.tl.lt h.ne) hk, h.bn.put inV_inj x v l hv h0 h4 hT hm, h.ne, h.ge, h.sz⟩
end Go.Proofs.Ytondnammkcgjpaa.Ft
