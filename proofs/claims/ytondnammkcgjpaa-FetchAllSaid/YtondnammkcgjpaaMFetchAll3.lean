/- Here is proved: what ranges.Root answers. Conditions: none. -/
import Derived.Test.YtondnammkcgjpaaMFetchAll1
import Derived.Test.YtondnammkcgjpaaMFetchAll2
import Derived.Maps.OwnSet
import Derived.Maps.RangeRun
import Derived.RowKit3
import Derived.Deep.LoopGhost
import Derived.Lib.SliceRun
import Derived.Laws.IdiomCopy
import Derived.Lib.LazyBuf
set_option linter.unusedVariables false
set_option linter.unusedSimpArgs false
set_option maxRecDepth 100000
set_option maxHeartbeats 8000000
namespace Go.Proofs.Ytondnammkcgjpaa.InR
open Go Go.Proofs.YtondnammkcgjpaaW.PrintLast
theorem lit_in {P : Program} {Q : Exit → Act → World → Prop} {n l : Nat} {a : Act} {w : World} {id : Nat} {ops : List Oper} (hQ : ¬ LetsOut Q) (hd : ops.all notDefer = true) (h : wpList P ops.toArray Q ops a w) : (Code.region id ops.toArray false).wpIn (Fence.wide.inRound l) n P Q a w :=
  wpIn_region_lit (list_in hQ ops a w hd h)
end Go.Proofs.Ytondnammkcgjpaa.InR
namespace Go.Proofs.Ytondnammkcgjpaa.Rg
open Go Go.RowKit Go.Shelf Go.Proofs.YtondnammkcgjpaaW.PrintWords Go.Proofs.YtondnammkcgjpaaW.PrintLast Go.Proofs.YtondnammkcgjpaaW.PrintMore
open Go.Proofs.Ytondnammkcgjpaa.ShaP Go.Proofs.Ytondnammkcgjpaa.Mk Go.Proofs.Ytondnammkcgjpaa.Rng Go.Proofs.Ytondnammkcgjpaa.Fun
attribute [local go_sem] Oper.semAt_some
def backF : List (Nat × ByteArray) → ByteArray → ByteArray
  | [], x => x
  | p :: r, x => backF r (pairF p.2 x)
theorem backF_snoc (a : List (Nat × ByteArray)) (p : Nat × ByteArray) : ∀ x, backF (a ++ [p]) x = pairF p.2 (backF a x) := by
  induction a with
  | nil => intro x; rfl
  | cons q a ih => intro x; exact ih (pairF q.2 x)
theorem backF_size (a : List (Nat × ByteArray)) : ∀ x : ByteArray, x.size ≤ 1000 → (backF a x).size ≤ 1000 := by
  induction a with
  | nil => intro x h; exact h
  | cons q a ih => intro x _; exact ih _ (by rw [pairF_size]; omega)
def rootR (L : List ByteArray) : ByteArray := match L.getLast? with
  | none => Ref01.sumF ⟨#[]⟩
  | some x => backF (bkN L.dropLast L.dropLast.length) x
theorem bkN_mem (l : List ByteArray) (hs : Sm l) : ∀ k, ∀ p ∈ bkN l k, p.2.size ≤ 1000
  | 0, p, h => by simp [bkN] at h
  | k + 1, p, h => by
    rw [bkN] at h
    rcases List.mem_cons.1 h with rfl | h
    · show (l.getD k ByteArray.empty).size ≤ 1000
      rw [List.getD_eq_getElem?_getD]
      cases hk : l[k]? with
      | none => exact Nat.zero_le _
      | some y => exact hs y (List.mem_of_getElem? hk)
    · exact bkN_mem l hs k p h
def RtI (w : World) (gT gR gX Bn : Nat) (A : Option Addr) (R : Int) (n c : Nat) (l0 : List ByteArray) (x : ByteArray) (pre : List (Nat × ByteArray)) (W : World) : Prop :=
  ∃ u, Mem.Own w W [(gT, TV, 31), (gR, #[.int .i64 R, .slice A n c], 41), (gX, #[.string (backF pre x)], 9), (Bn, #[u], 22)]
theorem rtI_from {w : World} {gT gR gX Bn : Nat} {A : Option Addr} {R : Int} {n c : Nat} {l0 : List ByteArray} {x : ByteArray} {B : Nat} (hB : w.heap.size ≤ B) : OwnFrom B (RtI w gT gR gX Bn A R n c l0 x) := fun pre W V row h hg hr => by
  obtain ⟨u, hO⟩ := h
  exact ⟨u, own_rec hO hg (fun r e => (hr r e).2) (fun r e => Nat.le_trans hB (hr r e).1)⟩
theorem rtI_set {w : World} {gT gR gX Bn : Nat} {A : Option Addr} {R : Int} {n c : Nat} {l0 : List ByteArray} {x : ByteArray} {pre : List (Nat × ByteArray)} {W : World} (h : RtI w gT gR gX Bn A R n c l0 x pre W) (z : Value) : RtI w gT gR gX Bn A R n c l0 x pre (W.setCell ⟨Bn, 0, none⟩ z) := by
  obtain ⟨u, hO⟩ := h
  exact ⟨z, hO.put 3 rfl 0 z rfl⟩
theorem rroot_nil (R : Int) (A : Option Addr) (c : Nat) (w : World) :
    Calls Try.prog 29 #[.agg TV, .agg #[.int .i64 R, .slice A 0 c]] w fun e w' => e = .returned (.string (rootR [])) ∧ Below w.heap.size w w' := by
  have OW := Aside0.mk (Mem.Own.nil w)
  have HI := Aside0.mk info_tab
  have HS := Aside0.mk (fun W => sha_c ⟨#[]⟩ (by decide) W)
  go_enter Try.func29, Try.ntmps29
  go_wp2_with (first
    | ((with_reducible refine gate_dst (N := 2) rfl ?_); refine box_event ?hg (N := 2) ?hd (cs := TV) (t := 31) ?hr ?_; (case hd => rfl); (case hg => rfl); (case hr => first | (go_simp; done) | (go_simp; rfl)); intro gT hg W_ hb hbb; have n_ : Aside0 (Mem.Own w W_ [(gT, TV, 31)]) := ⟨OW.out.new hg hb hbb⟩; clear OW hb hbb hg; have OW := n_; clear n_)
    | ((with_reducible refine gate_dst (N := 3) rfl ?_); refine box_event ?hg (N := 3) ?hd (cs := #[.int .i64 R, .slice A 0 c]) (t := 41) ?hr ?_; (case hd => rfl); (case hg => rfl); (case hr => first | (go_simp; done) | (go_simp; rfl)); intro gR hg W_ hb hbb; have c1 := (blk_cell hb 1).trans rfl; have n_ : Aside0 (Mem.Own w W_ [(gT, TV, 31), (gR, #[.int .i64 R, .slice A 0 c], 41)]) := ⟨OW.out.new hg hb hbb⟩; clear OW hb hbb hg; have OW := n_; clear n_)
    | ((with_reducible refine gate_dst (N := 12) rfl ?_); refine wpList_load_row rfl 31 (.tmp 2) rfl gT rfl 31 TV (0, 0) _ (OW.out.blk 0 rfl) Try.underlying31 rfl HI.out ?_)
    | (go_at_call 58; with_reducible refine (HS.out _).mono ?_; rintro e w_ ⟨rfl, hB⟩; have OB := Aside0.mk (below_step OW.out.below hB); clear OW hB))
  go_ret
  exact ⟨rfl, OB.out⟩
theorem rroot_c (R : Int) (A : Option Addr) (c q : Nat) (l0 : List ByteArray) (x : ByteArray) (w : World) (hq : l0.length = q) (hl : q ≤ 1000) (hs : Sm (l0 ++ [x])) (hc : q + 1 ≤ c) (hr : Kd.C Kd.string w A (q + 1) (l0 ++ [x])) :
    Calls Try.prog 29 #[.agg TV, .agg #[.int .i64 R, .slice A ((q + 1 : Nat)) c]] w fun e w' => e = .returned (.string (rootR (l0 ++ [x]))) ∧ Below w.heap.size w w' := by
  have OW := Aside0.mk (Mem.Own.nil w)
  have HI := Aside0.mk info_tab
  have HX : Aside0 (rootR (l0 ++ [x]) = backF (bkN l0 q) x) := ⟨by unfold rootR; rw [List.getLast?_concat]; simp only [List.dropLast_concat, hq]⟩
  have hlen : (l0 ++ [x]).length = q + 1 := by rw [List.length_append, hq]; rfl
  have hr2 : Kd.C Kd.string w A (l0 ++ [x]).length (l0 ++ [x]) := by rw [hlen]; exact hr
  obtain ⟨ad, e, hx⟩ := Kd.at_string hr2 (q : Int) (by omega) (by rw [hlen]; omega)
  cases e
  rw [rdOf_last l0 x q hq, Int.toNat_natCast] at hx
  obtain ⟨hcut, hC, hc2⟩ := cut_take (some ad) c (l0 ++ [x]) q (by rw [hlen]; omega) (by rw [hlen]; exact hc)
  have htk : (l0 ++ [x]).take q = l0 := by rw [← hq]; simp
  have HCL := hC w hr2
  rw [htk] at hcut HCL
  rw [hlen, hq] at hcut
  obtain ⟨m, hm⟩ : ∃ m, q + 1 = m := ⟨_, rfl⟩
  rw [hm] at hcut ⊢
  have hmq : (m : Int) - 1 = (q : Int) := by omega
  have hwq : wrap64 (q : Int) = (q : Int) := by unfold wrap64; omega
  have hq1 : (q : Int) < (m : Int) := by omega
  have m0 : ((m : Int) == 0) = false := by rw [beq_eq_false_iff_ne]; omega
  have HC := Aside0.mk HCL
  have HXA := Aside0.mk hx
  have HXS : Aside0 (x.size ≤ 1000) := ⟨hs x (by simp)⟩
  have HS0 : Aside0 (Sm l0) := ⟨fun s h => hs s (by simp [h])⟩
  have HQ := Aside0.mk hq
  have HL := Aside0.mk hl
  have HBK := Aside0.mk (fun W => back_c (some ad) q c W)
  clear hr hr2 hlen hC hc2 htk HCL hm hx hs hc hq hl
  refine (callsIn_wide (n := 5)).1 ?_
  refine callsIn_of_wp_marks Try.func29 rfl trivial ?_ rfl
  simp only [Try.ntmps29, List.size_toArray, List.length_cons, List.length_nil, Nat.reduceAdd, Nat.reduceSub, Array.replicate_succ, Array.replicate_zero, List.push_toArray, List.append_toArray, List.nil_append, List.cons_append]
  refine wpIn_wide.2 ?_
  go_wp2_with (first
    | ((with_reducible refine gate_dst (N := 2) rfl ?_); refine box_event ?hg (N := 2) ?hd (cs := TV) (t := 31) ?hr ?_; (case hd => rfl); (case hg => rfl); (case hr => first | (go_simp; done) | (go_simp; rfl)); intro gT hg W_ hb hbb; have n_ : Aside0 (Mem.Own w W_ [(gT, TV, 31)]) := ⟨OW.out.new hg hb hbb⟩; clear OW hb hbb hg; have OW := n_; clear n_)
    | ((with_reducible refine gate_dst (N := 3) rfl ?_); refine box_event ?hg (N := 3) ?hd (cs := #[.int .i64 R, .slice (some ad) m c]) (t := 41) ?hr ?_; (case hd => rfl); (case hg => rfl); (case hr => first | (go_simp; done) | (go_simp; rfl)); intro gR hg W_ hb hbb; have c1 := (blk_cell hb 1).trans rfl; have cx := pw_cell_below ((OW.out.step hbb).below) HXA.out; have n_ : Aside0 (Mem.Own w W_ [(gT, TV, 31), (gR, #[.int .i64 R, .slice (some ad) m c], 41)]) := ⟨OW.out.new hg hb hbb⟩; clear OW hb hbb hg; have OW := n_; clear n_)
    | ((with_reducible refine gate_dst (N := 5) rfl ?_); refine box_event ?hg (N := 5) ?hd (cs := #[.string ⟨#[]⟩]) (t := 9) ?hr ?_; (case hd => rfl); (case hg => rfl); (case hr => first | (go_simp; done) | (go_simp; rfl)); intro gX hg W_ hb hbb; clear c1 cx; have x0 := (blk_cell hb 0).trans rfl; have y0 := blk_frozen hb 0; have c1 := (((OW.out.new hg hb hbb).put 2 rfl 0 (.string x) rfl).cell 1 rfl 1).trans rfl; have n_ : Aside0 (Mem.Own w W_ [(gT, TV, 31), (gR, #[.int .i64 R, .slice (some ad) m c], 41), (gX, #[.string ⟨#[]⟩], 9)]) := ⟨OW.out.new hg hb hbb⟩; clear OW hb hbb hg; have OW := n_; clear n_)
    | (go_at_call 59; with_reducible refine (HBK.out _).mono ?_; rintro e w_ ⟨Bn, rfl, hBn, hbk, hB⟩; have n_ := Aside0.mk ((OW.out.put 2 rfl 0 (.string x) rfl).new hBn hbk hB); clear OW x0 y0 c1 hBn hbk hB; have OW := n_; clear n_))
  have hBn : Bn < w_.heap.size := blk_lt (OW.out.blk 3 rfl)
  have HCW := Aside0.mk (Kd.C_below HC.out OW.out.below)
  have HBX : Aside0 (Boxed w_ Bn 22 (.slice (some ad) l0.length c)) := ⟨by rw [HQ.out]; exact OW.out.blk 3 rfl⟩
  refine (wpIn_wide (n := 5)).1 ?_
  refine range_cellN (α := Nat × ByteArray) (encs := enc2) (Nx := fun pre x => pre ++ [x] <+: bkN l0 l0.length) (Bn := Bn) (Kp := KpB Bn (some ad) c l0) rfl (by omega) (gf := 87) (lb := #[.pointer (some ⟨Bn, 0, none⟩)]) rfl trivial (enters_of Try.func87 (by kernel_rfl) rfl)
    (backN 4 (by omega) Bn (some ad) c l0 w_ (by have := HQ.out; have := HL.out; omega) hBn HBX.out HCW.out) kpB_t (fun V lp o o2 hl h hc => kpB_b V lp o o2 h hc) (Below.refl _ _) (fun _ => rfl)
    (RtI w gT gR gX Bn (some ad) R m c l0 x) (fun _ _ _ => False) (rtI_from OW.out.size) (fun _ _ _ _ _ hs _ _ => hs) (fun _ _ v hs => rtI_set hs v) ⟨_, OW.out⟩
    (fun y => { tmps := #[.agg TV, .agg #[.int .i64 R, .slice (some ad) m c], .pointer (some ⟨gT, 0, none⟩), .pointer (some ⟨gR, 0, none⟩), .string ⟨#[]⟩, .pointer (some ⟨gX, 0, none⟩), undef, .string y.2, .pointer (some ⟨gR, 1, none⟩), .slice (some ad) m c, .int .i64 (m : Int), .bool false, undef, undef, .pointer (some ⟨gR, 1, none⟩), .slice (some ad) m c, .pointer (some ⟨gR, 1, none⟩), .slice (some ad) m c, .int .i64 (m : Int), .int .i64 (q : Int), .pointer (some (ad.add q)), .string x,
      .pointer (some ⟨gR, 1, none⟩), .slice (some ad) m c, .pointer (some ⟨gR, 1, none⟩), .slice (some ad) m c, .int .i64 (m : Int), .int .i64 (q : Int), .slice (some ad) q c, .func (.func 87) #[] #[.pointer (some ⟨Bn, 0, none⟩)], .int .i64 (y.1 : Int), .string y.2, undef, undef, undef, undef, undef], defers := [] }) ?assign ?body ?done ?stop
  case assign =>
    intro lp y W K hK
    gi_wp2
    exact hK
  case body =>
    have HSZ := Aside0.mk OW.out.size
    clear OW hBn HBX hcut
    rintro lp pre ⟨yi, y⟩ W ⟨u, hO⟩ hnx
    have hy : y.size ≤ 1000 := by
      obtain ⟨t, ht⟩ := hnx
      exact bkN_mem l0 HS0.out l0.length (yi, y) (by rw [← ht]; simp)
    have hz := backF_size pre x HXS.out
    have HSN : Aside0 (backF (pre ++ [(yi, y)]) x = pairF y (backF pre x)) := ⟨backF_snoc pre (yi, y) x⟩
    generalize backF pre x = z at *
    have HP := Aside0.mk (fun W => rpair_c y z (by omega) (by omega) W)
    have OO := Aside0.mk hO
    have OW := Aside0.mk (Mem.Own.of_below (Below.refl W.heap.size W))
    have x0 := (hO.cell 2 rfl 0).trans rfl
    clear hy hz hnx HCW
    dsimp only
    refine wpIn_block ?_
    refine InR.lit_in (by rintro ⟨_, _, h⟩; exact h) (by kernel_rfl) ?_
    go_wp2_with (first
      | ((with_reducible refine gate_dst (N := 32) rfl ?_); refine wpList_load_row rfl 31 (.tmp 2) rfl gT rfl 31 TV (0, 0) _ (hO.blk 0 rfl) Try.underlying31 rfl HI.out ?_)
      | (go_at_call 60; with_reducible refine (HP.out _).mono ?_; rintro e w1 ⟨rfl, hB⟩; have HB := Aside0.mk hB; have O1 := Aside0.mk (OO.out.step hB); have x1 := (O1.out.cell 2 rfl 0).trans rfl; have y1 := O1.out.frozen 2 rfl 0; clear x0 hB))
    have O2 := O1.out.put 2 rfl 0 (.string (pairF y z)) rfl
    refine ⟨((keeps_below HB.out).trans (KeepsOthers.setCell _ _ _)).from _, ?_, ?_⟩
    · rintro ⟨h1, _⟩
      have h2 : Boxed W Bn 22 u := OO.out.blk 3 rfl
      have h3 : Value.slice (some ad) l0.length c = u := by
        unfold Boxed at h1 h2
        rw [h1] at h2
        injection h2 with h2
        injection h2 with h2
        simpa using h2
      rw [h3]
      exact ⟨O2.blk 3 rfl, Kd.C_below HC.out O2.below⟩
    · exact ⟨u, by rw [HSN.out]; exact O2⟩
  case done =>
    have HSZ := Aside0.mk OW.out.size
    clear OW hBn HBX hcut HCW
    rintro D xs W hD rfl ⟨u, hO⟩ hK
    have OO := Aside0.mk hO
    have x0 := (hO.cell 2 rfl 0).trans rfl
    clear hO
    go_wp2_with fail
    have hD2 : w.heap.size ≤ D := Nat.le_trans HSZ.out hD
    have O3 := Fun.own_put OO.out (Obj.deferred none) hD2 hK rfl
    refine ⟨by simp, .inl ⟨_, _, rfl, run_takeDeferred hK, ?_⟩⟩
    exact ⟨_, results_tmp rfl _ _ _, by rw [HX.out, ← HQ.out]; rfl, O3.below⟩
  case stop =>
    rintro D c pre W _ _ h _
    exact h.elim
end Go.Proofs.Ytondnammkcgjpaa.Rg

namespace Go.Proofs.Ytondnammkcgjpaa.Rf
open Go Go.RowKit Go.Shelf Go.Proofs.YtondnammkcgjpaaW.PrintWords Go.Proofs.YtondnammkcgjpaaW.PrintLast Go.Proofs.YtondnammkcgjpaaW.PrintMore
open Go.Proofs.Ytondnammkcgjpaa.ShaP Go.Proofs.Ytondnammkcgjpaa.Mk Go.Proofs.Ytondnammkcgjpaa.Rg
theorem rdOf_at (l : List ByteArray) (k : Nat) (h : k < l.length) : rdOf ByteArray.empty l (k : Int) = l[k] := by
  unfold rdOf
  rw [Int.toNat_natCast]
  simp [h]
theorem toList_inj {a b : ByteArray} (h : a.toList = b.toList) : a = b := by
  rw [ByteArray.toList_eq, ByteArray.toList_eq] at h
  cases a
  cases b
  congr 1
  exact Array.toList_inj.1 h
def fewB (l : List ByteArray) (n sz : Nat) : Bool := ((l.take 300).all fun s => decide (s.size ≤ sz)) && decide (l.length ≤ n)
theorem few_c (A : Option Addr) (c : Nat) (l : List ByteArray) (n sz : Nat) (w : World) (hn : n ≤ 1000000) (hz : sz ≤ 1000000) (hr : Kd.C Kd.string w A l.length l) :
    Calls Try.prog 15 #[.slice A l.length c, .int .i64 (n : Int), .int .i64 (sz : Int)] w fun e w' => e = .returned (.bool (fewB l n sz)) ∧ w = w' := by
  have HR := Aside0.mk hr
  have hm := hr.2.1
  clear hr
  go_enter Try.func15, Try.ntmps15
  go_wp2
  go_loop [7] (fun t => ∃ k : Nat, t = .int .i64 k ∧ k ≤ l.length ∧ k ≤ 300 ∧ Aside0 (((l.take k).all fun s => decide (s.size ≤ sz)) = true)) (fun t => 300 - (intOf t).toNat)
  case atStart => exact ⟨0, rfl, Nat.zero_le _, by omega, ⟨rfl⟩⟩
  case round =>
    obtain ⟨k, rfl, hk1, hk2, HA⟩ := hrel
    by_cases h1 : k < l.length
    · have h1i : (k : Int) < (l.length : Int) := by omega
      by_cases h2 : k < 300
      · have h2i : (k : Int) < 300 := by omega
        obtain ⟨ad, e, hx⟩ := Kd.at_string HR.out (k : Int) (by omega) h1i
        cases e
        have hg : rdOf ByteArray.empty l (k : Int) = l[k] := rdOf_at l k h1
        rw [hg, Int.toNat_natCast] at hx
        by_cases h3 : l[k].size ≤ sz
        · have HA2 : Aside0 (((l.take (k + 1)).all fun s => decide (s.size ≤ sz)) = true) := ⟨by
            rw [List.take_succ_eq_append_getElem h1, List.all_append, HA.out]
            simp [h3]⟩
          generalize l[k] = s at *
          have h3i : ¬ (sz : Int) < (s.size : Int) := by omega
          clear HA hg h3
          go_wp2
          go_round
          case rel => exact ⟨k + 1, by go_num, by omega, by omega, HA2⟩
          case measure => simp [intOf]; omega
        · have HF : Aside0 (fewB l n sz = false) := ⟨by
            unfold fewB
            rw [Bool.and_eq_false_iff]
            left
            rw [List.all_eq_false]
            exact ⟨l[k], List.mem_iff_getElem.2 ⟨k, by rw [List.length_take]; omega, by rw [List.getElem_take]⟩, by simpa using h3⟩⟩
          generalize l[k] = s at *
          have h3i : (sz : Int) < (s.size : Int) := by omega
          clear HA hg h3
          go_wp2
          go_ret
          exact ⟨by rw [HF.out]; rfl, rfl⟩
      · have h2i : ¬ (k : Int) < 300 := by omega
        have HF : Aside0 (fewB l n sz = decide (l.length ≤ n)) := ⟨by
          obtain rfl : k = 300 := by omega
          unfold fewB
          rw [HA.out, Bool.true_and]⟩
        clear HA
        go_wp2
        go_ret
        exact ⟨by rw [HF.out]; rfl, rfl⟩
    · have h1i : ¬ (k : Int) < (l.length : Int) := by omega
      have HF : Aside0 (fewB l n sz = decide (l.length ≤ n)) := ⟨by
        obtain rfl : k = l.length := by omega
        unfold fewB
        have h := HA.out
        rw [List.take_length] at h
        rw [List.take_of_length_le hk2, h, Bool.true_and]⟩
      clear HA
      go_wp2
      go_ret
      exact ⟨by rw [HF.out]; rfl, rfl⟩
theorem h_c (s : ByteArray) (hs : s.size ≤ 100000) (w : World) : Calls Try.prog 38 #[.string s] w fun e w' => e = .returned (.string (Ref01.sumF s)) ∧ Below w.heap.size w w' := by
  have HC := Aside0.mk (Ref01.sum_c s (by omega) w)
  go_enter Try.func38, Try.ntmps38
  go_wp2_with (go_at_call 68; with_reducible refine HC.out.mono ?_; rintro e w_ ⟨rfl, hB⟩; have HB := Aside0.mk hB; clear hB)
  go_ret
  exact ⟨rfl, HB.out⟩
def leafF (s : ByteArray) : ByteArray := Ref01.sumF ((⟨#[0]⟩ : ByteArray) ++ s)
def leavesF (l : List ByteArray) : List ByteArray := l.map leafF
theorem leaf_size (s : ByteArray) : (leafF s).size = 32 := sumF_size _
theorem leaves_sm (l : List ByteArray) : Sm (leavesF l) := fun s hs => by
  obtain ⟨x, _, rfl⟩ := List.mem_map.1 hs
  rw [leaf_size]; omega
theorem leaves_c (A : Option Addr) (c : Nat) (l : List ByteArray) (w : World) (hl : l.length ≤ 100000) (hs : ∀ s ∈ l, s.size ≤ 10000) (hr : Kd.C Kd.string w A l.length l) :
    Calls Try.prog 17 #[.slice A l.length c] w fun e w' => ∃ v, e = .returned v ∧ SR w' w.heap.size v (leavesF l) ∧ Below w.heap.size w w' := by
  have HR := Aside0.mk hr
  have HS := Aside0.mk hs
  have hli : (l.length : Int) ≤ 100000 := by omega
  clear hr hs hl
  go_enter Try.func17, Try.ntmps17
  go_wp2
  go_loopw [3, 4] (fun v3 v4 wr => ∃ (k : Nat) (A3 : Option Addr) (c3 : Nat), v4 = .int .i64 k ∧ v3 = .slice A3 k c3 ∧ k ≤ l.length ∧ Aside0 (SR wr w.heap.size (.slice A3 k c3) (leavesF (l.take k))) ∧ Aside0 (Below w.heap.size w wr)) (fun _ v4 _ => l.length - (intOf v4).toNat)
  case atStart => exact ⟨0, none, 0, rfl, rfl, Nat.zero_le _, ⟨Kd.R_nil _ _ _ _ _⟩, ⟨Below.refl _ _⟩⟩
  case round =>
    obtain ⟨k, A3, c3, rfl, rfl, hk, HO, HB⟩ := hrel
    by_cases h1 : k < l.length
    · have h1i : (k : Int) < (l.length : Int) := by omega
      obtain ⟨ad, e, hx⟩ := Kd.at_string (Kd.C_below HR.out HB.out) (k : Int) (by omega) h1i
      cases e
      rw [rdOf_at l k h1, Int.toNat_natCast] at hx
      have HT : Aside0 (leavesF (l.take (k + 1)) = leavesF (l.take k) ++ [leafF l[k]]) := ⟨by unfold leavesF; rw [List.take_succ_eq_append_getElem h1, List.map_append]; rfl⟩
      have hsz : l[k].size ≤ 10000 := HS.out _ (List.getElem_mem h1)
      have hlt : (leavesF (l.take k)).length = k := by unfold leavesF; rw [List.length_map, List.length_take]; omega
      generalize l[k] = s at *
      have HH := Aside0.mk (fun W => h_c ((⟨#[0]⟩ : ByteArray) ++ s) (by rw [ByteArray.size_append]; show 1 + s.size ≤ _; omega) W)
      have z1 : (1 + s.size ≤ 9223372036854775807) = True := eq_true (by omega)
      have z3 : (9223372036854775807 < 1 + s.size) = False := eq_false (by omega)
      have HLT := Aside0.mk hlt
      generalize leavesF (l.take k) = ol at *
      have hfold : Ref01.sumF ((⟨#[0]⟩ : ByteArray) ++ s) = leafF s := rfl
      rw [hfold] at HH
      clear hlt hsz hfold
      go_wp2_with (first
        | (go_at_call 38; with_reducible refine (HH.out _).mono ?_; rintro e w1 ⟨rfl, hB⟩; have HB1 := Aside0.mk (below_step HB.out hB); have HO1 := Aside0.mk (Kd.R_below HO.out hB); clear hB HB HO hx)
        | ((with_reducible refine gate_builtin (b := .append) (xs := #[.tmp 11, .tmp 18]) rfl ?_); at_builtin; refine Kd.R_append (P := Try.prog) Kd.string (w0 := w) (W := w1) w.heap.size rfl (.tmp 11) (.tmp 18) 22 9 (.string ⟨#[]⟩) 16 rfl Try.underlying22 info_str rfl (by decide) (by decide) (.slice A3 k c3) ol (leafF s) [.string (leafF s)] (fun _ => True) (fun _ => False) rfl rfl rfl (fun _ h => h.elim) (fun _ _ => trivial) HO1.out HB1.out HB1.out.size (by rw [HLT.out]; omega) ?_; intro v2 w2 hr2 hb2 hg2 hat2; obtain ⟨A4, c4, e4⟩ := Kd.R_slice hr2; have e5 : (ol ++ [leafF s]).length = k + 1 := (by rw [List.length_append, HLT.out]; rfl); rw [e5] at e4; subst e4; have HR2 := Aside0.mk hr2; have HB2 := Aside0.mk hb2; clear hr2 hb2 hg2 hat2 e5))
      go_roundw
      case rel => exact ⟨k + 1, A4, c4, by go_num, rfl, by omega, by rw [HT.out]; exact HR2, HB2⟩
      case measure => simp [intOf]; omega
    · have h1i : ¬ (k : Int) < (l.length : Int) := by omega
      obtain rfl : k = l.length := by omega
      go_wp2
      go_ret
      exact ⟨_, rfl, by have h := HO.out; rw [List.take_length] at h; exact h, HB.out⟩
end Go.Proofs.Ytondnammkcgjpaa.Rf
namespace Go.Proofs.Ytondnammkcgjpaa.Rf
open Go Go.RowKit Go.Shelf Go.Proofs.YtondnammkcgjpaaW.PrintWords Go.Proofs.YtondnammkcgjpaaW.PrintLast Go.Proofs.YtondnammkcgjpaaW.PrintMore
open Go.Proofs.Ytondnammkcgjpaa.ShaP Go.Proofs.Ytondnammkcgjpaa.Mk Go.Proofs.Ytondnammkcgjpaa.Rg Go.Proofs.Ytondnammkcgjpaa.Rng
def hv : Nat → Nat → Nat → Nat
  | 0, k, _ => k
  | f + 1, k, n => if n ≤ k then hv f (k / 2) n else k
theorem hv_split : ∀ n, n < 65 → 2 ≤ n → hv 64 64 n = splitN n := by decide +kernel
theorem half_c (n : Nat) (h2 : 2 ≤ n) (hn : n ≤ 64) (w : World) : Calls Try.prog 67 #[.int .i64 (n : Int)] w fun e w' => e = .returned (.int .i64 (splitN n : Int)) ∧ w = w' := by
  have HV := Aside0.mk (hv_split n (by omega) h2)
  go_enter Try.func67, Try.ntmps67
  go_wp2
  go_loop [3] (fun t => ∃ f k : Nat, t = .int .i64 k ∧ k ≤ 64 ∧ k ≤ f ∧ Aside0 (splitN n = hv f k n)) (fun t => (intOf t).toNat)
  case atStart => exact ⟨64, 64, rfl, by omega, by omega, ⟨HV.out.symm⟩⟩
  case round =>
    obtain ⟨f, k, rfl, h0, hf, HS⟩ := hrel
    by_cases hlt : n ≤ k
    · have hz : (n : Int) ≤ (k : Int) := by omega
      obtain ⟨f, rfl⟩ : ∃ g, f = g + 1 := ⟨f - 1, by omega⟩
      have HS2 := Aside0.mk (HS.out.trans (by rw [hv, if_pos hlt]))
      clear HS
      go_wp2
      go_round
      case rel => exact ⟨f, k / 2, by go_num, by omega, by omega, HS2⟩
      case measure => simp [intOf]; omega
    · have hz : ¬ (n : Int) ≤ (k : Int) := by omega
      have HS2 : Aside0 (splitN n = k) := ⟨HS.out.trans (by
        cases f with
        | zero => rfl
        | succ f => rw [hv, if_neg hlt])⟩
      clear HS
      go_wp2
      go_ret
      exact ⟨by rw [HS2.out]; rfl, rfl⟩
theorem rfroot_c (f : Nat) : ∀ (A : Option Addr) (c : Nat) (l : List ByteArray) (w : World), l.length < f → l.length ≤ 64 → Sm l → l.length ≤ c → Kd.C Kd.string w A l.length l →
    Calls Try.prog 36 #[.slice A l.length c] w fun e w' => e = .returned (.string (rootN f l)) ∧ Below w.heap.size w w' := by
  induction f with
  | zero => intro A c l w h; omega
  | succ f ih =>
    intro A c l w hl hf hs hc hr
    by_cases h0 : l.length = 0
    · obtain rfl : l = [] := List.length_eq_zero_iff.1 h0
      have HR : Aside0 (rootN (f + 1) [] = Ref01.sumF ⟨#[]⟩) := ⟨by simp [rootN]⟩
      have HS := Aside0.mk (fun W => h_c ⟨#[]⟩ (by decide) W)
      clear ih hl hs hc hr h0 hf
      simp only [List.length_nil]
      go_enter Try.func36, Try.ntmps36
      go_wp2_with (go_at_call 38; with_reducible refine (HS.out _).mono ?_; rintro e w_ ⟨rfl, hB⟩; have OB := Aside0.mk hB; clear hB)
      go_ret
      exact ⟨by rw [HR.out]; rfl, OB.out⟩
    by_cases h1 : l.length = 1
    · have HR : Aside0 (rootN (f + 1) l = rdOf ByteArray.empty l 0) := ⟨by rw [rootN, if_neg h0, if_pos h1]⟩
      obtain ⟨ad, e, hx⟩ := Kd.at_string hr 0 (by omega) (by omega)
      cases e
      have ha0 : ad.add (Int.toNat 0) = ad := by simp [Addr.add]
      rw [ha0] at hx
      generalize rdOf ByteArray.empty l 0 = x at HR hx
      rw [h1] at hc ⊢
      clear ih hl hs hr h0 hf
      have h1 : True := trivial
      go_enter Try.func36, Try.ntmps36
      go_wp2
      go_ret
      exact ⟨by rw [HR.out]; rfl, Below.refl _ _⟩
    · have n0 : ((l.length : Int) == 0) = false := by simpa using h0
      have n1 : ((l.length : Int) == 1) = false := by rw [beq_eq_false_iff_ne]; omega
      have HR : Aside0 (rootN (f + 1) l = pairF (rootN f (l.take (splitN l.length))) (rootN f (l.drop (splitN l.length)))) := ⟨by rw [rootN, if_neg h0, if_neg h1]⟩
      have hk := splitN_bd l.length (by omega)
      have HSP := Aside0.mk (half_c l.length (by omega) (by omega))
      obtain ⟨k, ek⟩ : ∃ k, splitN l.length = k := ⟨_, rfl⟩
      rw [ek] at hk HSP HR
      obtain ⟨hcut1, hC1, hc1⟩ := cut_take A c l k (by omega) hc
      obtain ⟨A2, hcut2, hC2, hc2⟩ := cut_drop A c l k (by omega) hc
      have C1 := Aside0.mk (hC1 w hr)
      have C2 := Aside0.mk (hC2 w hr)
      have s1 := hs.take k
      have s2 := hs.drop k
      have e1 : (l.take k).length < f ∧ (l.take k).length ≤ 64 := by rw [List.length_take]; omega
      have e2 : (l.drop k).length < f ∧ (l.drop k).length ≤ 64 := by rw [List.length_drop]; omega
      generalize l.take k = l1 at *
      generalize l.drop k = l2 at *
      have IH1 := Aside0.mk (fun W h => ih A c l1 W e1.1 e1.2 s1 hc1 h)
      have IH2 := Aside0.mk (fun W h => ih A2 (c - k) l2 W e2.1 e2.2 s2 hc2 h)
      have g1 := rootN_size f l1 s1
      have g2 := rootN_size f l2 s2
      have hfold : Ref01.sumF ((⟨#[1]⟩ : ByteArray) ++ rootN f l1 ++ rootN f l2) = pairF (rootN f l1) (rootN f l2) := rfl
      generalize rootN f l1 = r1 at *
      generalize rootN f l2 = r2 at *
      have HP := Aside0.mk (fun W => h_c ((⟨#[1]⟩ : ByteArray) ++ r1 ++ r2) (by rw [cat_size]; omega) W)
      rw [hfold] at HP
      have z1 : (1 + r1.size ≤ 9223372036854775807) = True := eq_true (by omega)
      have z2 : (((⟨#[1]⟩ : ByteArray) ++ r1).size + r2.size ≤ 9223372036854775807) = True := eq_true (by rw [ByteArray.size_append]; show 1 + r1.size + r2.size ≤ _; omega)
      have z3 : (9223372036854775807 < 1 + r1.size) = False := eq_false (by omega)
      have z4 : (9223372036854775807 < ((⟨#[1]⟩ : ByteArray) ++ r1).size + r2.size) = False := eq_false (by rw [ByteArray.size_append]; show ¬ _ < 1 + r1.size + r2.size; omega)
      have z5 : (9223372036854775807 < 1 + r1.size + r2.size) = False := eq_false (by omega)
      clear ih hl hs hr h0 hf hk ek hC1 hC2 s1 s2 e1 e2 hc1 hc2 h1 hc g1 g2 hfold
      go_enter Try.func36, Try.ntmps36
      go_wp2_with (go_at_call 67; with_reducible refine (HSP.out _).mono ?_; rintro e w_ ⟨rfl, rfl⟩)
      have OD := Aside0.mk (below_drew (Below.refl w.heap.size w))
      refine start_ (n := 12) (S := fun w' => Below (w).drew.heap.size (w).drew w') (ds := []) #[false, false, false, false, false, false, false, false, false, false, false, false] (by kernel_rfl) rfl rfl (Below.refl _ _) (fun hHeld => ?_)
      generalize (w).drew = W0 at *
      refine pure_ (i := 0) (N := (some 17)) (v := ?_) (a' := ?_) #[true, false, false, false, false, false, false, false, false, false, false, false] rfl rfl (by kernel_rfl) (fun _ _ _ h => h) (Or.inl ⟨by rfl, ?_⟩) ?_ ?_
      rotate_left
      · intro w'
        go_simp
        first | done | with_reducible rfl
      rotate_left
      · simp only [Act.put, List.setIfInBounds_toArray, List.set_cons_zero, List.set_cons_succ, i64_w, i32_w]
        rfl
      refine pure_ (i := 1) (N := (some 18)) (v := ?_) (a' := ?_) #[true, true, false, false, false, false, false, false, false, false, false, false] rfl rfl (by kernel_rfl) (fun _ _ _ h => h) (Or.inl ⟨by rfl, ?_⟩) ?_ ?_
      rotate_left
      · intro w'
        go_simp
        first | done | with_reducible rfl
      rotate_left
      · simp only [Act.put, List.setIfInBounds_toArray, List.set_cons_zero, List.set_cons_succ, i64_w, i32_w]
        rfl
      refine pure_ (i := 2) (N := (some 19)) (v := ?_) (a' := ?_) #[true, true, true, false, false, false, false, false, false, false, false, false] rfl rfl (by kernel_rfl) (fun _ _ _ h => h) (Or.inl ⟨by rfl, ?_⟩) ?_ ?_
      rotate_left
      · intro w'
        go_simp
        first | done | with_reducible rfl
      rotate_left
      · simp only [Act.put, List.setIfInBounds_toArray, List.set_cons_zero, List.set_cons_succ, i64_w, i32_w]
        rfl
      refine pure_ (i := 5) (N := (some 22)) (v := ?_) (a' := ?_) #[true, true, true, false, false, true, false, false, false, false, false, false] rfl rfl (by kernel_rfl) (fun _ _ _ h => h) (Or.inl ⟨by rfl, ?_⟩) ?_ ?_
      rotate_left
      · intro w'
        go_simp
        first | done | with_reducible rfl
      rotate_left
      · simp only [Act.put, List.setIfInBounds_toArray, List.set_cons_zero, List.set_cons_succ, i64_w, i32_w]
        rfl
      refine pure_ (i := 6) (N := (some 23)) (v := ?_) (a' := ?_) #[true, true, true, false, false, true, true, false, false, false, false, false] rfl rfl (by kernel_rfl) (fun _ _ _ h => h) (Or.inl ⟨by rfl, ?_⟩) ?_ ?_
      rotate_left
      · intro w'
        go_simp
        first | done | with_reducible rfl
      rotate_left
      · simp only [Act.put, List.setIfInBounds_toArray, List.set_cons_zero, List.set_cons_succ, i64_w, i32_w]
        rfl
      refine pure_ (i := 7) (N := (some 24)) (v := ?_) (a' := ?_) #[true, true, true, false, false, true, true, true, false, false, false, false] rfl rfl (by kernel_rfl) (fun _ _ _ h => h) (Or.inl ⟨by rfl, ?_⟩) ?_ ?_
      rotate_left
      · intro w'
        go_simp
        first | done | with_reducible rfl
      rotate_left
      · simp only [Act.put, List.setIfInBounds_toArray, List.set_cons_zero, List.set_cons_succ, i64_w, i32_w]
        rfl
      refine one_ (i := 3) (N := (some 20)) #[true, true, true, true, false, true, true, true, false, false, false, false] rfl rfl (by kernel_rfl) (by decide) (fun K hK => ?_)
      refine goes_ Try.func36 (by kernel_rfl) rfl #[.slice A l1.length c] (by rfl) rfl rfl (by (try simp only [List.map_toArray, List.map_cons, List.map_nil]); first | done | rfl) ?_
      with_reducible refine (IH1.out _ (Kd.C_below C1.out OD.out)).mono ?_
      rintro e w1 ⟨rfl, hB⟩
      refine ⟨_, rfl, ?_⟩
      have hS2 : Below W0.heap.size W0 w1 := hB
      clear hB
      refine hK.out _ _ hS2 (fun hHeld => ?_)
      clear hK K
      refine norm_ (a' := ?_) ?_ ?_
      rotate_left
      · show Act.put _ (some 20) _ = _
        simp only [Act.put, List.setIfInBounds_toArray, List.set_cons_zero, List.set_cons_succ, i64_w, i32_w]
        rfl
      refine pure_ (i := 4) (N := (some 21)) (v := ?_) (a' := ?_) #[true, true, true, true, true, true, true, true, false, false, false, false] rfl rfl (by kernel_rfl) (fun _ _ _ h => h) (Or.inl ⟨by rfl, ?_⟩) ?_ ?_
      rotate_left
      · intro w'
        go_simp
        first | done | with_reducible rfl
      rotate_left
      · simp only [Act.put, List.setIfInBounds_toArray, List.set_cons_zero, List.set_cons_succ, i64_w, i32_w]
        rfl
      refine one_ (i := 8) (N := (some 25)) #[true, true, true, true, true, true, true, true, true, false, false, false] rfl rfl (by kernel_rfl) (by decide) (fun K hK => ?_)
      refine goes_ Try.func36 (by kernel_rfl) rfl #[.slice A2 l2.length (c - k)] (by rfl) rfl rfl (by (try simp only [List.map_toArray, List.map_cons, List.map_nil]); first | done | rfl) ?_
      with_reducible refine (IH2.out _ (Kd.C_below C2.out (below_step OD.out hHeld))).mono ?_
      rintro e w2 ⟨rfl, hB⟩
      refine ⟨_, rfl, ?_⟩
      have hS2 : Below W0.heap.size W0 w2 := below_step hHeld hB
      clear hB hHeld
      refine hK.out _ _ hS2 (fun hHeld => ?_)
      clear hK K
      refine norm_ (a' := ?_) ?_ ?_
      rotate_left
      · show Act.put _ (some 25) _ = _
        simp only [Act.put, List.setIfInBounds_toArray, List.set_cons_zero, List.set_cons_succ, i64_w, i32_w]
        rfl
      refine pure_ (i := 9) (N := (some 26)) (v := ?_) (a' := ?_) #[true, true, true, true, true, true, true, true, true, true, false, false] rfl rfl (by kernel_rfl) (fun _ _ _ h => h) (Or.inl ⟨by rfl, ?_⟩) ?_ ?_
      rotate_left
      · intro w'
        go_simp
        first | done | with_reducible rfl
      rotate_left
      · simp only [Act.put, List.setIfInBounds_toArray, List.set_cons_zero, List.set_cons_succ, i64_w, i32_w]
        rfl
      refine one_ (i := 10) (N := (some 27)) #[true, true, true, true, true, true, true, true, true, true, true, false] rfl rfl (by kernel_rfl) (by decide) (fun K hK => ?_)
      refine goes_ Try.func38 (by kernel_rfl) rfl #[.string ((⟨#[1]⟩ : ByteArray) ++ r1 ++ r2)] (by rfl) rfl rfl (by (try simp only [List.map_toArray, List.map_cons, List.map_nil]); first | done | rfl) ?_
      with_reducible refine (HP.out _).mono ?_
      rintro e w3 ⟨rfl, hB⟩
      refine ⟨_, rfl, ?_⟩
      have hS2 : Below W0.heap.size W0 w3 := below_step hHeld hB
      clear hB hHeld
      refine hK.out _ _ hS2 (fun hHeld => ?_)
      clear hK K
      refine norm_ (a' := ?_) ?_ ?_
      rotate_left
      · show Act.put _ (some 27) _ = _
        simp only [Act.put, List.setIfInBounds_toArray, List.set_cons_zero, List.set_cons_succ, i64_w, i32_w]
        rfl
      refine pure_ (i := 11) (N := (some 2)) (v := ?_) (a' := ?_) #[true, true, true, true, true, true, true, true, true, true, true, true] rfl rfl (by kernel_rfl) (fun _ _ _ h => h) (Or.inl ⟨by rfl, ?_⟩) ?_ ?_
      rotate_left
      · intro w'
        go_simp
        first | done | with_reducible rfl
      rotate_left
      · simp only [Act.put, List.setIfInBounds_toArray, List.set_cons_zero, List.set_cons_succ, i64_w, i32_w]
        rfl
      refine done_ (by kernel_rfl) ?_
      have OB := Aside0.mk (below_step OD.out hHeld)
      clear hHeld
      go_wp2_with fail
      go_ret
      exact ⟨by rw [HR.out]; rfl, OB.out⟩
end Go.Proofs.Ytondnammkcgjpaa.Rf

namespace Go.Proofs.Ytondnammkcgjpaa.RgP
open Go Go.RowKit Go.Shelf Go.Proofs.YtondnammkcgjpaaW.PrintWords
open Go.Proofs.Ytondnammkcgjpaa.Mk Go.Proofs.Ytondnammkcgjpaa.Rg Go.Proofs.Ytondnammkcgjpaa.Rng Go.Proofs.Ytondnammkcgjpaa.Rf
def ofB (l : List ByteArray) : Nat → List Nat → List ByteArray
  | _, [] => []
  | a, p :: r => rootF ((l.take (a + p)).drop a) :: ofB l (a + p) r
def pn (n : Nat) : List Nat := (pws 64 n).map (·.1)
def sumN : List Nat → Nat
  | [] => 0
  | p :: r => p + sumN r
theorem ofA_B (l : List ByteArray) : ∀ (ps : List Pw) (a : Nat), ofA l a ps = ofB l a (ps.map (·.1))
  | [], _ => rfl
  | p :: ps, a => by rw [ofA, ofA_B l ps]; rfl
theorem ofF_B (l : List ByteArray) : ofF l = ofB l 0 (pn l.length) := ofA_B l _ 0
theorem ofB_len (l : List ByteArray) : ∀ (ps : List Nat) (a : Nat), (ofB l a ps).length = ps.length
  | [], _ => rfl
  | p :: ps, a => by rw [ofB, List.length_cons, ofB_len l ps, List.length_cons]
theorem ofB_drop (l : List ByteArray) (b : Nat) : ∀ (ps : List Nat) (a : Nat), ofB (l.drop b) a ps = ofB l (b + a) ps
  | [], _ => rfl
  | p :: ps, a => by
    rw [ofB, ofB, ofB_drop l b ps (a + p), Nat.add_assoc]
    congr 1
    rw [List.take_drop, List.drop_drop]
theorem rootN_fuel (f : Nat) : ∀ (g : Nat) (l : List ByteArray), l.length < f → l.length < g → rootN f l = rootN g l := by
  induction f with
  | zero => intro g l h; omega
  | succ f ih =>
    intro g l hf hg
    obtain ⟨g, rfl⟩ : ∃ k, g = k + 1 := ⟨g - 1, by omega⟩
    rw [rootN, rootN]
    by_cases h0 : l.length = 0
    · rw [if_pos h0, if_pos h0]
    · rw [if_neg h0, if_neg h0]
      by_cases h1 : l.length = 1
      · rw [if_pos h1, if_pos h1]
      · rw [if_neg h1, if_neg h1]
        have hk := splitN_bd l.length (by omega)
        rw [ih g (l.take _) (by rw [List.length_take]; omega) (by rw [List.length_take]; omega), ih g (l.drop _) (by rw [List.length_drop]; omega) (by rw [List.length_drop]; omega)]
theorem rootF_split (l : List ByteArray) (h2 : 2 ≤ l.length) (h : l.length ≤ 1000) : rootF l = pairF (rootF (l.take (splitN l.length))) (rootF (l.drop (splitN l.length))) := by
  have hk := splitN_bd l.length h2
  unfold rootF
  rw [rootN_fuel 100000 (99999 + 1) l (by omega) (by omega), rootN, if_neg (by omega), if_neg (by omega),
    rootN_fuel 99999 100000 (l.take _) (by rw [List.length_take]; omega) (by rw [List.length_take]; omega), rootN_fuel 99999 100000 (l.drop _) (by rw [List.length_drop]; omega) (by rw [List.length_drop]; omega)]
theorem rootF_nil : rootF [] = Ref01.sumF ⟨#[]⟩ := by
  unfold rootF
  rw [rootN_fuel 100000 (0 + 1) [] (by decide) (by decide), rootN]
  rfl
theorem rootF_one (x : ByteArray) : rootF [x] = x := by
  unfold rootF
  rw [rootN_fuel 100000 (1 + 1) [x] (by simp) (by simp), rootN]
  rfl
def A32 (l : List ByteArray) : Prop := ∀ s ∈ l, s.size = 32
theorem rootF_32 (l : List ByteArray) (h : A32 l) (hl : l.length ≤ 1000) : (rootF l).size = 32 := by
  by_cases h2 : 2 ≤ l.length
  · rw [rootF_split l h2 hl, pairF_size]
  · match l, h2 with
    | [], _ => rw [rootF_nil, sumF_size]
    | [x], _ => rw [rootF_one]; exact h x (by simp)
    | x :: y :: r, h2 => exact (h2 (by simp)).elim
theorem ofB_32 (l : List ByteArray) (h : A32 l) (hl : l.length ≤ 1000) : ∀ (ps : List Nat) (a : Nat), A32 (ofB l a ps)
  | [], _, s, hs => by simp [ofB] at hs
  | p :: ps, a, s, hs => by
    rw [ofB] at hs
    rcases List.mem_cons.1 hs with rfl | hs
    · exact rootF_32 _ (fun s hs => h s (List.mem_of_mem_take (List.mem_of_mem_drop hs))) (by rw [List.length_drop, List.length_take]; omega)
    · exact ofB_32 l h hl ps _ s hs
theorem ofF_32 (l : List ByteArray) (h : A32 l) (hl : l.length ≤ 1000) : A32 (ofF l) := by rw [ofF_B]; exact ofB_32 l h hl _ _
theorem A32.sm {l : List ByteArray} (h : A32 l) : Sm l := fun s hs => by rw [h s hs]; omega
theorem pn_cons : ∀ n, n < 129 → 0 < n → pn n = hp n :: pn (n - hp n) ∧ hp n ≤ n ∧ 0 < hp n ∧ (hp n < n → splitN n = hp n) := by decide +kernel
theorem split_two : ∀ j, j < 8 → splitN (2 ^ (j + 1)) = 2 ^ j := by decide +kernel
theorem backF_cons (x : ByteArray) (L : List ByteArray) : ∀ (k : Nat) (z : ByteArray), backF (bkN (x :: L) (k + 1)) z = pairF x (backF (bkN L k) z)
  | 0, z => rfl
  | k + 1, z => by
    rw [bkN, backF, backF_cons x L k, bkN, backF]
    rfl
theorem rootR_cons (x y : ByteArray) (L : List ByteArray) : rootR (x :: y :: L) = pairF x (rootR (y :: L)) := by
  unfold rootR
  rw [List.getLast?_cons_cons]
  cases h : (y :: L).getLast? with
  | none => simp at h
  | some z =>
    simp only [List.dropLast_cons_cons, List.length_cons]
    exact backF_cons x _ _ z
theorem root_of (f : Nat) : ∀ l : List ByteArray, l.length < f → l.length ≤ 128 → rootR (ofF l) = rootF l := by
  induction f with
  | zero => intro l h; omega
  | succ f ih =>
    intro l hf hl
    by_cases h0 : l.length = 0
    · obtain rfl := List.length_eq_zero_iff.1 h0
      rw [rootF_nil]
      rfl
    · obtain ⟨h1, h2, h3, h4⟩ := pn_cons l.length (by omega) (by omega)
      have e : ofF l = rootF (l.take (hp l.length)) :: ofF (l.drop (hp l.length)) := by
        rw [ofF_B, h1, ofB, ofF_B, List.length_drop, ofB_drop]
        simp
      by_cases hlt : hp l.length < l.length
      · have i1 := ih (l.drop (hp l.length)) (by rw [List.length_drop]; omega) (by rw [List.length_drop]; omega)
        rw [e]
        have hne : (ofF (l.drop (hp l.length))).length ≠ 0 := by
          obtain ⟨g1, _⟩ := pn_cons (l.drop (hp l.length)).length (by rw [List.length_drop]; omega) (by rw [List.length_drop]; omega)
          rw [ofF_B, ofB_len, g1]
          simp
        match hq : ofF (l.drop (hp l.length)), hne with
        | y :: L, _ =>
          rw [rootR_cons, ← hq, i1, rootF_split l (by omega) (by omega), h4 hlt]
      · have he : hp l.length = l.length := by omega
        rw [e, he, List.take_length, List.drop_length]
        rfl
end Go.Proofs.Ytondnammkcgjpaa.RgP
namespace Go.Proofs.Ytondnammkcgjpaa.RgL
open Go Go.RowKit Go.Shelf Go.Proofs.YtondnammkcgjpaaW.PrintWords Go.Proofs.YtondnammkcgjpaaW.PrintLast Go.Proofs.YtondnammkcgjpaaW.PrintMore
open Go.Proofs.Ytondnammkcgjpaa.ShaP Go.Proofs.Ytondnammkcgjpaa.Mk Go.Proofs.Ytondnammkcgjpaa.Rg Go.Proofs.Ytondnammkcgjpaa.Rng Go.Proofs.Ytondnammkcgjpaa.Rf Go.Proofs.Ytondnammkcgjpaa.RgP
theorem rroot_any (R : Int) (A : Option Addr) (c : Nat) (L : List ByteArray) (w : World) (hl : L.length ≤ 1000) (hs : Sm L) (hc : L.length ≤ c) (hr : Kd.C Kd.string w A L.length L) :
    Calls Try.prog 29 #[.agg TV, .agg #[.int .i64 R, .slice A L.length c]] w fun e w' => e = .returned (.string (rootR L)) ∧ Below w.heap.size w w' := by
  rcases List.eq_nil_or_concat L with rfl | ⟨l0, x, rfl⟩
  · exact rroot_nil R A c w
  · simp only [List.concat_eq_append] at *
    have h := hr
    have e : (l0 ++ [x]).length = l0.length + 1 := by simp
    rw [e] at h hc hl ⊢
    exact rroot_c R A c l0.length l0 x w rfl (by omega) hs hc h
theorem texts_C {w : World} {A : Option Addr} {l : List ByteArray} (h : Kd.C Kd.string w A l.length l) : Texts w A l := fun j hj => by
  obtain ⟨ad, e, hx⟩ := Kd.at_string h (j : Int) (by omega) (by omega)
  rw [rdOf_at l j hj, Int.toNat_natCast] at hx
  exact ⟨ad, e, hx⟩
theorem few_yes {l : List ByteArray} {n sz : Nat} (h : fewB l n sz = true) (hn : n ≤ 300) : l.length ≤ n ∧ ∀ s ∈ l, s.size ≤ sz := by
  unfold fewB at h
  rw [Bool.and_eq_true] at h
  have h1 := of_decide_eq_true h.2
  refine ⟨h1, fun s hs => ?_⟩
  rw [List.take_of_length_le (by omega)] at h
  exact of_decide_eq_true (List.all_eq_true.1 h.1 s hs)
theorem leaves_32 (l : List ByteArray) : A32 (leavesF l) := fun s hs => by
  obtain ⟨x, _, rfl⟩ := List.mem_map.1 hs
  exact leaf_size x
theorem leaves_len (l : List ByteArray) : (leavesF l).length = l.length := List.length_map _
end Go.Proofs.Ytondnammkcgjpaa.RgL
namespace Go.Proofs.Ytondnammkcgjpaa.Til
open Go Go.RowKit Go.Shelf Go.Proofs.YtondnammkcgjpaaW.PrintWords Go.Proofs.YtondnammkcgjpaaW.PrintLast Go.Proofs.YtondnammkcgjpaaW.PrintMore
open Go.Proofs.Ytondnammkcgjpaa.ShaP Go.Proofs.Ytondnammkcgjpaa.Mk
theorem cntv_in (n l : Int) : 0 ≤ cntv n l ∧ cntv n l ≤ 64 := by
  unfold cntv
  split
  · rename_i h; exact qv_in n h.1 h.2.1 _
  · omega
theorem cntv_out (n l : Int) (h : n < 0 ∨ 64 < n ∨ l < 0 ∨ 3 < l) : cntv n l = 0 := by
  unfold cntv
  have hl := ln_le n
  rw [if_neg]
  rintro ⟨h1, h2, h3, h4⟩
  omega
theorem cnt_pow : ∀ n : Nat, n < 65 → ∀ k : Nat, k < 4 → cntv n k = ((n / 4 ^ k : Nat) : Int) := by decide +kernel
def inTile (x i : Int) : Int := if x < 0 then 0 else max 0 (min (i - 4 * x) 4)
theorem inTile_in (x i : Int) : 0 ≤ inTile x i ∧ inTile x i ≤ 4 := by unfold inTile; split <;> omega
theorem inTile_step (x i : Int) (hi : 0 ≤ i) : inTile x (i + 1) = if i / 4 = x then inTile x i + 1 else inTile x i := by
  unfold inTile; split <;> split <;> omega
theorem power_c (k : Nat) (hk : k < 4) (w : World) : Calls Try.prog 57 #[.int .i64 (k : Int)] w fun e w' => e = .returned (.int .i64 ((4 ^ k : Nat) : Int)) ∧ w = w' := by
  have HK := Aside0.mk hk
  have hki : (k : Int) < 4 := by omega
  clear hk
  go_enter Try.func57, Try.ntmps57
  go_wp2
  go_loop [3, 4] (fun v3 v4 => ∃ i p : Nat, v4 = .int .i64 i ∧ v3 = .int .i64 p ∧ i ≤ k ∧ Aside0 (p = 4 ^ i)) (fun _ v4 => k - (intOf v4).toNat)
  case atStart => exact ⟨0, 1, rfl, rfl, Nat.zero_le _, ⟨rfl⟩⟩
  case round =>
    obtain ⟨i, p, rfl, rfl, hi, HP⟩ := hrel
    by_cases h1 : i < k
    · have h1i : (i : Int) < (k : Int) := by omega
      have HP2 : Aside0 (p * 4 = 4 ^ (i + 1)) := ⟨by rw [HP.out, Nat.pow_succ]⟩
      have hp : p ≤ 64 := by
        rw [HP.out]
        have := HK.out
        exact Nat.le_trans (Nat.pow_le_pow_right (by omega) (by omega : i ≤ 3)) (by decide)
      have hpi : (p : Int) * 4 ≤ 256 := by omega
      have hp0 : (0 : Int) ≤ (p : Int) * 4 := by omega
      clear HP hp
      go_wp2
      go_round
      case rel => exact ⟨i + 1, p * 4, by go_num, by go_num, by omega, HP2⟩
      case measure => simp [intOf]; omega
    · have h1i : ¬ (i : Int) < (k : Int) := by omega
      obtain rfl : i = k := by omega
      go_wp2
      go_ret
      exact ⟨by rw [HP.out]; rfl, rfl⟩
theorem rcount_c (n l : Int) (w : World) : Calls Try.prog 56 #[.int .i64 n, .int .i64 l] w fun e w' => e = .returned (.int .i64 (cntv n l)) ∧ w = w' := by
  by_cases h0 : n < 0
  · have HV := Aside0.mk (cntv_out n l (by omega))
    go_enter Try.func56, Try.ntmps56
    go_wp2
    go_ret
    exact ⟨by rw [HV.out]; rfl, rfl⟩
  by_cases h1 : 64 < n
  · have HV := Aside0.mk (cntv_out n l (by omega))
    go_enter Try.func56, Try.ntmps56
    go_wp2
    go_ret
    exact ⟨by rw [HV.out]; rfl, rfl⟩
  by_cases h2 : l < 0
  · have HV := Aside0.mk (cntv_out n l (by omega))
    go_enter Try.func56, Try.ntmps56
    go_wp2
    go_ret
    exact ⟨by rw [HV.out]; rfl, rfl⟩
  by_cases h3 : 3 < l
  · have HV := Aside0.mk (cntv_out n l (by omega))
    go_enter Try.func56, Try.ntmps56
    go_wp2
    go_ret
    exact ⟨by rw [HV.out]; rfl, rfl⟩
  obtain ⟨m, rfl⟩ : ∃ m : Nat, n = m := ⟨n.toNat, by omega⟩
  obtain ⟨k, rfl⟩ : ∃ k : Nat, l = k := ⟨l.toNat, by omega⟩
  have HV := Aside0.mk (cnt_pow m (by omega) k (by omega))
  have HPW := Aside0.mk (fun W => power_c k (by omega) W)
  have hp : 0 < 4 ^ k := Nat.pow_pos (by omega)
  obtain ⟨p, hpe⟩ : ∃ p, 4 ^ k = p := ⟨_, rfl⟩
  rw [hpe] at HPW HV hp
  have hq : Int.tdiv (m : Int) (p : Int) = ((m / p : Nat) : Int) := Int.ofNat_tdiv m p
  have hq2 : (m : Int) / (p : Int) = ((m / p : Nat) : Int) := rfl
  have hle := Nat.div_le_self m p
  obtain ⟨q, hqe⟩ : ∃ q, m / p = q := ⟨_, rfl⟩
  rw [hqe] at hq hq2 hle HV
  have hp0 : ¬ (p : Int) = 0 := by omega
  have hw : wrap64 (q : Int) = (q : Int) := by unfold wrap64; omega
  clear hpe hp hqe
  go_enter Try.func56, Try.ntmps56
  go_wp2_with (go_at_call 57; (with_reducible refine (HPW.out _).mono ?_); rintro e w_ ⟨rfl, rfl⟩)
  go_ret
  exact ⟨by rw [HV.out]; first | rfl | (rw [← hq2]; rfl) | (rw [← hw]; rfl) | (rw [← hw, ← hq2]; rfl), rfl⟩
theorem rwidth_c (n l x : Int) (w : World) : Calls Try.prog 25 #[.int .i64 n, .int .i64 l, .int .i64 x] w fun e w' => e = .returned (.int .i64 (inTile x (cntv n l))) ∧ w = w' := by
  obtain ⟨c, hc⟩ : ∃ c : Nat, cntv n l = c := ⟨(cntv n l).toNat, by have := cntv_in n l; omega⟩
  have hcl : (c : Int) ≤ 64 := by have := cntv_in n l; omega
  have HC := Aside0.mk (fun W => rcount_c n l W)
  rw [hc] at HC ⊢
  clear hc
  have z0 : inTile x 0 = 0 := by unfold inTile; split <;> omega
  have HZ := Aside0.mk z0
  clear z0
  go_enter Try.func25, Try.ntmps25
  go_wp2_with (go_at_call 56; (with_reducible refine (HC.out _).mono ?_); rintro e w_ ⟨rfl, rfl⟩)
  go_loop [8, 9] (fun v8 v9 => ∃ (i : Nat) (q : Int), v9 = .int .i64 i ∧ v8 = .int .i64 q ∧ i ≤ c ∧ 0 ≤ q ∧ q ≤ 64 ∧ Aside0 (q = inTile x i)) (fun _ v9 => c - (intOf v9).toNat)
  case atStart => exact ⟨0, 0, rfl, rfl, Nat.zero_le _, by omega, by omega, ⟨HZ.out.symm⟩⟩
  case round =>
    obtain ⟨i, q, rfl, rfl, hi, hq0, hq1, HQ⟩ := hrel
    by_cases h1 : i < c
    · have h1i : (i : Int) < (c : Int) := by omega
      have HS := Aside0.mk (inTile_step x (i : Int) (by omega))
      have HB := Aside0.mk (inTile_in x ((i : Int) + 1))
      by_cases h2 : (i : Int) / 4 = x
      · have HS2 : Aside0 (inTile x ((i : Int) + 1) = q + 1) := ⟨by rw [HS.out, if_pos h2, HQ.out]⟩
        have hq2 : q + 1 ≤ 64 := by have := HB.out; have := HS2.out; omega
        clear HS HB HQ
        go_wp2
        go_round
        case rel => exact ⟨i + 1, q + 1, by go_num, rfl, by omega, by omega, by omega, ⟨by rw [← HS2.out]; rfl⟩⟩
        case measure => simp [intOf]; omega
      · have HS2 : Aside0 (inTile x ((i : Int) + 1) = q) := ⟨by rw [HS.out, if_neg h2, HQ.out]⟩
        clear HS HB HQ
        go_wp2
        go_round
        case rel => exact ⟨i + 1, q, by go_num, rfl, by omega, by omega, by omega, ⟨HS2.out.symm⟩⟩
        case measure => simp [intOf]; omega
    · have h1i : ¬ (i : Int) < (c : Int) := by omega
      obtain rfl : i = c := by omega
      go_wp2
      go_ret
      exact ⟨by rw [← HQ.out]; rfl, rfl⟩
theorem width_c (n l x : Int) (w : World) : Calls Try.prog 50 #[.int .i64 n, .agg #[.int .i64 l, .int .i64 x]] w fun e w' => e = .returned (.int .i64 (inTile x (cntv n l))) ∧ Below w.heap.size w w' := by
  have OW := Aside0.mk (Mem.Own.nil w)
  have hci := cntv_in n l
  obtain ⟨c, hc⟩ : ∃ c, cntv n l = c := ⟨_, rfl⟩
  rw [hc] at hci ⊢
  obtain ⟨hc0, hc1⟩ := hci
  have HC := Aside0.mk (fun W => count_c n l c hc W)
  clear hc
  by_cases h0 : x < 0
  · have HV := Aside0.mk (show inTile x c = 0 from by unfold inTile; rw [if_pos h0])
    go_enter Try.func50, Try.ntmps50
    go_wp2_with ((with_reducible refine gate_dst (N := 3) rfl ?_); refine box_event ?hg (N := 3) ?hd (cs := #[.int .i64 l, .int .i64 x]) (t := 24) ?hr ?_; (case hd => rfl); (case hg => rfl); (case hr => first | (go_simp; done) | (go_simp; rfl)); intro gI hg W_ hb hbb; have x1 := (blk_cell hb 1).trans rfl; have n_ : Aside0 (Mem.Own w W_ [(gI, #[.int .i64 l, .int .i64 x], 24)]) := ⟨OW.out.new hg hb hbb⟩; clear OW hb hbb hg; have OW := n_; clear n_)
    go_ret
    exact ⟨by rw [HV.out]; rfl, OW.out.below⟩
  by_cases h1 : 64 < x
  · have HV := Aside0.mk (show inTile x c = 0 from by unfold inTile; rw [if_neg h0]; omega)
    go_enter Try.func50, Try.ntmps50
    go_wp2_with ((with_reducible refine gate_dst (N := 3) rfl ?_); refine box_event ?hg (N := 3) ?hd (cs := #[.int .i64 l, .int .i64 x]) (t := 24) ?hr ?_; (case hd => rfl); (case hg => rfl); (case hr => first | (go_simp; done) | (go_simp; rfl)); intro gI hg W_ hb hbb; have x1 := (blk_cell hb 1).trans rfl; have n_ : Aside0 (Mem.Own w W_ [(gI, #[.int .i64 l, .int .i64 x], 24)]) := ⟨OW.out.new hg hb hbb⟩; clear OW hb hbb hg; have OW := n_; clear n_)
    go_ret
    exact ⟨by rw [HV.out]; rfl, OW.out.below⟩
  have hv : inTile x c = max 0 (min (c - 4 * x) 4) := by unfold inTile; rw [if_neg h0]
  obtain ⟨x4, hx4⟩ : ∃ q, x * 4 = q := ⟨_, rfl⟩
  obtain ⟨d, hd⟩ : ∃ q, c - x4 = q := ⟨_, rfl⟩
  have hw4 : IntKind.i64.wrap x4 = x4 := by rw [i64_w]; unfold wrap64; omega
  have hwd : IntKind.i64.wrap d = d := by rw [i64_w]; unfold wrap64; omega
  have hw4' : wrap64 x4 = x4 := by unfold wrap64; omega
  have hwd' : wrap64 d = d := by unfold wrap64; omega
  have HV : Aside0 (inTile x c = min (max d 0) 4) := ⟨by rw [hv]; omega⟩
  clear hv
  go_enter Try.func50, Try.ntmps50
  go_wp2_with ((with_reducible refine gate_dst (N := 3) rfl ?_); refine box_event ?hg (N := 3) ?hd (cs := #[.int .i64 l, .int .i64 x]) (t := 24) ?hr ?_; (case hd => rfl); (case hg => rfl); (case hr => first | (go_simp; done) | (go_simp; rfl)); intro gI hg W_ hb hbb; have x0 := (blk_cell hb 0).trans rfl; have x1 := (blk_cell hb 1).trans rfl; have n_ : Aside0 (Mem.Own w W_ [(gI, #[.int .i64 l, .int .i64 x], 24)]) := ⟨OW.out.new hg hb hbb⟩; clear OW hb hbb hg; have OW := n_; clear n_)
  have OD := Aside0.mk OW.out.drew
  have c0 : W_.drew.cell? ⟨gI, 0, none⟩ = some (.int .i64 l) := (OD.out.cell 0 rfl 0).trans rfl
  have c1 : W_.drew.cell? ⟨gI, 1, none⟩ = some (.int .i64 x) := (OD.out.cell 0 rfl 1).trans rfl
  clear x0 x1 OW
  refine start_ (n := 11) (S := fun w' => Below (W_).drew.heap.size (W_).drew w') (ds := []) #[false, false, false, false, false, false, false, false, false, false, false] (by kernel_rfl) rfl rfl (Below.refl _ _) (fun hHeld => ?_)
  generalize (W_).drew = W0 at *
  refine pure_ (i := 0) (N := (some 13)) (v := ?_) (a' := ?_) #[true, false, false, false, false, false, false, false, false, false, false] rfl rfl (by kernel_rfl) (fun _ _ _ h => h) (Or.inl ⟨by rfl, ?_⟩) ?_ ?_
  rotate_left
  · intro w'
    go_simp
    first | done | with_reducible rfl
  rotate_left
  · simp only [Act.put, List.setIfInBounds_toArray, List.set_cons_zero, List.set_cons_succ, i64_w, i32_w]
    rfl
  refine pure_ (i := 1) (N := (some 14)) (v := ?_) (a' := ?_) #[true, true, false, false, false, false, false, false, false, false, false] rfl rfl (by kernel_rfl) (fun _ _ _ h => h) (Or.inl ⟨by rfl, ?_⟩) ?_ ?_
  rotate_left
  · intro w'
    go_simp
    first | done | with_reducible rfl
  rotate_left
  · simp only [Act.put, List.setIfInBounds_toArray, List.set_cons_zero, List.set_cons_succ, i64_w, i32_w]
    rfl
  refine take_ (i := 2) (N := (some 15)) (v := ?_) (a' := ?_) #[true, true, true, false, false, false, false, false, false, false, false] rfl rfl (by kernel_rfl) (fun _ _ _ h => h) (Or.inl ⟨by rfl, ?_⟩) hHeld ?_ ?_
  rotate_left
  · intro w' hS
    have s0 := pw_cell_below hS c0
    go_simp
    first | done | with_reducible rfl
  rotate_left
  · simp only [Act.put, List.setIfInBounds_toArray, List.set_cons_zero, List.set_cons_succ, i64_w, i32_w]
    rfl
  refine pure_ (i := 4) (N := (some 17)) (v := ?_) (a' := ?_) #[true, true, true, false, true, false, false, false, false, false, false] rfl rfl (by kernel_rfl) (fun _ _ _ h => h) (Or.inl ⟨by rfl, ?_⟩) ?_ ?_
  rotate_left
  · intro w'
    go_simp
    first | done | with_reducible rfl
  rotate_left
  · simp only [Act.put, List.setIfInBounds_toArray, List.set_cons_zero, List.set_cons_succ, i64_w, i32_w]
    rfl
  refine take_ (i := 5) (N := (some 18)) (v := ?_) (a' := ?_) #[true, true, true, false, true, true, false, false, false, false, false] rfl rfl (by kernel_rfl) (fun _ _ _ h => h) (Or.inl ⟨by rfl, ?_⟩) hHeld ?_ ?_
  rotate_left
  · intro w' hS
    have s0 := pw_cell_below hS c1
    go_simp
    first | done | with_reducible rfl
  rotate_left
  · simp only [Act.put, List.setIfInBounds_toArray, List.set_cons_zero, List.set_cons_succ, i64_w, i32_w]
    rfl
  refine pure_ (i := 6) (N := (some 19)) (v := ?_) (a' := ?_) #[true, true, true, false, true, true, true, false, false, false, false] rfl rfl (by kernel_rfl) (fun _ _ _ h => h) (Or.inl ⟨by rfl, ?_⟩) ?_ ?_
  rotate_left
  · intro w'
    go_simp
    first | done | with_reducible rfl
  rotate_left
  · simp only [Act.put, List.setIfInBounds_toArray, List.set_cons_zero, List.set_cons_succ, i64_w, i32_w]
    rfl
  refine one_ (i := 3) (N := (some 16)) #[true, true, true, true, true, true, true, false, false, false, false] rfl rfl (by kernel_rfl) (by decide) (fun K hK => ?_)
  refine goes_ Try.func45 (by kernel_rfl) rfl #[.int .i64 n, .int .i64 l] (by rfl) rfl rfl (by (try simp only [List.map_toArray, List.map_cons, List.map_nil]); first | done | rfl) ?_
  (with_reducible refine (HC.out _).mono ?_)
  rintro e wz ⟨rfl, hB⟩
  refine ⟨_, rfl, ?_⟩
  have hS2 : Below W0.heap.size W0 wz := below_step hHeld hB
  clear hB hHeld
  refine hK.out _ _ hS2 (fun hHeld => ?_)
  clear hK K
  refine norm_ (a' := ?_) ?_ ?_
  rotate_left
  · show Act.put _ (some 16) _ = _
    simp only [Act.put, List.setIfInBounds_toArray, List.set_cons_zero, List.set_cons_succ, i64_w, i32_w]
    rfl
  refine pure_ (i := 7) (N := (some 20)) (v := ?_) (a' := ?_) #[true, true, true, true, true, true, true, true, false, false, false] rfl rfl (by kernel_rfl) (fun _ _ _ h => h) (Or.inl ⟨by rfl, ?_⟩) ?_ ?_
  rotate_left
  · intro w'
    go_simp
    first | done | with_reducible rfl
  rotate_left
  · simp only [Act.put, List.setIfInBounds_toArray, List.set_cons_zero, List.set_cons_succ, i64_w, i32_w]
    rfl
  refine pure_ (i := 8) (N := (some 21)) (v := ?_) (a' := ?_) #[true, true, true, true, true, true, true, true, true, false, false] rfl rfl (by kernel_rfl) (fun _ _ _ h => h) (Or.inl ⟨by rfl, ?_⟩) ?_ ?_
  rotate_left
  · intro w'
    skip
    go_simp
    first | done | with_reducible rfl
  rotate_left
  · simp only [Act.put, List.setIfInBounds_toArray, List.set_cons_zero, List.set_cons_succ, i64_w, i32_w]
    rfl
  refine pure_ (i := 9) (N := (some 22)) (v := ?_) (a' := ?_) #[true, true, true, true, true, true, true, true, true, true, false] rfl rfl (by kernel_rfl) (fun _ _ _ h => h) (Or.inl ⟨by rfl, ?_⟩) ?_ ?_
  rotate_left
  · intro w'
    skip
    go_simp
    first | done | with_reducible rfl
  rotate_left
  · simp only [Act.put, List.setIfInBounds_toArray, List.set_cons_zero, List.set_cons_succ, i64_w, i32_w]
    rfl
  refine pure_ (i := 10) (N := (some 4)) (v := ?_) (a' := ?_) #[true, true, true, true, true, true, true, true, true, true, true] rfl rfl (by kernel_rfl) (fun _ _ _ h => h) (Or.inl ⟨by rfl, ?_⟩) ?_ ?_
  rotate_left
  · intro w'
    go_simp
    first | done | with_reducible rfl
  rotate_left
  · simp only [Act.put, List.setIfInBounds_toArray, List.set_cons_zero, List.set_cons_succ, i64_w, i32_w]
    rfl
  refine done_ (by kernel_rfl) ?_
  all_goals
    have OB := (OD.out.step hHeld).below
    go_wp2_with fail
    go_ret
    exact ⟨by rw [HV.out]; first | rfl | (simp only [mn, mx]; rfl), OB⟩
end Go.Proofs.Ytondnammkcgjpaa.Til

namespace Go.Proofs.Ytondnammkcgjpaa.Til
open Go Go.RowKit Go.Shelf Go.Proofs.YtondnammkcgjpaaW.PrintWords Go.Proofs.YtondnammkcgjpaaW.PrintLast Go.Proofs.YtondnammkcgjpaaW.PrintMore
open Go.Proofs.Ytondnammkcgjpaa.ShaP Go.Proofs.Ytondnammkcgjpaa.Mk Go.Proofs.Ytondnammkcgjpaa.Rg Go.Proofs.Ytondnammkcgjpaa.Rng Go.Proofs.Ytondnammkcgjpaa.Fun
attribute [local go_sem] Oper.semAt_some
def chN (A : Option Addr) (l : List ByteArray) : Nat → Nat → List (Option Addr × List ByteArray)
  | 0, _ => []
  | f + 1, i => if i < l.length then (A.map (·.add i), (l.take (min (i + 4) l.length)).drop i) :: chN A l f (i + 4) else []
end Go.Proofs.Ytondnammkcgjpaa.Til
namespace Go.Proofs.Ytondnammkcgjpaa.Til
open Go Go.RowKit Go.Shelf Go.Proofs.YtondnammkcgjpaaW.PrintWords Go.Proofs.YtondnammkcgjpaaW.PrintLast Go.Proofs.YtondnammkcgjpaaW.PrintMore
open Go.Proofs.Ytondnammkcgjpaa.ShaP Go.Proofs.Ytondnammkcgjpaa.Mk Go.Proofs.Ytondnammkcgjpaa.Rg Go.Proofs.Ytondnammkcgjpaa.Rng Go.Proofs.Ytondnammkcgjpaa.Fun Go.Proofs.Ytondnammkcgjpaa.RgP
attribute [local go_sem] Oper.semAt_some
def upP (pre : List (Option Addr × List ByteArray)) : List ByteArray := (pre.filter fun x => x.2.length == 4).map fun x => rootF x.2
def upF (l : List ByteArray) : List ByteArray := upP (chN none l l.length 0)
def levF : Nat → List ByteArray → List ByteArray
  | 0, l => l
  | k + 1, l => levF k (upF l)
theorem chN_mem (A : Option Addr) (l : List ByteArray) (x : Option Addr × List ByteArray) : ∀ f i, x ∈ chN A l f i → ∃ a b, a < b ∧ b ≤ l.length ∧ x = (A.map (·.add a), (l.take b).drop a)
  | 0, _, h => by cases h
  | f + 1, i, h => by
    rw [chN] at h
    split at h
    · rename_i hi
      rcases List.mem_cons.1 h with h | h
      · exact ⟨i, min (i + 4) l.length, by omega, by omega, h⟩
      · exact chN_mem A l x f (i + 4) h
    · cases h
theorem upF_32 (l : List ByteArray) (h : A32 l) (hl : l.length ≤ 64) : A32 (upF l) := fun s hs => by
  obtain ⟨x, hx, rfl⟩ := List.mem_map.1 hs
  obtain ⟨a, b, _, _, e⟩ := chN_mem _ _ _ _ _ (List.mem_filter.1 hx).1
  subst e
  have hm : A32 ((l.take b).drop a) := fun s hs => h s (List.mem_of_mem_take (List.mem_of_mem_drop hs))
  exact rootF_32 _ hm (by rw [List.length_drop, List.length_take]; omega)
end Go.Proofs.Ytondnammkcgjpaa.Til
namespace Go.Proofs.Ytondnammkcgjpaa.Til
open Go Go.RowKit Go.Shelf
open Go.Proofs.Ytondnammkcgjpaa.Mk Go.Proofs.Ytondnammkcgjpaa.Rg Go.Proofs.Ytondnammkcgjpaa.RgP
def seg (l : List ByteArray) (a n : Nat) : List ByteArray := (l.take (a + n)).drop a
theorem seg_len (l : List ByteArray) (a n : Nat) (h : a + n ≤ l.length) : (seg l a n).length = n := by unfold seg; rw [List.length_drop, List.length_take]; omega
theorem seg_take (l : List ByteArray) (a n m : Nat) (h : m ≤ n) : (seg l a n).take m = seg l a m := by
  unfold seg
  rw [List.take_drop, List.take_take]
  congr 2
  omega
theorem seg_drop (l : List ByteArray) (a n m : Nat) (h : m ≤ n) : (seg l a n).drop m = seg l (a + m) (n - m) := by
  unfold seg
  rw [List.drop_drop]
  congr 2
  omega
theorem up_get (l : List ByteArray) : ∀ f i j, l.length ≤ i + f → i + 4 * j + 4 ≤ l.length → (upP (chN none l f i))[j]? = some (rootF (seg l (i + 4 * j) 4))
  | 0, i, j, h, h2 => by omega
  | f + 1, i, j, h, h2 => by
    have hm : min (i + 4) l.length = i + 4 := by omega
    have hl4 : ((l.take (i + 4)).drop i).length = 4 := by rw [List.length_drop, List.length_take]; omega
    rw [chN, if_pos (by omega), hm]
    unfold upP
    rw [List.filter_cons, if_pos (by simp only [hl4]; rfl), List.map_cons]
    cases j with
    | zero => rw [List.getElem?_cons_zero, Nat.mul_zero, Nat.add_zero]; rfl
    | succ j =>
      rw [List.getElem?_cons_succ]
      have ih := up_get l f (i + 4) j (by omega) (by omega)
      unfold upP at ih
      rw [ih]
      congr 3
      omega
theorem up_len (l : List ByteArray) : ∀ f i, l.length ≤ i + f → (upP (chN none l f i)).length = (l.length - i) / 4
  | 0, i, h => by
    have : l.length - i = 0 := by omega
    rw [this]; rfl
  | f + 1, i, h => by
    have ih := up_len l f (i + 4) (by omega)
    rw [chN]
    split
    · rename_i hi
      unfold upP at ih ⊢
      rw [List.filter_cons]
      have hl : ((l.take (min (i + 4) l.length)).drop i).length = min (i + 4) l.length - i := by rw [List.length_drop, List.length_take]; omega
      split
      · rename_i hq
        rw [List.map_cons, List.length_cons, ih]
        have h4 : ((l.take (min (i + 4) l.length)).drop i).length = 4 := by simpa using hq
        rw [hl] at h4
        omega
      · rename_i hq
        rw [ih]
        have h4 : ¬ ((l.take (min (i + 4) l.length)).drop i).length = 4 := by simpa using hq
        rw [hl] at h4
        omega
    · rename_i hi
      have : l.length - i = 0 := by omega
      rw [this]; rfl
theorem upF_get (l : List ByteArray) (j : Nat) (h : 4 * j + 4 ≤ l.length) : (upF l)[j]? = some (rootF (seg l (4 * j) 4)) := by
  have h2 := up_get l l.length 0 j (by omega) (by omega)
  rw [Nat.zero_add] at h2
  exact h2
theorem upF_length (l : List ByteArray) : (upF l).length = l.length / 4 := by have := up_len l l.length 0 (by omega); rw [Nat.sub_zero] at this; exact this
theorem rootF_up (l : List ByteArray) (hl : l.length ≤ 64) : ∀ m a, m < 6 → 4 * a + 4 * 2 ^ m ≤ l.length → rootF (seg (upF l) a (2 ^ m)) = rootF (seg l (4 * a) (4 * 2 ^ m))
  | 0, a, _, h => by
    have hg := upF_get l a (by omega)
    have e : seg (upF l) a (2 ^ 0) = [rootF (seg l (4 * a) 4)] := by
      have hlt : a < (upF l).length := by rw [upF_length]; omega
      rw [List.getElem?_eq_getElem hlt] at hg
      unfold seg
      rw [Nat.pow_zero, List.take_succ_eq_append_getElem hlt, Option.some.inj hg, List.drop_left' (by rw [List.length_take]; omega)]
      rfl
    rw [e, rootF_one, Nat.pow_zero, Nat.mul_one]
  | m + 1, a, hm, h => by
    have hp : 2 ^ (m + 1) = 2 ^ m + 2 ^ m := by rw [Nat.pow_succ]; omega
    have hp0 : 0 < 2 ^ m := Nat.pow_pos (by omega)
    have hs1 : splitN (2 ^ (m + 1)) = 2 ^ m := split_two m (by omega)
    have hs2 : splitN (4 * 2 ^ (m + 1)) = 4 * 2 ^ m := by
      have h1 := split_two (m + 2) (by omega)
      have e1 : 2 ^ (m + 2 + 1) = 4 * 2 ^ (m + 1) := by simp only [Nat.pow_succ]; omega
      have e2 : 2 ^ (m + 2) = 4 * 2 ^ m := by simp only [Nat.pow_succ]; omega
      rw [e1, e2] at h1
      exact h1
    have hl1 : (seg (upF l) a (2 ^ (m + 1))).length = 2 ^ (m + 1) := seg_len _ _ _ (by rw [upF_length]; omega)
    have hl2 : (seg l (4 * a) (4 * 2 ^ (m + 1))).length = 4 * 2 ^ (m + 1) := seg_len _ _ _ h
    have i1 := rootF_up l hl m a (by omega) (by omega)
    have i2 := rootF_up l hl m (a + 2 ^ m) (by omega) (by omega)
    rw [rootF_split (seg (upF l) a (2 ^ (m + 1))) (by omega) (by omega), rootF_split (seg l (4 * a) (4 * 2 ^ (m + 1))) (by omega) (by omega), hl1, hl2, hs1, hs2,
      seg_take _ _ _ _ (by omega), seg_take _ _ _ _ (by omega), seg_drop _ _ _ _ (by omega), seg_drop _ _ _ _ (by omega), i1]
    have e3 : 2 ^ (m + 1) - 2 ^ m = 2 ^ m := by omega
    have e4 : 4 * 2 ^ (m + 1) - 4 * 2 ^ m = 4 * 2 ^ m := by omega
    have e5 : 4 * a + 4 * 2 ^ m = 4 * (a + 2 ^ m) := by omega
    rw [e3, e4, e5, i2]
def hashF (l : List ByteArray) (k j : Nat) : ByteArray := rootF (seg l (j * 4 ^ k) (4 ^ k))
theorem lev_len : ∀ (k : Nat) (l : List ByteArray), (levF k l).length = l.length / 4 ^ k
  | 0, l => by rw [levF, Nat.pow_zero, Nat.div_one]
  | k + 1, l => by rw [levF, lev_len k, upF_length, Nat.div_div_eq_div_mul, Nat.pow_succ, Nat.mul_comm]
theorem lev_get : ∀ (k : Nat) (l : List ByteArray) (j : Nat), k < 4 → l.length ≤ 64 → j * 4 ^ k + 4 ^ k ≤ l.length → (levF k l)[j]? = some (hashF l k j)
  | 0, l, j, _, _, h => by
    rw [Nat.pow_zero, Nat.mul_one] at h
    have hlt : j < l.length := by omega
    rw [levF, List.getElem?_eq_getElem hlt]
    unfold hashF seg
    rw [Nat.pow_zero, Nat.mul_one, List.take_succ_eq_append_getElem hlt, List.drop_left' (by rw [List.length_take]; omega), rootF_one]
  | k + 1, l, j, hk, hl, h => by
    have hp0 : 0 < 4 ^ k := Nat.pow_pos (by omega)
    have e1 : 4 ^ (k + 1) = 4 * 4 ^ k := by rw [Nat.pow_succ]; omega
    have e2 : j * 4 ^ (k + 1) = 4 * (j * 4 ^ k) := by rw [e1, Nat.mul_left_comm]
    rw [e2, e1] at h
    have hu := upF_length l
    have ih := lev_get k (upF l) j (by omega) (by omega) (by omega)
    rw [levF, ih]
    unfold hashF
    have e3 : 4 ^ k = 2 ^ (2 * k) := by rw [Nat.pow_mul]
    have hr := rootF_up l hl (2 * k) (j * 4 ^ k) (by omega) (by rw [← e3]; omega)
    rw [← e3] at hr
    rw [hr, e2, e1]
end Go.Proofs.Ytondnammkcgjpaa.Til
namespace Go.Proofs.Ytondnammkcgjpaa.Til
open Go Go.RowKit Go.Shelf Go.Proofs.YtondnammkcgjpaaW.PrintWords Go.Proofs.YtondnammkcgjpaaW.PrintLast Go.Proofs.YtondnammkcgjpaaW.PrintMore
open Go.Proofs.Ytondnammkcgjpaa.ShaP Go.Proofs.Ytondnammkcgjpaa.Mk Go.Proofs.Ytondnammkcgjpaa.Rg Go.Proofs.Ytondnammkcgjpaa.Rng Go.Proofs.Ytondnammkcgjpaa.RgP
theorem width_pos (n : Nat) (hn : n ≤ 64) (lv ix : Int) (h : inTile ix (cntv n lv) ≠ 0) : ∃ k i m : Nat, lv = k ∧ ix = i ∧ k < 4 ∧ i ≤ 16 ∧ inTile ix (cntv n lv) = m ∧ 0 < m ∧ m ≤ 4 ∧ 4 * i + m ≤ n / 4 ^ k := by
  have h1 := inTile_in ix (cntv n lv)
  have hci := cntv_in n lv
  have hlv : 0 ≤ lv ∧ lv ≤ 3 := by
    by_cases hh : lv < 0 ∨ 3 < lv
    · exact absurd (by rw [cntv_out n lv (by omega)]; unfold inTile; split <;> omega) h
    · omega
  obtain ⟨k, rfl⟩ : ∃ k : Nat, lv = k := ⟨lv.toNat, by omega⟩
  have hcp := cnt_pow n (by omega) k (by omega)
  have hx0 : 0 ≤ ix := by
    by_cases hh : ix < 0
    · exact absurd (by unfold inTile; rw [if_pos hh]) h
    · omega
  obtain ⟨i, rfl⟩ : ∃ i : Nat, ix = i := ⟨ix.toNat, by omega⟩
  rw [hcp] at h h1 hci ⊢
  obtain ⟨q, hq⟩ : ∃ q, n / 4 ^ k = q := ⟨_, rfl⟩
  rw [hq] at h h1 hci ⊢
  have e : inTile (i : Int) (q : Int) = max 0 (min ((q : Int) - 4 * (i : Int)) 4) := by unfold inTile; rw [if_neg (by omega)]
  rw [e] at h h1 ⊢
  exact ⟨k, i, (max 0 (min ((q : Int) - 4 * (i : Int)) 4)).toNat, rfl, rfl, by omega, by omega, by omega, by omega, by omega, by rw [hq]; omega⟩
end Go.Proofs.Ytondnammkcgjpaa.Til
namespace Go.Proofs.Ytondnammkcgjpaa.Til
open Go Go.Proofs Go.RowKit Go.Shelf
attribute [local go_sem] Oper.semAt_some

def rowK (lv : Int) (k : Nat) : List (Int × Int) := (List.range k).map fun (i : Nat) => (lv, (i : Int))
theorem rowK_succ (lv : Int) (k : Nat) : rowK lv (k + 1) = rowK lv k ++ [(lv, (k : Int))] := by simp [rowK, List.range_succ]
theorem rowK_len (lv : Int) (k : Nat) : (rowK lv k).length = k := by simp [rowK]
def nt (c : Int) : Nat := ((c + 3) / 4).toNat
def rowL (x : Lv) : List (Int × Int) := rowK x.1.1 (nt x.1.2)
def planL : List Lv → List (Int × Int) := List.foldl (fun l x => rowL x ++ l) []
theorem planL_snoc (pre : List Lv) (x : Lv) : planL (pre ++ [x]) = rowL x ++ planL pre := by simp [planL]
theorem nt_le (x : Lv) : nt x.1.2 ≤ 16 := by have := x.2; unfold nt; omega
theorem planL_len (pre : List Lv) : (planL pre).length ≤ 16 * pre.length := by
  suffices h : ∀ (l : List Lv) (acc : List (Int × Int)), (l.foldl (fun l x => rowL x ++ l) acc).length ≤ 16 * l.length + acc.length by
    have := h pre []; simpa [planL] using this
  intro l
  induction l with
  | nil => intro acc; simp
  | cons x l ih =>
    intro acc; rw [List.foldl_cons]; have h1 := ih (rowL x ++ acc); have h2 := nt_le x; have h3 : (rowL x ++ acc).length = nt x.1.2 + acc.length := by rw [List.length_append, rowL, rowK_len]
    simp only [List.length_cons]; omega
def idc (l : List (Int × Int)) : List Value := l.flatMap fun p => [.int .i64 p.1, .int .i64 p.2]
theorem idc_app (a b : List (Int × Int)) : idc (a ++ b) = idc a ++ idc b := by simp [idc]
theorem idc_one (l : List (Int × Int)) : ∀ u ∈ idc l, u.oneCell' = true := by
  intro u hu
  obtain ⟨p, _, hp⟩ := List.mem_flatMap.1 hu
  rcases List.mem_cons.1 hp with rfl | hp
  · rfl
  · rw [List.mem_singleton.1 hp]; rfl

theorem infoID : (Try.prog.info? 24).map (fun i => (i.zero, i.size, i.bytes)) = some (some (.agg #[.int .i64 0, .int .i64 0]), 2, 16) := by kernel_rfl

theorem two_new (w : World) (u v : Value) (t : TypeId) : ∀ j x, ([u, v] : List Value)[j]? = some x → (w.alloc (.cells #[u, v] t)).cell? ((⟨w.heap.size, 0, none⟩ : Addr).add j) = some x := by
  intro j x hx
  match j, hx with
  | 0, hx => obtain rfl : u = x := by simpa using hx
             simp [Addr.add]
  | 1, hx => obtain rfl : v = x := by simpa using hx
             simp [Addr.add]
  | j + 2, hx => simp at hx

theorem row_more {W wr w1 : World} {B0 : Nat} {v : Value} {k : Nat} {xs : List Value} {tmp : Obj} (hrow : wr.ownsRow W.heap.size 24 2 v k xs) (hb : Below W.heap.size W wr) (hk : KeepsFrom B0 W wr)
    (hg : (wr.alloc tmp).grownBy w1 v.ownBlock) : Below W.heap.size W w1 ∧ KeepsFrom B0 W w1 := by
  refine ⟨(hb.alloc hb.size tmp).grown hg (by have := hb.size; simp; omega) (fun j ej => (hrow.lt j ej).1), hk.trans (((KeepsOthers.alloc wr tmp).trans (KeepsOthers.of_grownBy hg fun j o ej hj => ?_)).from B0)⟩
  rcases (hrow.alloc tmp).2 with ⟨rfl, _⟩ | ⟨g, cap, cur, rfl, _, hgb, _⟩
  · simp [Value.ownBlock] at ej
  · obtain rfl : g = j := by simpa [Value.ownBlock] using ej
    rw [hgb] at hj; cases hj; rfl

theorem box_more {W wr w1 : World} {B0 base Bo : Nat} {v v2 vo : Value} {k m : Nat} {xs ys : List Value} (hbase : base ≤ W.heap.size) (hBo : base ≤ Bo) (hvo : Boxed W Bo 88 vo)
    (hrow : wr.ownsRow W.heap.size 24 2 v k xs) (hb : Below W.heap.size W wr) (hk : KeepsFrom B0 W wr) (hown : w1.ownsRow W.heap.size 24 2 v2 m ys) (hg : wr.grownBy w1 v.ownBlock) :
    Boxed w1 Bo 88 vo ∧ Boxed (w1.setCell ⟨Bo, 0, none⟩ v2) Bo 88 v2 ∧ (w1.setCell ⟨Bo, 0, none⟩ v2).ownsRow base 24 2 v2 m ys ∧ KeepsFrom B0 W (w1.setCell ⟨Bo, 0, none⟩ v2) ∧ Below base W (w1.setCell ⟨Bo, 0, none⟩ v2) ∧ Below W.heap.size W w1 := by
  have h1 : Below W.heap.size W w1 := hb.grown hg hb.size (fun j ej => (hrow.lt j ej).1)
  have h2 : Boxed w1 Bo 88 vo := (h1.block Bo hvo.lt).trans hvo
  refine ⟨h2, h2.set v2, own_mono (hown.kept (grownBy_setCell' w1 Bo v2) (.inr ?_)) hbase, (hk.trans ((KeepsOthers.of_grownBy hg fun j o ej hj => ?_).from B0)).trans ((KeepsOthers.setCell _ _ _).from B0), (h1.mono hbase).setCell (p := ⟨Bo, 0, none⟩) hBo v2, h1⟩
  · intro e
    have := hown.lt Bo e
    have := hvo.lt
    omega
  · rcases hrow.2 with ⟨rfl, _⟩ | ⟨g, cap, cur, rfl, _, hgb, _⟩
    · simp [Value.ownBlock] at ej
    · obtain rfl : g = j := by simpa [Value.ownBlock] using ej
      rw [hgb] at hj; cases hj; rfl

theorem own_slice {w : World} {b e size : Nat} {v : Value} {n : Nat} {xs : List Value} (h : w.ownsRow b e size v n xs) : ∃ A m c, v = .slice A m c := by
  rcases h.2 with ⟨rfl, _⟩ | ⟨g, cap, cur, rfl, _⟩
  · exact ⟨_, _, _, rfl⟩
  · exact ⟨_, _, _, rfl⟩
theorem own_boxRow (base Bo : Nat) : Own (fun (pre : List Lv) W => ∃ v, Boxed W Bo 88 v ∧ W.ownsRow base 24 2 v (planL pre).length (idc (planL pre))) := by
  intro s A A2 row hs hg hr
  obtain ⟨v, h1, h2, _⟩ := holdsRow_own base Bo 88 24 2 (fun (pre : List Lv) => (planL pre).length) (fun pre => idc (planL pre)) (fun _ _ => True) s A A2 row (by obtain ⟨v, h1, h2⟩ := hs; exact ⟨v, h1, h2, trivial⟩) hg hr
  exact ⟨v, h1, h2⟩

def planF (n : Int) : List (Int × Int) := if 0 ≤ n ∧ n ≤ 64 then planL (lvs n (ln n)) else []

theorem plan_in (n : Int) (h0 : 0 ≤ n) (h1 : n ≤ 64) (w : World) : CallsIn Fence.wide 3 Try.prog 46 #[.int .i64 n] w fun e w' => ∃ v, e = .returned v ∧ w'.ownsRow w.heap.size 24 2 v (planL (lvs n (ln n))).length (idc (planL (lvs n (ln n)))) ∧ Below w.heap.size w w' := by
  obtain ⟨i0, hi, hz0, hz1, hz2⟩ := info_parts infoID
  have hin : inB n = true := by simp [inB, h0, h1]
  have HPO := Lib.hid (fun W => in_c n true hin W)
  have HL := Lib.hid (levels_c n)
  clear hin
  refine callsIn_of_wp_marks Try.func46 rfl trivial ?_ rfl
  simp only [Try.ntmps46, List.size_toArray, List.length_cons, List.length_nil, Nat.reduceAdd, Nat.reduceSub, Array.replicate_succ, Array.replicate_zero, List.push_toArray, List.append_toArray, List.nil_append, List.cons_append]
  gi_wp2_with (first | (refine ⟨trivial, ?_⟩; gi_at_call 73; refine (callsIn_wide.2 (HPO.out _)).mono ?_; rintro e w' ⟨rfl, rfl⟩) | (refine ⟨trivial, ?_⟩; gi_at_call 74; refine (callsIn_wide.2 (HL.out _)).mono ?_; rintro e w' ⟨rfl, rfl⟩))
  have bO := Boxed.new w 88 (.slice none 0 0)
  have bN := Boxed.new (w.alloc (.cells #[.slice none 0 0] 88)) 3 (.int .i64 n)
  rw [World.size_alloc] at bN
  have hB0 : Below w.heap.size w ((w.alloc (.cells #[.slice none 0 0] 88)).alloc (.cells #[.int .i64 n] 3)) := ((Below.refl _ w).alloc (Nat.le_refl _) _).alloc (by simp) _
  have bO2 := bO.alloc (.cells #[.int .i64 n] 3)
  have hsz : ((w.alloc (.cells #[.slice none 0 0] 88)).alloc (.cells #[.int .i64 n] 3)).heap.size = w.heap.size + 2 := by simp
  obtain ⟨W0, hW0⟩ : ∃ W0, (w.alloc (.cells #[.slice none 0 0] 88)).alloc (.cells #[.int .i64 n] 3) = W0 := ⟨_, rfl⟩
  rw [hW0] at hB0 bO2 hsz bN ⊢
  clear hW0 bO
  refine range_cell (α := Lv) (encs := enc2) (N := 4) (Bn := w.heap.size + 1) (Kp := Keep1 (w.heap.size + 1)) rfl (Nat.le_add_left 1 2) (gf := 100) (lb := #[.pointer (some ⟨w.heap.size + 1, 0, none⟩)]) rfl trivial (enters_of Try.func100 (by kernel_rfl) rfl)
    (levels1 Fence.wide 2 trivial rfl (by omega) (w.heap.size + 1) n h0 h1 W0 (by rw [hsz]; omega) bN) keep1_t
    (fun V l o o2 hl h hc => keep1_b (Bn := w.heap.size + 1) (B0 := w.heap.size + 2) (by omega) V l o o2 (by rw [hsz] at hl; exact hl) h hc) (Below.refl _ _) (fun _ => rfl)
    (fun (pre : List Lv) W => (∃ v, Boxed W w.heap.size 88 v ∧ W.ownsRow w.heap.size 24 2 v (planL pre).length (idc (planL pre))) ∧ Below w.heap.size w W ∧ ∃ u, Boxed W (w.heap.size + 1) 3 u)
    (fun _ _ _ => False)
    (OwnFrom.and (Own.from (own_boxRow _ _) _) (OwnFrom.and (ownFrom_below (Nat.le_refl _) (by rw [hsz]; omega)) (Own.from (fun s A A2 row hs hg hr => by obtain ⟨u, hu⟩ := hs; exact ⟨u, own_boxed _ _ _ [] A A2 row hu hg hr⟩) _)))
    (fun _ _ _ _ _ hs _ _ => hs)
    (fun s A v hs => by
      obtain ⟨⟨u, b1, r1⟩, hB, z, hz⟩ := hs
      exact ⟨⟨u, b1.other (by omega) v, r1.kept (grownBy_setCell' A (w.heap.size + 1) v) (.inr (hz.not_row (by decide) r1).symm)⟩, hB.setCell (p := ⟨w.heap.size + 1, 0, none⟩) (by show w.heap.size ≤ w.heap.size + 1; omega) v, v, hz.set v⟩)
    ⟨⟨_, bO2, World.ownsRow_nil _ _ _ _⟩, hB0, _, bN⟩
    (fun x => { tmps := #[.int .i64 n, undef, .slice none 0 0, .pointer (some ⟨w.heap.size, 0, none⟩), .int .i64 x.1.1, .int .i64 x.1.2, undef, undef, .int .i64 n, .bool true, .bool false, .int .i64 n, .func (.func 100) #[] #[.pointer (some ⟨w.heap.size + 1, 0, none⟩)], .int .i64 x.1.1, .int .i64 x.1.2, undef, undef, undef, undef, undef, undef, undef, undef, undef, undef, undef, undef, undef, undef, undef, undef], defers := [] }) ?assign ?body ?done ?stop
  case assign =>
    intro l x W K hK
    gi_wp2
    exact hK
  case body =>
    rintro l pre x W ⟨⟨vo, bo, hro⟩, hB, z, hz⟩ hlen
    have hx := x.2
    have hpl := planL_len pre
    have hnt := nt_le x
    gi_wp2
    gi_loopw [6, 7] (fun v i wr => ∃ k : Nat, k ≤ nt x.1.2 ∧ i = .int .i64 k ∧ wr.ownsRow W.heap.size 24 2 v k (idc (rowK x.1.1 k)) ∧ Below W.heap.size W wr ∧ KeepsFrom (w.heap.size + 2) W wr) (fun _ i _ => 16 - (intOf i).toNat)
    case atStart => exact ⟨0, Nat.zero_le _, rfl, World.ownsRow_nil _ _ _ _, Below.refl _ _, KeepsFrom.refl _ _⟩
    case round =>
      obtain ⟨k, hk, rfl, hrow, hbW, hkW⟩ := hrel
      have bo2 : Boxed wr w.heap.size 88 vo := (hbW.block _ bo.lt).trans bo
      have hwW := hbW.size
      have hww := hB.size
      by_cases hlt : (k : Int) * 4 < x.1.2
      · have hkn : k < nt x.1.2 := by unfold nt; omega
        gi_wp2_with (gi_at_builtin; refine wpListIn_append_own _ rfl (.tmp 21) (.tmp 25) 88 rfl W.heap.size 24 i0 (.agg #[.int .i64 0, .int .i64 0]) 2 16 Try.underlying88 hi hz0 hz1 hz2 rfl (by decide) _ _ _ rfl (hrow.alloc _) ⟨wr.heap.size, 0, none⟩ 1 1 [.int .i64 x.1.1, .int .i64 k] rfl rfl (two_new _ _ _ _) (by simp [Value.oneCell']) (by simp only [maxLen]; omega) (by omega) (by simp; omega) ?_; intro v2 w1 hown2 hgrow _)
        go_roundw
        case rel =>
          obtain ⟨r1, r2⟩ := row_more hrow hbW hkW hgrow
          exact ⟨k + 1, by omega, by go_num, by rw [rowK_succ, idc_app]; simpa [idc] using hown2, r1, r2⟩
        case measure => simp [intOf]; omega
      · have hkn : k = nt x.1.2 := by unfold nt at *; omega
        have hco := bo2.cell
        have hro2 := own_below hro rfl hbW
        gi_wp2_with (gi_at_builtin; refine append_two _ rfl (.tmp 27) (.tmp 28) 88 rfl W.heap.size 24 i0 (.agg #[.int .i64 0, .int .i64 0]) 2 16 Try.underlying88 hi hz0 hz1 hz2 rfl (by decide) _ _ _ rfl hrow _ _ _ _ rfl hro2 (idc_one _) (by simp only [maxLen]; omega) (by omega) hwW ?_; intro v2 w1 hown2 hgrow; obtain ⟨A2, m2, q2, rfl⟩ := own_slice hown2; obtain ⟨c1, c2, c3, c4, c5, c6⟩ := box_more (B0 := w.heap.size + 2) hww (Nat.le_refl _) bo hrow hbW hkW hown2 hgrow; have hcn := c1.cell; have hfn := c1.frozen)
        refine ⟨c4, fun u hu => ?_, ⟨⟨_, c2, ?_⟩, hB.trans c5, z, ?_⟩⟩
        · exact Boxed.other ((c6.block _ hu.lt).trans hu) (by omega) _
        · rw [planL_snoc, idc_app, List.length_append, rowL, rowK_len, ← hkn]; exact c3
        · exact Boxed.other ((c6.block _ hz.lt).trans hz) (by omega) _
  case done =>
    rintro D xs W hD rfl ⟨⟨v, hv, hrow⟩, hB, _⟩ hK
    have hc := hv.cell
    gi_wp2
    refine ⟨by simp, .inl ⟨_, _, rfl, run_takeDeferred hK, ?_⟩⟩
    exact ⟨_, results_tmp rfl _ _ _, v, rfl, ownsRow_putObj hrow _ hK rfl, hB.trans (belowK_b (w := w) (Nat.le_refl _) W D _ _ (by rw [hsz] at hD; omega) hK rfl rfl)⟩
  case stop =>
    rintro D c pre W _ _ h _
    exact h.elim

theorem plan_c (n : Int) (w : World) : Calls Try.prog 46 #[.int .i64 n] w fun e w' => ∃ v, e = .returned v ∧ w'.ownsRow w.heap.size 24 2 v (planF n).length (idc (planF n)) ∧ Below w.heap.size w w' := by
  by_cases h : 0 ≤ n ∧ n ≤ 64
  · rw [planF, if_pos h]; exact callsIn_wide.1 (plan_in n h.1 h.2 w)
  · have HV := Lib.hid (show planF n = [] from if_neg h)
    have HPO := Lib.hid (fun W => in_c n false (by simp [inB]; omega) W)
    clear h
    go_enter Try.func46, Try.ntmps46
    go_wp2_with (go_at_call 73; refine (HPO.out _).mono ?_; rintro e w' ⟨rfl, rfl⟩)
    go_ret
    exact ⟨_, rfl, by rw [HV.out]; exact World.ownsRow_nil _ _ _ _, (Below.refl _ w).alloc (Nat.le_refl _) _⟩
end Go.Proofs.Ytondnammkcgjpaa.Til
namespace Go.Proofs.Ytondnammkcgjpaa.Til
open Go Go.RowKit Go.Shelf Go.Proofs.YtondnammkcgjpaaW.PrintWords Go.Proofs.YtondnammkcgjpaaW.PrintLast Go.Proofs.YtondnammkcgjpaaW.PrintMore
open Go.Proofs.Ytondnammkcgjpaa.ShaP Go.Proofs.Ytondnammkcgjpaa.Mk Go.Proofs.Ytondnammkcgjpaa.Rg Go.Proofs.Ytondnammkcgjpaa.Rng Go.Proofs.Ytondnammkcgjpaa.RgP Go.Proofs.Ytondnammkcgjpaa.Rf
def tileF (L : List ByteArray) (lv ix : Int) : List ByteArray :=
  if inTile ix (cntv L.length lv) = 0 then [] else (List.range (inTile ix (cntv L.length lv)).toNat).map fun t => hashF L lv.toNat (4 * ix.toNat + t)
theorem tileF_len (L : List ByteArray) (lv ix : Int) : ((tileF L lv ix).length : Int) = inTile ix (cntv L.length lv) := by
  have := inTile_in ix (cntv L.length lv)
  unfold tileF
  split
  · rename_i h; rw [h]; rfl
  · rw [List.length_map, List.length_range]; omega
theorem seg_hash (L : List ByteArray) (k i m : Nat) (hk : k < 4) (hl : L.length ≤ 64) (hfit : 4 * i + m ≤ L.length / 4 ^ k) : seg (levF k L) (4 * i) m = (List.range m).map fun t => hashF L k (4 * i + t) := by
  have hll := lev_len k L
  have hsl := seg_len (levF k L) (4 * i) m (by rw [hll]; exact hfit)
  refine List.ext_getElem? fun t => ?_
  by_cases ht : t < m
  · have hp0 : 0 < 4 ^ k := Nat.pow_pos (by omega)
    have h1 : (4 * i + t + 1) * 4 ^ k ≤ L.length := Nat.le_trans (Nat.mul_le_mul_right _ (by omega : 4 * i + t + 1 ≤ L.length / 4 ^ k)) (Nat.div_mul_le_self _ _)
    have hg := lev_get k L (4 * i + t) hk hl (by rw [Nat.add_mul, Nat.one_mul] at h1; exact h1)
    rw [List.getElem?_map, List.getElem?_range ht]
    unfold seg
    rw [List.getElem?_drop, List.getElem?_take, if_pos (by omega), hg]
    rfl
  · rw [List.getElem?_eq_none (by omega), List.getElem?_eq_none (by rw [List.length_map, List.length_range]; omega)]
theorem few6440 (A : Option Addr) (c : Nat) (l : List ByteArray) (w : World) (hr : Kd.C Kd.string w A l.length l) :
    Calls Try.prog 15 #[.slice A l.length c, .int .i64 64, .int .i64 40] w fun e w' => e = .returned (.bool (fewB l 64 40)) ∧ w = w' := few_c A c l 64 40 w (by omega) (by omega) hr
theorem up_some (A : Option Addr) (c : Nat) (x0 x1 : Int) (sg : List ByteArray) (w : World) (hs : Sm sg) (hn : sg.length = 4) (hc : 4 ≤ c) (hr : Kd.C Kd.string w A 4 sg) :
    Calls Try.prog 27 #[.agg TV, .agg #[.int .i64 x0, .int .i64 x1, .slice A 4 c]] w fun e w' => e = .returned (.tuple #[.string (rootF sg), .int .i64 0]) ∧ Below w.heap.size w w' := by
  have OW := Aside0.mk (Mem.Own.nil w)
  have HI := Aside0.mk info_tab
  have HR := Aside0.mk hr
  have HRT := Aside0.mk (fun W h => root_c 100000 A c sg W (by omega) (by omega) hs (by omega) h)
  rw [hn] at HRT
  have hfold : rootN 100000 sg = rootF sg := rfl
  rw [hfold] at HRT
  clear hr hs hn hc hfold
  go_enter Try.func27, Try.ntmps27
  go_wp2_with (first
    | ((with_reducible refine gate_dst (N := 2) rfl ?_); refine box_event ?hg (N := 2) ?hd (cs := TV) (t := 31) ?hr ?_; (case hd => rfl); (case hg => rfl); (case hr => first | (go_simp; done) | (go_simp; rfl)); intro gT hg W_ hb hbb; have n_ : Aside0 (Mem.Own w W_ [(gT, TV, 31)]) := ⟨OW.out.new hg hb hbb⟩; clear OW hb hbb hg; have OW := n_; clear n_)
    | ((with_reducible refine gate_dst (N := 3) rfl ?_); refine box_event ?hg (N := 3) ?hd (cs := #[.int .i64 x0, .int .i64 x1, .slice A 4 c]) (t := 35) ?hr ?_; (case hd => rfl); (case hg => rfl); (case hr => first | (go_simp; done) | (go_simp; rfl)); intro gX hg W_ hb hbb; have d2 := (blk_cell hb 2).trans rfl; have n_ : Aside0 (Mem.Own w W_ [(gT, TV, 31), (gX, #[.int .i64 x0, .int .i64 x1, .slice A 4 c], 35)]) := ⟨OW.out.new hg hb hbb⟩; clear OW hb hbb hg; have OW := n_; clear n_)
    | ((with_reducible refine gate_dst (N := 10) rfl ?_); refine wpList_load_row rfl 31 (.tmp 2) rfl gT rfl 31 TV (0, 0) _ (OW.out.blk 0 rfl) Try.underlying31 rfl HI.out ?_)
    | (go_at_call 30; (with_reducible refine (HRT.out _ (Kd.C_below HR.out OW.out.below)).mono ?_); rintro e w_ ⟨rfl, hB⟩; have n_ := Aside0.mk (OW.out.step hB); clear OW hB d2; have OW := n_; clear n_))
  go_ret2
  exact ⟨rfl, OW.out.below⟩
theorem rhash_c (A : Option Addr) (c : Nat) (L : List ByteArray) (k j : Nat) (w : World) (hk : k < 4) (hl : L.length ≤ 64) (h32 : A32 L) (hfit : j * 4 ^ k + 4 ^ k ≤ L.length) (hc : L.length ≤ c) (hr : Kd.C Kd.string w A L.length L) :
    Calls Try.prog 26 #[.slice A L.length c, .int .i64 (k : Int), .int .i64 (j : Int)] w fun e w' => e = .returned (.string (hashF L k j)) ∧ Below w.heap.size w w' := by
  have HPW := Aside0.mk (fun W => power_c k hk W)
  have hp0 : 0 < 4 ^ k := Nat.pow_pos (by omega)
  obtain ⟨p, hp⟩ : ∃ p, 4 ^ k = p := ⟨_, rfl⟩
  have hh : hashF L k j = rootF ((L.take (j * p + p)).drop (j * p)) := by unfold hashF seg; rw [hp]
  rw [hp] at HPW hfit hp0
  obtain ⟨a, ha⟩ : ∃ a, j * p = a := ⟨_, rfl⟩
  obtain ⟨b, hb⟩ : ∃ b, a + p = b := ⟨_, rfl⟩
  rw [ha, hb] at hh hfit
  obtain ⟨A2, hcut, hC2, hc2⟩ := cut_mid A c L a b (by omega) hfit hc
  have s32 : A32 ((L.take b).drop a) := fun s hs => h32 s (List.mem_of_mem_take (List.mem_of_mem_drop hs))
  have l2 : ((L.take b).drop a).length ≤ 64 := by rw [List.length_drop, List.length_take]; omega
  have CS := Aside0.mk (hC2 w hr)
  rw [hh]
  generalize (L.take b).drop a = sg at *
  have HRT := Aside0.mk (fun W h => rfroot_c 100000 A2 (c - a) sg W (by omega) l2 s32.sm hc2 h)
  have hfold : rootN 100000 sg = rootF sg := rfl
  rw [hfold] at HRT
  have hbi : (a : Int) + (p : Int) = (b : Int) := by rw [← hb]; rfl
  have hb64 : b ≤ 64 := Nat.le_trans hfit hl
  have ha64 : a ≤ 64 := by rw [← hb] at hb64; exact Nat.le_trans (Nat.le_add_right a p) hb64
  have hw (x : Nat) (hx : x ≤ 64) : wrap64 (x : Int) = (x : Int) := by unfold wrap64; clear hr hcut hC2 hc2 hh hfit; omega
  have hwb := hw b hb64
  have hwa := hw a ha64
  have hai : (j : Int) * (p : Int) = (a : Int) := by rw [← ha]; exact (Int.natCast_mul j p).symm
  clear hw hb64 ha64
  clear hk hl h32 hfit hc hr hp0 hp hh ha hb hC2 hc2 s32 l2 hfold
  go_enter Try.func26, Try.ntmps26
  go_wp2_with (first
    | (go_at_call 57; (with_reducible refine (HPW.out _).mono ?_); rintro e w_ ⟨rfl, rfl⟩)
    | (go_at_call 36; (with_reducible refine (HRT.out _ CS.out).mono ?_); rintro e w1 ⟨rfl, hB⟩))
  go_ret
  exact ⟨rfl, hB⟩
end Go.Proofs.Ytondnammkcgjpaa.Til

namespace Go.Proofs.Ytondnammkcgjpaa.Til
open Go Go.RowKit Go.Shelf
open Go.Proofs.Ytondnammkcgjpaa.Mk Go.Proofs.Ytondnammkcgjpaa.Rg Go.Proofs.Ytondnammkcgjpaa.RgP
theorem lev_up : ∀ (k : Nat) (l : List ByteArray), levF (k + 1) l = upF (levF k l)
  | 0, l => rfl
  | k + 1, l => by rw [levF, lev_up k (upF l)]; rfl
theorem up_hash (L : List ByteArray) (k i : Nat) (hk : k < 4) (hl : L.length ≤ 64) (h : 4 * i + 4 ≤ L.length / 4 ^ k) : k < 3 ∧ i + 1 ≤ L.length / 4 ^ (k + 1) ∧ rootF ((List.range 4).map fun t => hashF L k (4 * i + t)) = hashF L (k + 1) i := by
  have hk3 : k < 3 := by
    rcases Nat.lt_or_ge k 3 with h3 | h3
    · exact h3
    · obtain rfl : k = 3 := by omega
      have : L.length / 4 ^ 3 ≤ 64 / 4 ^ 3 := Nat.div_le_div_right hl
      have e : 64 / 4 ^ 3 = 1 := by decide
      omega
  have hdiv : L.length / 4 ^ (k + 1) = L.length / 4 ^ k / 4 := by rw [Nat.pow_succ, Nat.div_div_eq_div_mul]
  have hi : i + 1 ≤ L.length / 4 ^ (k + 1) := by rw [hdiv]; omega
  refine ⟨hk3, hi, ?_⟩
  have h1 := upF_get (levF k L) i (by rw [lev_len]; exact h)
  have hm : (i + 1) * 4 ^ (k + 1) ≤ L.length := Nat.le_trans (Nat.mul_le_mul_right _ hi) (Nat.div_mul_le_self _ _)
  have h2 := lev_get (k + 1) L i (by omega) hl (by rw [Nat.add_mul, Nat.one_mul] at hm; exact hm)
  rw [lev_up, h1] at h2
  rw [← seg_hash L k i 4 hk hl h]
  exact Option.some.inj h2
end Go.Proofs.Ytondnammkcgjpaa.Til
namespace Go.Proofs.Ytondnammkcgjpaa.Til
open Go Go.RowKit Go.Shelf Go.Proofs.YtondnammkcgjpaaW.PrintWords Go.Proofs.YtondnammkcgjpaaW.PrintLast Go.Proofs.YtondnammkcgjpaaW.PrintMore
open Go.Proofs.Ytondnammkcgjpaa.ShaP Go.Proofs.Ytondnammkcgjpaa.Mk Go.Proofs.Ytondnammkcgjpaa.Rg Go.Proofs.Ytondnammkcgjpaa.Rng Go.Proofs.Ytondnammkcgjpaa.RgP Go.Proofs.Ytondnammkcgjpaa.Rf Go.Proofs.Ytondnammkcgjpaa.RgL
theorem levF_32 : ∀ (k : Nat) (l : List ByteArray), A32 l → l.length ≤ 64 → A32 (levF k l)
  | 0, l, h, _ => h
  | k + 1, l, h, hl => levF_32 k (upF l) (upF_32 l h hl) (by rw [upF_length]; omega)
theorem seg_32 (l : List ByteArray) (a n : Nat) (h : A32 l) : A32 (seg l a n) := fun s hs => h s (List.mem_of_mem_take (List.mem_of_mem_drop hs))
end Go.Proofs.Ytondnammkcgjpaa.Til
namespace Go.Proofs.Ytondnammkcgjpaa.Fg
open Go Go.RowKit Go.Shelf Go.Proofs.YtondnammkcgjpaaW.PrintWords Go.Proofs.YtondnammkcgjpaaW.PrintLast Go.Proofs.YtondnammkcgjpaaW.PrintMore
open Go.Proofs.Ytondnammkcgjpaa.ShaP Go.Proofs.Ytondnammkcgjpaa.Mk Go.Proofs.Ytondnammkcgjpaa.Rg Go.Proofs.Ytondnammkcgjpaa.Rng Go.Proofs.Ytondnammkcgjpaa.RgP Go.Proofs.Ytondnammkcgjpaa.Rf Go.Proofs.Ytondnammkcgjpaa.RgL Go.Proofs.Ytondnammkcgjpaa.Til
theorem same21_c (A B : Option Addr) (c1 c2 : Nat) (l1 l2 : List ByteArray) (w : World) (hr1 : Kd.C Kd.string w A l1.length l1) (hr2 : Kd.C Kd.string w B l2.length l2) :
    Calls Try.prog 33 #[.slice A l1.length c1, .slice B l2.length c2] w fun e w' => e = .returned (.bool (decide (l1 = l2))) ∧ Below w.heap.size w w' := by
  have HR1 := Aside0.mk hr1
  have HR2 := Aside0.mk hr2
  have hm := hr1.2.1
  have hm2 := hr2.2.1
  clear hr1 hr2
  by_cases hl : l1.length = l2.length
  · have hli : ((l1.length : Int) != (l2.length : Int)) = false := by rw [hl]; simp
    have HL := Aside0.mk hl
    clear hl
    go_enter Try.func33, Try.ntmps33
    go_wp2
    go_loopw [5] (fun t wr => ∃ k : Nat, t = .int .i64 k ∧ k ≤ l1.length ∧ Aside0 (l1.take k = l2.take k) ∧ Aside0 (Below w.heap.size w wr)) (fun t _ => l1.length - (intOf t).toNat)
    case atStart => exact ⟨0, rfl, Nat.zero_le _, ⟨rfl⟩, ⟨Below.refl _ _⟩⟩
    case round =>
      obtain ⟨k, rfl, hk1, HA, HB⟩ := hrel
      by_cases h1 : k < l1.length
      · have h1i : (k : Int) < (l1.length : Int) := by omega
        have h12 : k < l2.length := by have := HL.out; omega
        have h12i : (k : Int) < (l2.length : Int) := by omega
        obtain ⟨a1, e, hx⟩ := Kd.at_string (Kd.C_below HR1.out HB.out) (k : Int) (by omega) h1i
        cases e
        obtain ⟨a2, e, hy⟩ := Kd.at_string (Kd.C_below HR2.out HB.out) (k : Int) (by omega) h12i
        cases e
        have hg : rdOf ByteArray.empty l1 (k : Int) = l1[k] := rdOf_at l1 k h1
        have hg2 : rdOf ByteArray.empty l2 (k : Int) = l2[k] := rdOf_at l2 k h12
        rw [hg, Int.toNat_natCast] at hx
        rw [hg2, Int.toNat_natCast] at hy
        by_cases h3 : l1[k] = l2[k]
        · have HA2 : Aside0 (l1.take (k + 1) = l2.take (k + 1)) := ⟨by rw [List.take_succ_eq_append_getElem h1, List.take_succ_eq_append_getElem h12, HA.out, h3]⟩
          rw [h3] at hx
          generalize l2[k] = s at *
          clear HA hg hg2
          go_wp2_with fail
          go_quiet (fail)
          go_wp2
          go_roundw
          case rel => exact ⟨k + 1, by go_num, by omega, HA2, ⟨pw_below_drewN HB.out _⟩⟩
          case measure => simp [intOf]; omega
        · have HF : Aside0 (decide (l1 = l2) = false) := ⟨decide_eq_false (fun e => h3 (by simp only [e]))⟩
          have h3b : (l1[k].toList != l2[k].toList) = true := bne_iff_ne.2 (fun e => h3 (toList_inj e))
          have h3c : (l1[k].toList == l2[k].toList) = false := beq_eq_false_iff_ne.2 (fun e => h3 (toList_inj e))
          generalize l1[k] = s1 at *
          generalize l2[k] = s2 at *
          clear HA hg hg2
          go_wp2_with fail
          go_quiet (fail)
          go_wp2
          go_ret
          exact ⟨by rw [HF.out]; rfl, pw_below_drewN HB.out _⟩
      · have h1i : ¬ (k : Int) < (l1.length : Int) := by omega
        have HF : Aside0 (decide (l1 = l2) = true) := ⟨decide_eq_true (by
          obtain rfl : k = l1.length := by omega
          have h := HA.out
          rwa [List.take_length, HL.out, List.take_length] at h)⟩
        clear HA
        go_wp2
        go_ret
        exact ⟨by rw [HF.out]; rfl, HB.out⟩
  · have hli : ((l1.length : Int) != (l2.length : Int)) = true := by rw [bne_iff_ne]; omega
    have HF : Aside0 (decide (l1 = l2) = false) := ⟨decide_eq_false (fun e => hl (by rw [e]))⟩
    clear hl
    go_enter Try.func33, Try.ntmps33
    go_wp2
    go_ret
    exact ⟨by rw [HF.out]; rfl, Below.refl _ _⟩
theorem mleaf_c (a : ByteArray) (ha : a.size ≤ 100000) (w : World) :
    Calls Try.prog 63 #[.agg TV, .string a] w fun e w' => e = .returned (.string (leafF a)) ∧ Below w.heap.size w w' := by
  have OW := Aside0.mk (Mem.Own.nil w)
  have HI := Aside0.mk info_tab
  have HS := Aside0.mk (fun W => sha_c ((⟨#[0]⟩ : ByteArray) ++ a) (by rw [ByteArray.size_append]; show 1 + a.size ≤ _; omega) W)
  have hfold : Ref01.sumF ((⟨#[0]⟩ : ByteArray) ++ a) = leafF a := rfl
  rw [hfold] at HS
  have z1 : (1 + a.size ≤ 9223372036854775807) = True := eq_true (by omega)
  have z3 : (9223372036854775807 < 1 + a.size) = False := eq_false (by omega)
  clear hfold
  go_enter Try.func63, Try.ntmps63
  go_wp2_with (first
    | ((with_reducible refine gate_dst (N := 2) rfl ?_); refine box_event ?hg (N := 2) ?hd (cs := TV) (t := 31) ?hr ?_; (case hd => rfl); (case hg => rfl); (case hr => first | (go_simp; done) | (go_simp; rfl)); intro gT hg W_ hb hbb; have n_ : Aside0 (Mem.Own w W_ [(gT, TV, 31)]) := ⟨OW.out.new hg hb hbb⟩; clear OW hb hbb hg; have OW := n_; clear n_)
    | ((with_reducible refine gate_dst (N := 5) rfl ?_); refine wpList_load_row rfl 31 (.tmp 2) rfl gT rfl 31 TV (0, 0) _ (OW.out.blk 0 rfl) Try.underlying31 rfl HI.out ?_)
    | (go_at_call 58; with_reducible refine (HS.out _).mono ?_; rintro e w_ ⟨rfl, hB⟩; have OB := Aside0.mk (below_step OW.out.below hB); clear OW hB))
  go_ret
  exact ⟨rfl, OB.out⟩
end Go.Proofs.Ytondnammkcgjpaa.Fg

namespace Go.Proofs.Ytondnammkcgjpaa.Fg
open Go Go.RowKit Go.Shelf Go.Proofs.YtondnammkcgjpaaW.PrintWords Go.Proofs.YtondnammkcgjpaaW.PrintLast Go.Proofs.YtondnammkcgjpaaW.PrintMore
open Go.Proofs.Ytondnammkcgjpaa.ShaP Go.Proofs.Ytondnammkcgjpaa.Mk Go.Proofs.Ytondnammkcgjpaa.Rg Go.Proofs.Ytondnammkcgjpaa.Rng Go.Proofs.Ytondnammkcgjpaa.RgP Go.Proofs.Ytondnammkcgjpaa.Rf Go.Proofs.Ytondnammkcgjpaa.RgL Go.Proofs.Ytondnammkcgjpaa.Til
theorem wr_nat (a : Nat) (h : a ≤ 1000000000) : wrap64 (a : Int) = (a : Int) := by unfold wrap64; omega
end Go.Proofs.Ytondnammkcgjpaa.Fg

namespace Go.Proofs.Ytondnammkcgjpaa.Fg
open Go Go.RowKit Go.Shelf Go.Proofs.YtondnammkcgjpaaW.PrintWords Go.Proofs.YtondnammkcgjpaaW.PrintLast Go.Proofs.YtondnammkcgjpaaW.PrintMore
open Go.Proofs.Ytondnammkcgjpaa.ShaP Go.Proofs.Ytondnammkcgjpaa.Mk Go.Proofs.Ytondnammkcgjpaa.Rg Go.Proofs.Ytondnammkcgjpaa.Rng Go.Proofs.Ytondnammkcgjpaa.RgP Go.Proofs.Ytondnammkcgjpaa.Rf Go.Proofs.Ytondnammkcgjpaa.RgL Go.Proofs.Ytondnammkcgjpaa.Til
theorem rgive_tile (A : Option Addr) (c : Nat) (ls : List ByteArray) (s k i m : Nat) (w : World) (hs : s ≤ 64) (hls : ls.length = s) (hsz : ∀ x ∈ ls, x.size ≤ 10000) (hk : k < 4) (hi : i ≤ 16) (hm : 0 < m) (hm4 : m ≤ 4)
    (hw : inTile (i : Int) (cntv s k) = m) (hfit : 4 * i + m ≤ s / 4 ^ k) (hc : s ≤ c) (hr : Kd.C Kd.string w A s ls) :
    Calls Try.prog 34 #[.slice A s c, .agg #[.bool false, .int .i64 (k : Int), .int .i64 (i : Int)]] w fun e w' => ∃ A' c', e = .returned (.slice A' m c') ∧ SR w' w.heap.size (.slice A' m c') (tileF (leavesF ls) k i) ∧ Below w.heap.size w w' := by
  subst hls
  have OW := Aside0.mk (Mem.Own.nil w)
  have HR := Aside0.mk hr
  have HW := Aside0.mk (fun W => rwidth_c (ls.length : Int) (k : Int) (i : Int) W)
  rw [hw] at HW
  have HLV := Aside0.mk (fun W h => leaves_c A c ls W (by omega) hsz h)
  have hll := leaves_len ls
  have h32 := leaves_32 ls
  have e0 : tileF (leavesF ls) k i = (List.range m).map fun t => hashF (leavesF ls) k (4 * i + t) := by
    unfold tileF
    rw [hll, if_neg (by rw [hw]; omega), hw]
    rfl
  rw [e0]
  have hL : (leavesF ls).length ≤ 64 := by rw [hll]; exact hs
  rw [← hll] at hfit
  generalize leavesF ls = L at *
  have HH := Aside0.mk (fun (t : Nat) (ht : t < m) (A8 : Option Addr) (c8 : Nat) (h8 : L.length ≤ c8) (W : World) h => rhash_c A8 c8 L k (4 * i + t) W hk hL h32 (by
    have h1 : (4 * i + t + 1) * 4 ^ k ≤ L.length := Nat.le_trans (Nat.mul_le_mul_right _ (by omega : 4 * i + t + 1 ≤ L.length / 4 ^ k)) (Nat.div_mul_le_self _ _)
    rw [Nat.add_mul, Nat.one_mul] at h1
    exact h1) h8 h)
  have hm4i : (m : Int) ≤ 4 := by omega
  have hki : (k : Int) < 4 := by omega
  have hii : (i : Int) ≤ 16 := by omega
  have hw4 : wrap64 (4 * (i : Int)) = 4 * (i : Int) := by have := wr_nat (4 * i) (by omega); rw [← show ((4 * i : Nat) : Int) = 4 * (i : Int) by omega]; exact this
  clear hw hs hr hi hfit hc hll h32 hsz hk hm hm4 e0 hL
  go_enter Try.func34, Try.ntmps34
  go_wp2_with (first
    | ((with_reducible refine gate_dst (N := 3) rfl ?_); refine box_event ?hg (N := 3) ?hd (cs := #[.bool false, .int .i64 (k : Int), .int .i64 (i : Int)]) (t := 58) ?hr ?_; (case hd => rfl); (case hg => rfl); (case hr => first | (go_simp; done) | (go_simp; rfl)); intro gW hg W_ hb hbb; have j0 := (blk_cell hb 0).trans rfl; have j1 := (blk_cell hb 1).trans rfl; have j2 := (blk_cell hb 2).trans rfl; have n_ : Aside0 (Mem.Own w W_ [(gW, #[.bool false, .int .i64 (k : Int), .int .i64 (i : Int)], 58)]) := ⟨OW.out.new hg hb hbb⟩; clear OW hb hbb hg; have OW := n_; clear n_)
    | (go_at_call 25; (with_reducible refine (HW.out _).mono ?_); rintro e w_ ⟨rfl, rfl⟩)
    | (go_at_call 17; (with_reducible refine (HLV.out _ (Kd.C_below HR.out OW.out.below)).mono ?_); rintro e wz ⟨v4, rfl, hr4, hB⟩; obtain ⟨A8, c8, rfl, h8, _⟩ := Kd.R_reads hr4; have HC8 := Aside0.mk (Kd.R_lower hr4 OW.out.size); have H8 := Aside0.mk h8; have n_ := Aside0.mk (OW.out.step hB); clear OW hB hr4 h8 j0 j1 j2; have OW := n_; clear n_))
  have OZ := Aside0.mk OW.out
  clear OW
  go_loopw [7, 8] (fun v7 v8 wr => ∃ (t : Nat) (A3 : Option Addr) (c3 : Nat), v8 = .int .i64 t ∧ v7 = .slice A3 t c3 ∧ t ≤ m ∧ Aside0 (SR wr wz.heap.size (.slice A3 t c3) ((List.range t).map fun t => hashF L k (4 * i + t))) ∧ Aside0 (Below wz.heap.size wz wr)) (fun _ v8 _ => m - (intOf v8).toNat)
  case atStart => exact ⟨0, none, 0, rfl, rfl, Nat.zero_le _, ⟨Kd.R_nil _ _ _ _ _⟩, ⟨Below.refl _ _⟩⟩
  case round =>
    obtain ⟨t, A3, c3, rfl, rfl, ht, HO, HB⟩ := hrel
    by_cases h1 : t < m
    · have h1i : (t : Int) < (m : Int) := by omega
      obtain ⟨q, hq⟩ : ∃ q, 4 * i + t = q := ⟨_, rfl⟩
      have HQ := HH.out t h1
      rw [hq] at HQ
      have HHQ := Aside0.mk HQ
      have HT : Aside0 (((List.range (t + 1)).map fun t => hashF L k (4 * i + t)) = ((List.range t).map fun t => hashF L k (4 * i + t)) ++ [hashF L k q]) := ⟨by rw [List.range_succ, List.map_append, ← hq]; rfl⟩
      have hlt : ((List.range t).map fun t => hashF L k (4 * i + t)).length = t := by rw [List.length_map, List.length_range]
      have HLT := Aside0.mk hlt
      generalize ((List.range t).map fun t => hashF L k (4 * i + t)) = ol at *
      generalize hashF L k q = x at *
      have hqi : 4 * (i : Int) + (t : Int) = (q : Int) := by omega
      have e10 : wrap64 (q : Int) = (q : Int) := wr_nat _ (by omega)
      have O1 := Aside0.mk (OZ.out.step HB.out)
      have C8 := Aside0.mk (Kd.R_below HC8.out HB.out)
      have j1 := (O1.out.cell 0 rfl 1).trans rfl
      have j2 := (O1.out.cell 0 rfl 2).trans rfl
      clear hlt HQ hq
      go_wp2_with (first
        | (go_at_call 26; (with_reducible refine (HHQ.out A8 c8 H8.out _ (Kd.R_reads' C8.out).2.2).mono ?_); rintro e w1 ⟨rfl, hB⟩; have HB1 := Aside0.mk (below_step HB.out hB); have HO1 := Aside0.mk (Kd.R_below HO.out hB); clear hB HB HO j1 j2 O1 C8)
        | ((with_reducible refine gate_builtin (b := .append) (xs := #[.tmp 39, .tmp 51]) rfl ?_); at_builtin; refine Kd.R_append (P := Try.prog) Kd.string (w0 := wz) (W := w1) wz.heap.size rfl (.tmp 39) (.tmp 51) 22 9 (.string ⟨#[]⟩) 16 rfl Try.underlying22 info_str rfl (by decide) (by decide) (.slice A3 t c3) ol x [.string x] (fun _ => True) (fun _ => False) rfl rfl rfl (fun _ h => h.elim) (fun _ _ => trivial) HO1.out HB1.out HB1.out.size (by rw [HLT.out]; omega) ?_; intro v2 w2 hr2 hb2 hg2 hat2; obtain ⟨A4, c4, e4⟩ := Kd.R_slice hr2; have e5 : (ol ++ [x]).length = t + 1 := (by rw [List.length_append, HLT.out]; rfl); rw [e5] at e4; subst e4; have HR2 := Aside0.mk hr2; have HB2 := Aside0.mk hb2; clear hr2 hb2 hg2 hat2 e5))
      go_roundw
      case rel => exact ⟨t + 1, A4, c4, by go_num, rfl, by omega, by rw [HT.out]; exact HR2, HB2⟩
      case measure => simp [intOf]; omega
    · have h1i : ¬ (t : Int) < (m : Int) := by omega
      obtain rfl : t = m := by omega
      go_wp2
      go_ret
      exact ⟨_, _, rfl, Kd.R_lower HO.out OZ.out.size, below_step OZ.out.below HB.out⟩
end Go.Proofs.Ytondnammkcgjpaa.Fg
namespace Go.Proofs.Ytondnammkcgjpaa.Mp
open Go Go.RowKit Go.MapKept
open Go.Maps (Keyed)
open Go.ChangeMaps (setBlock heap_setBlock_same heap_setBlock_other)
abbrev Cont := Value → Option Value
open Classical in
noncomputable def put (f : Cont) (k v : Value) : Cont := fun x => if x = k then some v else f x
open Classical in
noncomputable def drop (f : Cont) (k : Value) : Cont := fun x => if x = k then none else f x
theorem put_self (f : Cont) (k v : Value) : put f k v k = some v := if_pos rfl
theorem put_ne (f : Cont) {k x : Value} (v : Value) (h : x ≠ k) : put f k v x = f x := if_neg h
theorem drop_self (f : Cont) (k : Value) : drop f k k = none := if_pos rfl
theorem drop_ne (f : Cont) {k x : Value} (h : x ≠ k) : drop f k x = f x := if_neg h
structure Ents (P : Program) (k : TypeId) (es : Array MapEntry) (clock : Nat) (f : Cont) : Prop where
  st : Stamped es clock
  ks : ∀ e, e ∈ es.toList → (∃ l, keyOf P k e.key = some l) ∧ f e.key = some e.val
  all : ∀ x v, f x = some v → ∃ e, e ∈ es.toList ∧ e.key = x
def IMap (w : World) (P : Program) (k : TypeId) (b : Nat) (f : Cont) : Prop := ∃ es clock, w.heap[b]? = some (.map es clock) ∧ Ents P k es clock f
variable {P : Program} {k t e ty : TypeId} {w w2 : World} {b : Nat} {f : Cont}
theorem IMap.made (w : World) (P : Program) (k : TypeId) : IMap (w.alloc (.map #[] 0)) P k w.heap.size (fun _ => none) :=
  ⟨#[], 0, (MapKept.heap_alloc w _).1, stamped_empty 0, fun e h => by simp at h, fun x v h => by cases h⟩
theorem IMap.lt (h : IMap w P k b f) : b < w.heap.size := by
  obtain ⟨es, clock, hb, _⟩ := h
  exact (Array.getElem?_eq_some_iff.1 hb).1
theorem IMap.block (h : IMap w P k b f) (e : w2.heap[b]? = w.heap[b]?) : IMap w2 P k b f := by
  obtain ⟨es, clock, hb, r⟩ := h
  exact ⟨es, clock, e.trans hb, r⟩
theorem IMap.below {n : Nat} (h : IMap w P k b f) (hB : Below n w w2) (hn : b < n) : IMap w2 P k b f := h.block (hB.block b hn)
theorem IMap.below' (h : IMap w P k b f) (hB : Below w.heap.size w w2) : IMap w2 P k b f := h.below hB h.lt
theorem IMap.set (h : IMap w P k b f) {p : Addr} (hp : b ≠ p.block) (v : Value) : IMap (w.setCell p v) P k b f := h.block (RowKit.Below.heap_setCell _ _ _ _ hp)
theorem IMap.drew (h : IMap w P k b f) : IMap w.drew P k b f := h
theorem IMap.grown {row : Option Nat} (h : IMap w P k b f) (hg : w.grownBy w2 row) (hne : some b ≠ row) : IMap w2 P k b f := h.block (hg.block b h.lt hne)
theorem IMap.turned {c : Nat} (h : IMap w P k b f) (hg : w.mapTurned w2 c) (hne : b ≠ c) : IMap w2 P k b f := h.grown hg.grown (fun e => hne (Option.some.inj e))
theorem IMap.look (h : IMap w P k b f) (c : Bool) (K : Keyed P k) (ht : P.underlying t = some (.map k e)) {z : Value} (hz : (zeroValue e).run P w = .ok z w) {key : Value} {kl : Lit} (hkey : keyOf P k key = some kl) :
    (Instr.lookup t (.map (some b)) key c).run P w = .ok (if c then .tuple #[(f key).getD z, .bool (f key).isSome] else (f key).getD z) w := by
  obtain ⟨es, clock, hb, st, ks, all⟩ := h
  rcases K.find w hkey es.toList (fun e he => (ks e he).1) with ⟨h1, h2⟩ | ⟨j, e0, h1, h2, h3⟩
  · have hf : f key = none := by
      cases hv : f key with
      | none => rfl
      | some v => obtain ⟨e, he, hek⟩ := all key v hv; exact absurd hek (h2 e he)
    rw [hf]
    simp [Instr.lookup, run_underlying ht, MapKept.run_getObj_map hb, K.check w _ hkey, h1, hz, Result.andThen]
  · have hf : f key = some e0.val := by rw [← h3]; exact (ks e0 (List.mem_of_getElem? h2)).2
    rw [hf]
    simp [Instr.lookup, run_underlying ht, MapKept.run_getObj_map hb, K.check w _ hkey, h1, Result.andThen]
theorem IMap.store (h : IMap w P k b f) (K : Keyed P k) (ht : P.underlying t = some (.map k e)) {key val : Value} {kl : Lit} (hkey : keyOf P k key = some kl) :
    ∃ w2, (Instr.mapUpdate t (.map (some b)) key val).run P w = .ok () w2 ∧ IMap w2 P k b (put f key val) ∧ w.mapTurned w2 b := by
  obtain ⟨es, clock, hb, st, ks, all⟩ := h
  rcases K.find w hkey es.toList (fun e he => (ks e he).1) with ⟨h1, h2⟩ | ⟨j, e0, h1, h2, h3⟩
  · refine ⟨_, ?_, ⟨es.push ⟨key, val, clock⟩, clock + 1, heap_setBlock_same hb _, stamped_push st h2, fun x hx => ?_, fun x v hv => ?_⟩, ⟨es, clock, _, _, hb, rfl⟩⟩
    · simp [Instr.mapUpdate, run_underlying ht, MapKept.run_getObj_map hb, K.check w false hkey, h1, MapKept.run_setObj_map _ hb, Result.andThen, setBlock]
    · simp only [Array.toList_push, List.mem_append, List.mem_singleton] at hx
      rcases hx with hx | rfl
      · exact ⟨(ks x hx).1, by rw [put_ne _ _ (h2 x hx)]; exact (ks x hx).2⟩
      · exact ⟨⟨_, hkey⟩, put_self _ _ _⟩
    · by_cases hxk : x = key
      · exact ⟨⟨key, val, clock⟩, by simp, hxk.symm⟩
      · rw [put_ne _ _ hxk] at hv
        obtain ⟨y, hy, hyk⟩ := all x v hv
        exact ⟨y, by simp [hy], hyk⟩
  · have hj : es[j]? = some e0 := by simpa using h2
    have hlist : (es.modify j (fun e' => { e' with key := key, val := val })).toList = es.toList.set j { e0 with key := key, val := val } := by rw [Array.toList_modify, Go.ChangeMaps.modify_eq_set _ _ _ _ h2]
    have hkeyf : ∀ e', es[j]? = some e' → ({ e' with key := key, val := val } : MapEntry).key = e'.key := fun e' he' => by rw [hj] at he'; cases he'; exact h3.symm
    have hpw := ((stamped_iff es clock).1 st).2.2
    have hjl : j < es.toList.length := (List.getElem?_eq_some_iff.1 h2).1
    refine ⟨_, ?_, ⟨es.modify j (fun e' => { e' with key := key, val := val }), clock, heap_setBlock_same hb _, stamped_modify st _ _ (fun _ _ => rfl) (fun e' _ he' => hkeyf e' he'), fun x hx => ?_, fun x v hv => ?_⟩, ⟨es, clock, _, _, hb, rfl⟩⟩
    · simp [Instr.mapUpdate, run_underlying ht, MapKept.run_getObj_map hb, K.check w false hkey, h1, hj, h3, K.stays w hkey, MapKept.run_setObj_map _ hb, Result.andThen, setBlock]
    · rw [hlist] at hx
      obtain ⟨i, hi, ex⟩ := List.getElem_of_mem hx
      rw [List.getElem_set] at ex
      by_cases hij : j = i
      · rw [if_pos hij] at ex
        subst ex
        exact ⟨⟨_, hkey⟩, put_self _ _ _⟩
      · rw [if_neg hij] at ex
        have hi' : i < es.toList.length := by simpa using hi
        have hxm : x ∈ es.toList := ex ▸ List.getElem_mem hi'
        have hne : x.key ≠ key := fun hh => by
          have ej : es.toList[j] = e0 := (List.getElem?_eq_some_iff.1 h2).2
          have ejk : es.toList[j].key = es.toList[i].key := (congrArg MapEntry.key ej).trans (h3.trans (hh.symm.trans (congrArg MapEntry.key ex).symm))
          rcases Nat.lt_or_gt_of_ne hij with q | q
          · exact List.pairwise_iff_getElem.1 hpw j i hjl hi' q ejk
          · exact List.pairwise_iff_getElem.1 hpw i j hi' hjl q ejk.symm
        exact ⟨(ks x hxm).1, by rw [put_ne _ _ hne]; exact (ks x hxm).2⟩
    · rw [hlist]
      by_cases hxk : x = key
      · exact ⟨{ e0 with key := key, val := val }, List.mem_iff_getElem.2 ⟨j, by simpa using hjl, by simp⟩, hxk.symm⟩
      · rw [put_ne _ _ hxk] at hv
        obtain ⟨y, hy, hyk⟩ := all x v hv
        obtain ⟨i, hi, ey⟩ := List.getElem_of_mem hy
        have hij : j ≠ i := fun hh => by
          subst hh
          have : es.toList[j] = e0 := (List.getElem?_eq_some_iff.1 h2).2
          rw [this] at ey
          exact hxk (by rw [← hyk, ← ey, h3])
        exact ⟨y, List.mem_iff_getElem.2 ⟨i, by simpa using hi, by rw [List.getElem_set_ne hij]; exact ey⟩, hyk⟩
theorem IMap.del (h : IMap w P k b f) (K : Keyed P k) (ht : P.underlying t = some (.map k e)) {key : Value} {kl : Lit} (hkey : keyOf P k key = some kl) (ty : TypeId) :
    ∃ w2, (Builtin.delete_ #[t, k] ty #[.map (some b), key]).run P w = .ok (.tuple #[]) w2 ∧ IMap w2 P k b (drop f key) ∧ w.mapTurned w2 b := by
  obtain ⟨es, clock, hb, st, ks, all⟩ := h
  rcases K.find w hkey es.toList (fun e he => (ks e he).1) with ⟨h1, h2⟩ | ⟨j, e0, h1, h2, h3⟩
  · refine ⟨_, ?_, ⟨es, clock, heap_setBlock_same hb _, st, fun x hx => ⟨(ks x hx).1, by rw [drop_ne _ (h2 x hx)]; exact (ks x hx).2⟩, fun x v hv => ?_⟩, ⟨es, clock, _, _, hb, rfl⟩⟩
    · simp [Builtin.delete_, run_underlying ht, MapKept.run_getObj_map hb, K.check w _ hkey, h1, MapKept.run_setObj_map _ hb, Result.andThen, setBlock]
    · by_cases hxk : x = key
      · rw [hxk, drop_self] at hv; cases hv
      · rw [drop_ne _ hxk] at hv
        exact all x v hv
  · have hpw := ((stamped_iff es clock).1 st).2.2
    have hjl : j < es.toList.length := (List.getElem?_eq_some_iff.1 h2).1
    have hjs : j < es.size := by simpa using hjl
    have ej : es.toList[j] = e0 := (List.getElem?_eq_some_iff.1 h2).2
    have hsub : (es.eraseIdxIfInBounds j).toList = es.toList.eraseIdx j := by
      unfold Array.eraseIdxIfInBounds
      rw [dif_pos hjs]
      simp
    refine ⟨_, ?_, ⟨es.eraseIdxIfInBounds j, clock, heap_setBlock_same hb _, stamped_erase st j, fun x hx => ?_, fun x v hv => ?_⟩, ⟨es, clock, _, _, hb, rfl⟩⟩
    · simp [Builtin.delete_, run_underlying ht, MapKept.run_getObj_map hb, K.check w _ hkey, h1, MapKept.run_setObj_map _ hb, Result.andThen, setBlock]
    · rw [hsub] at hx
      obtain ⟨i, hij, hi⟩ := List.mem_eraseIdx_iff_getElem?.1 hx
      have hi' : i < es.toList.length := (List.getElem?_eq_some_iff.1 hi).1
      have ei : es.toList[i] = x := (List.getElem?_eq_some_iff.1 hi).2
      have hne : x.key ≠ key := fun hh => by
        have ejk : es.toList[j].key = es.toList[i].key := (congrArg MapEntry.key ej).trans (h3.trans (hh.symm.trans (congrArg MapEntry.key ei).symm))
        rcases Nat.lt_or_gt_of_ne hij with q | q
        · exact List.pairwise_iff_getElem.1 hpw i j hi' hjl q ejk.symm
        · exact List.pairwise_iff_getElem.1 hpw j i hjl hi' q ejk
      have hxm := List.mem_of_getElem? hi
      exact ⟨(ks x hxm).1, by rw [drop_ne _ hne]; exact (ks x hxm).2⟩
    · by_cases hxk : x = key
      · rw [hxk, drop_self] at hv; cases hv
      · rw [drop_ne _ hxk] at hv
        obtain ⟨y, hy, hyk⟩ := all x v hv
        obtain ⟨i, hi, ey⟩ := List.getElem_of_mem hy
        refine ⟨y, ?_, hyk⟩
        rw [hsub]
        refine List.mem_eraseIdx_iff_getElem?.2 ⟨i, fun hh => ?_, by rw [List.getElem?_eq_getElem hi, ey]⟩
        subst hh
        rw [ej] at ey
        exact hxk (by rw [← hyk, ← ey, h3])
end Go.Proofs.Ytondnammkcgjpaa.Mp
namespace Go.Proofs.Ytondnammkcgjpaa.Ft
open Go Go.RowKit Go.Shelf Go.Proofs.YtondnammkcgjpaaW.PrintWords Go.Proofs.YtondnammkcgjpaaW.PrintLast Go.Proofs.YtondnammkcgjpaaW.PrintMore Go.Proofs.Ytondnammkcgjpaa.Mp
open Go.Proofs.Ytondnammkcgjpaa.ShaP Go.Proofs.Ytondnammkcgjpaa.Mk Go.Proofs.Ytondnammkcgjpaa.Rg Go.Proofs.Ytondnammkcgjpaa.RgP Go.Proofs.Ytondnammkcgjpaa.Rf Go.Proofs.Ytondnammkcgjpaa.Til Go.Proofs.Ytondnammkcgjpaa.Fg
def tag (W : World) (k : Nat) : Option Nat := match W.heap[k]? with | some (.cells _ t _) => some t | some (.map _ _) => some 1000000 | _ => none
theorem tag_cells {W : World} {k t : Nat} {cs : Array Value} {fr : Nat × Nat} (h : W.heap[k]? = some (.cells cs t fr)) : tag W k = some t := by unfold tag; rw [h]
theorem ne_tag {W : World} {a b s t : Nat} (ha : tag W a = some s) (hb : tag W b = some t) (h : s ≠ t) : a ≠ b := fun e => by
  subst e; rw [ha] at hb; exact h (Option.some.inj hb)
theorem tag_map {W : World} {P : Program} {k : TypeId} {b : Nat} {f : Cont} (h : IMap W P k b f) : tag W b = some 1000000 := by
  obtain ⟨es, clock, hb, _⟩ := h
  unfold tag; rw [hb]
theorem tag_row {α : Type} {kd : Kd α} {e base : Nat} {ok : Nat → Prop} {W : World} {v : Value} {xs : List α} (h : kd.R e W base ok v xs) (k : Nat) (hk : v.ownBlock = some k) : tag W k = some e := by
  obtain ⟨inner, ho⟩ := Kd.R_own h
  obtain ⟨cells, hc⟩ := own_typed ho k hk
  exact tag_cells hc
theorem only_s {e base : Nat} {W : World} {ok : Nat → Prop} {v : Value} {xs : List ByteArray} (h : Kd.string.R e W base ok v xs) : Kd.string.R e W base (fun k => v.ownBlock = some k) v xs := ⟨fun k hk => hk, h.2.imp_ (fun _ _ hp => hp)⟩
theorem sr_keep {base : Nat} {W W1 : World} {v : Value} {l : List ByteArray} (h : SR W base v l) (hk : ∀ k, k < W.heap.size → tag W k = some 9 → W1.heap[k]? = W.heap[k]?) : SR W1 base v l :=
  Kd.R_mono (Kd.R_step (only_s h) (fun k ho hlt => hk k hlt (tag_row h k ho))) (fun _ _ => trivial)
structure FS where
  size : Nat
  root : ByteArray
  tiles : Int × Int → Option (List ByteArray)
  bund : Int → Option (List ByteArray)
  asked : Int
def idV (x : Int × Int) : Value := .agg #[.int .i64 x.1, .int .i64 x.2]
def inV (x : Int) : Value := .int .i64 x
theorem idV_inj {x y : Int × Int} (h : idV x = idV y) : x = y := by
  obtain ⟨a, b⟩ := x; obtain ⟨c, d⟩ := y
  simp [idV] at h
  exact Prod.ext h.1 h.2
theorem inV_inj {x y : Int} (h : inV x = inV y) : x = y := by simpa [inV] using h
def Rows {K : Type} (W : World) (base gm : Nat) (k : TypeId) (enc : K → Value) (F : K → Option (List ByteArray)) : Prop :=
  ∃ f : Cont, IMap W Try.prog k gm f ∧ ∀ x, (F x = none → f (enc x) = none) ∧ ∀ l, F x = some l → ∃ v, f (enc x) = some v ∧ SR W base v l ∧ 0 < l.length ∧ l.length ≤ 4
variable {K : Type} {W W1 W2 : World} {base g gt gb gm : Nat} {k : TypeId} {enc : K → Value} {F : K → Option (List ByteArray)}
theorem Rows.tag (h : Rows W base gm k enc F) : tag W gm = some 1000000 := by obtain ⟨f, h1, _⟩ := h; exact tag_map h1
theorem Rows.lt (h : Rows W base gm k enc F) : gm < W.heap.size := by obtain ⟨f, h1, _⟩ := h; exact h1.lt
theorem Rows.keep (h : Rows W base gm k enc F) (hg : W1.heap[gm]? = W.heap[gm]?) (hk : ∀ k, k < W.heap.size → Ft.tag W k = some 9 → W1.heap[k]? = W.heap[k]?) : Rows W1 base gm k enc F := by
  obtain ⟨f, h1, h2⟩ := h
  refine ⟨f, h1.block hg, fun x => ⟨(h2 x).1, fun l hl => ?_⟩⟩
  obtain ⟨v, e, hr, hn⟩ := (h2 x).2 l hl
  exact ⟨v, e, sr_keep hr hk, hn⟩
open Classical in
noncomputable def upd (F : K → Option (List ByteArray)) (x : K) (l : Option (List ByteArray)) : K → Option (List ByteArray) := fun y => if y = x then l else F y
theorem upd_self (F : K → Option (List ByteArray)) (x : K) (l : Option (List ByteArray)) : upd F x l x = l := if_pos rfl
theorem upd_ne (F : K → Option (List ByteArray)) {x y : K} (l : Option (List ByteArray)) (h : y ≠ x) : upd F x l y = F y := if_neg h
theorem turned_other (hT : W.mapTurned W1 gm) (ht : Ft.tag W gm = some 1000000) : ∀ k, k < W.heap.size → Ft.tag W k = some 9 → W1.heap[k]? = W.heap[k]? := fun k hk htk => hT.grown.block k hk (fun e => by
  cases e; rw [ht] at htk; exact absurd (Option.some.inj htk) (by decide))
theorem Rows.put (hinj : ∀ {x y : K}, enc x = enc y → x = y) (h : Rows W base gm k enc F) (x : K) (v : Value) (l : List ByteArray) (hv : SR W base v l) (h0 : 0 < l.length) (h4 : l.length ≤ 4)
    (hT : W.mapTurned W1 gm) (hm : ∀ f, IMap W Try.prog k gm f → IMap W1 Try.prog k gm (Mp.put f (enc x) v)) : Rows W1 base gm k enc (upd F x (some l)) := by
  have hk := turned_other hT h.tag
  obtain ⟨f, h1, h2⟩ := h
  refine ⟨_, hm f h1, fun y => ?_⟩
  by_cases e : y = x
  · subst e
    rw [upd_self, put_self]
    exact ⟨fun q => (by cases q), fun l' q => by cases q; exact ⟨v, rfl, sr_keep hv hk, h0, h4⟩⟩
  · rw [upd_ne _ _ e, put_ne _ _ (fun q => e (hinj q))]
    refine ⟨(h2 y).1, fun l' q => ?_⟩
    obtain ⟨v', e1, hr, hn⟩ := (h2 y).2 l' q
    exact ⟨v', e1, sr_keep hr hk, hn⟩
theorem Rows.drop (hinj : ∀ {x y : K}, enc x = enc y → x = y) (h : Rows W base gm k enc F) (x : K) (hT : W.mapTurned W1 gm) (hm : ∀ f, IMap W Try.prog k gm f → IMap W1 Try.prog k gm (Mp.drop f (enc x))) : Rows W1 base gm k enc (upd F x none) := by
  have hk := turned_other hT h.tag
  obtain ⟨f, h1, h2⟩ := h
  refine ⟨_, hm f h1, fun y => ?_⟩
  by_cases e : y = x
  · subst e
    rw [upd_self, drop_self]
    exact ⟨fun q => rfl, fun l' q => by cases q⟩
  · rw [upd_ne _ _ e, drop_ne _ (fun q => e (hinj q))]
    refine ⟨(h2 y).1, fun l' q => ?_⟩
    obtain ⟨v', e1, hr, hn⟩ := (h2 y).2 l' q
    exact ⟨v', e1, sr_keep hr hk, hn⟩
def fcs (s : FS) (gt gb : Nat) : Array Value := TV ++ #[.int .i64 (s.size : Int), .string s.root, .map (some gt), .map (some gb), .int .i64 s.asked]
theorem fcs_get (s : FS) (gt gb i : Nat) : (fcs s gt gb)[72 + i]? = (#[.int .i64 (s.size : Int), .string s.root, .map (some gt), .map (some gb), .int .i64 s.asked] : Array Value)[i]? := by
  unfold fcs
  rw [Array.getElem?_append_right (by rw [tv_size]; omega), tv_size, Nat.add_sub_cancel_left]
theorem fcs_set (s : FS) (gt gb : Nat) (a : Int) : (fcs s gt gb).setIfInBounds 76 (.int .i64 a) = fcs { s with asked := a } gt gb := by
  unfold fcs
  rw [Array.setIfInBounds_append_right (by rw [tv_size]; omega), tv_size]
  rfl
structure IsF (base : Nat) (W : World) (g gt gb : Nat) (s : FS) : Prop where
  blk : W.heap[g]? = some (.cells (fcs s gt gb) 114 (0, 0))
  tl : Rows W base gt 24 idV s.tiles
  bn : Rows W base gb 3 inV s.bund
  ne : gt ≠ gb
  ge : base ≤ g ∧ base ≤ gt ∧ base ≤ gb
  sz : s.size ≤ 64
variable {s : FS}
theorem IsF.tg (h : IsF base W g gt gb s) : tag W g = some 114 := tag_cells h.blk
theorem IsF.keep (h : IsF base W g gt gb s) (hk : ∀ k, k < W.heap.size → (k = g ∨ k = gt ∨ k = gb ∨ tag W k = some 9) → W1.heap[k]? = W.heap[k]?) : IsF base W1 g gt gb s where
  blk := (hk g (blk_lt h.blk) (.inl rfl)).trans h.blk
  tl := h.tl.keep (hk gt h.tl.lt (.inr (.inl rfl))) (fun k h1 h2 => hk k h1 (.inr (.inr (.inr h2))))
  bn := h.bn.keep (hk gb h.bn.lt (.inr (.inr (.inl rfl)))) (fun k h1 h2 => hk k h1 (.inr (.inr (.inr h2))))
  ne := h.ne
  ge := h.ge
  sz := h.sz
theorem IsF.below (h : IsF base W g gt gb s) (hB : Below W.heap.size W W1) : IsF base W1 g gt gb s := h.keep (fun k hk _ => hB.block k hk)
theorem IsF.drew (h : IsF base W g gt gb s) : IsF base W.drew g gt gb s := h.keep (fun _ _ _ => rfl)
theorem IsF.cell (h : IsF base W g gt gb s) (i : Nat) : W.cell? ⟨g, 72 + i, none⟩ = (#[.int .i64 (s.size : Int), .string s.root, .map (some gt), .map (some gb), .int .i64 s.asked] : Array Value)[i]? := (blk_cell h.blk (72 + i)).trans (fcs_get s gt gb i)
def Foot (g gt gb k : Nat) : Prop := k = g ∨ k = gt ∨ k = gb
structure Turn (F : Nat → Prop) (W W' : World) : Prop where
  os : W'.os = W.os
  tape : W'.tape = W.tape
  output : W'.output = W.output
  size : W.heap.size ≤ W'.heap.size
  keep : ∀ k, k < W.heap.size → ¬ F k → W'.heap[k]? = W.heap[k]?
variable {P : Nat → Prop}
theorem Turn.below (h : Below W.heap.size W W1) : Turn P W W1 := ⟨h.os, h.tape, h.output, h.size, fun k hk _ => h.block k hk⟩
theorem Turn.refl (W : World) : Turn P W W := ⟨rfl, rfl, rfl, Nat.le_refl _, fun _ _ _ => rfl⟩
theorem Turn.trans (h : Turn P W W1) (k : Turn P W1 W2) : Turn P W W2 :=
  ⟨k.os.trans h.os, k.tape.trans h.tape, k.output.trans h.output, Nat.le_trans h.size k.size, fun j hj hf => (k.keep j (Nat.lt_of_lt_of_le hj h.size) hf).trans (h.keep j hj hf)⟩
theorem Turn.drew (h : Turn P W W1) : Turn P W W1.drew := ⟨h.os, h.tape, h.output, h.size, h.keep⟩
theorem Turn.to_below {B : Nat} (h : Turn P W W1) (hF : ∀ k, P k → B ≤ k) (hB : B ≤ W.heap.size) : Below B W W1 :=
  ⟨h.os, h.tape, h.output, h.size, fun k hk => h.keep k (Nat.lt_of_lt_of_le hk hB) (fun hf => absurd (hF k hf) (Nat.not_le.2 hk))⟩
theorem IsF.foot_ge (h : IsF base W g gt gb s) (k : Nat) (hk : Foot g gt gb k) : base ≤ k := by
  obtain ⟨h1, h2, h3⟩ := h.ge
  rcases hk with rfl | rfl | rfl <;> assumption
theorem IsF.turned (h : IsF base W g gt gb s) (hT : W.mapTurned W1 gm) (hm : Foot g gt gb gm) : Turn (Foot g gt gb) W W1 :=
  ⟨hT.grown.os, hT.grown.tape, hT.grown.output, hT.grown.size, fun k hk hf => hT.grown.block k hk (fun e => hf (by cases e; exact hm))⟩
theorem IsF.asks (h : IsF base W g gt gb s) (a : Int) : IsF base (W.setCell ⟨g, 76, none⟩ (.int .i64 a)) g gt gb { s with asked := a } ∧ Turn (Foot g gt gb) W (W.setCell ⟨g, 76, none⟩ (.int .i64 a)) := by
  have hk : ∀ k, k ≠ g → (W.setCell ⟨g, 76, none⟩ (.int .i64 a)).heap[k]? = W.heap[k]? := fun k hk => Below.heap_setCell _ _ _ k hk
  have h1 := blk_put h.blk 76 (.int .i64 a) (fcs_set s gt gb a)
  refine ⟨⟨h1, h.tl.keep (hk gt (ne_tag h.tl.tag h.tg (by decide))) (fun k _ h2 => hk k (ne_tag h2 h.tg (by decide))), h.bn.keep (hk gb (ne_tag h.bn.tag h.tg (by decide))) (fun k _ h2 => hk k (ne_tag h2 h.tg (by decide))), h.ne, h.ge, h.sz⟩, ⟨rfl, rfl, rfl, by simp, fun k _ hf => hk k (fun e => hf (.inl e))⟩⟩
theorem IsF.putTile (h : IsF base W g gt gb s) (x : Int × Int) (v : Value) (l : List ByteArray) (hv : SR W base v l) (h0 : 0 < l.length) (h4 : l.length ≤ 4) (hT : W.mapTurned W1 gt) (hm : ∀ f, IMap W Try.prog 24 gt f → IMap W1 Try.prog 24 gt (Mp.put f (idV x) v)) :
    IsF base W1 g gt gb { s with tiles := upd s.tiles x (some l) } := by
  have hk := turned_other hT h.tl.tag
  have ho : ∀ k, k < W.heap.size → k ≠ gt → W1.heap[k]? = W.heap[k]? := fun k hk hne => hT.grown.block k hk (fun e => hne (Option.some.inj e))
  exact ⟨(ho g (blk_lt h.blk) (ne_tag h.tg h.tl.tag (by decide))).trans h.blk, h.tl.put idV_inj x v l hv h0 h4 hT hm, h.bn.keep (ho gb h.bn.lt h.ne.symm) hk, h.ne, h.ge, h.sz⟩
theorem IsF.dropTile (h : IsF base W g gt gb s) (x : Int × Int) (hT : W.mapTurned W1 gt) (hm : ∀ f, IMap W Try.prog 24 gt f → IMap W1 Try.prog 24 gt (Mp.drop f (idV x))) :
    IsF base W1 g gt gb { s with tiles := upd s.tiles x none } := by
  have hk := turned_other hT h.tl.tag
  have ho : ∀ k, k < W.heap.size → k ≠ gt → W1.heap[k]? = W.heap[k]? := fun k hk hne => hT.grown.block k hk (fun e => hne (Option.some.inj e))
  exact ⟨(ho g (blk_lt h.blk) (ne_tag h.tg h.tl.tag (by decide))).trans h.blk, h.tl.drop idV_inj x hT hm, h.bn.keep (ho gb h.bn.lt h.ne.symm) hk, h.ne, h.ge, h.sz⟩
theorem IsF.putBund (h : IsF base W g gt gb s) (x : Int) (v : Value) (l : List ByteArray) (hv : SR W base v l) (h0 : 0 < l.length) (h4 : l.length ≤ 4) (hT : W.mapTurned W1 gb) (hm : ∀ f, IMap W Try.prog 3 gb f → IMap W1 Try.prog 3 gb (Mp.put f (inV x) v)) :
    IsF base W1 g gt gb { s with bund := upd s.bund x (some l) } := by
  have hk := turned_other hT h.bn.tag
  have ho : ∀ k, k < W.heap.size → k ≠ gb → W1.heap[k]? = W.heap[k]? := fun k hk hne => hT.grown.block k hk (fun e => hne (Option.some.inj e))
  exact ⟨(ho g (blk_lt h.blk) (ne_tag h.tg h.bn.tag (by decide))).trans h.blk, h.tl.keep (ho gt h.tl.lt h.ne) hk, h.bn.put inV_inj x v l hv h0 h4 hT hm, h.ne, h.ge, h.sz⟩
end Go.Proofs.Ytondnammkcgjpaa.Ft
namespace Go.Proofs.Ytondnammkcgjpaa.Ft
open Go Go.RowKit Go.Shelf Go.Proofs.YtondnammkcgjpaaW.PrintWords Go.Proofs.YtondnammkcgjpaaW.PrintLast Go.Proofs.YtondnammkcgjpaaW.PrintMore Go.Proofs.Ytondnammkcgjpaa.Mp
open Go.Proofs.Ytondnammkcgjpaa.ShaP Go.Proofs.Ytondnammkcgjpaa.Mk Go.Proofs.Ytondnammkcgjpaa.Rg Go.Proofs.Ytondnammkcgjpaa.RgP Go.Proofs.Ytondnammkcgjpaa.Rf Go.Proofs.Ytondnammkcgjpaa.Til Go.Proofs.Ytondnammkcgjpaa.Fg
theorem load_row_on {P : Program} {ops : Array Oper} {rest : List Oper} {o : Oper} {a : Act} {w : World} {Q : Exit → Act → World → Prop} (hw : Region.wanted o (yielded ops a.tmps) = true) (ty : TypeId) (x : Operand) (ho : o.op = .load ty x)
    (g : Nat) (hx : a.eval x = .pointer (some ⟨g, 0, none⟩)) (t : TypeId) (cs : Array Value) (fr : Nat × Nat) (d : TypeDesc) (hg : w.heap[g]? = some (.cells cs t fr))
    (hu : P.underlying ty = some d) (hd : (match d with | .struct _ | .array _ _ => true | _ => false) = true) (hi : (P.info? ty).map (·.size) = some cs.size)
    (h : wpList P ops Q rest (a.put o.dst (.agg cs)) w) : wpList P ops Q (o :: rest) a w :=
  wpList_step fun K hK => by simp only [hw, if_true]; exact wp_load_row ty x ho g hx t cs fr d hg hu hd hi (hK _ _ h)
def emptyF : ByteArray := Ref01.sumF ⟨#[]⟩
def badB (size : Int) (r : ByteArray) : Bool := decide (size < 0) || decide (64 < size) || decide (r.size ≠ 32) || (decide (size = 0) && decide (r ≠ emptyF))
theorem mroot_nil (w : World) : Calls Try.prog 30 #[.agg TV, .slice none 0 0] w fun e w' => e = .returned (.string emptyF) ∧ Below w.heap.size w w' := by
  have h := root_c 100000 none 0 [] w (by decide) (by decide) (fun s hs => by cases hs) (Nat.le_refl _) (Kd.R_reads' (Kd.R_nil Kd.string 9 w w.heap.size (fun _ => True))).2.2
  rw [show rootN 100000 ([] : List ByteArray) = rootF [] from rfl, rootF_nil] at h
  exact h
theorem new_bad (size : Int) (r : ByteArray) (w : World) (h : badB size r = true) :
    Calls Try.prog 37 #[.agg TV, .int .i64 size, .string r] w fun e w' => e = .returned (.tuple #[.pointer none, .int .i64 1]) ∧ Below w.heap.size w w' := by
  have OW := Aside0.mk (Mem.Own.nil w)
  have HI := Aside0.mk info_tab
  have HM := Aside0.mk mroot_nil
  have hcase : size < 0 ∨ (¬ size < 0 ∧ 64 < size) ∨ (¬ size < 0 ∧ ¬ 64 < size ∧ r.size ≠ 32) ∨ (size = 0 ∧ r.size = 32 ∧ r ≠ emptyF) := by
    unfold badB at h
    by_cases h1 : size < 0
    · exact .inl h1
    · by_cases h2 : 64 < size
      · exact .inr (.inl ⟨h1, h2⟩)
      · by_cases h3 : r.size = 32
        · simp [h1, h2, h3] at h
          exact .inr (.inr (.inr ⟨h.1, h3, h.2⟩))
        · exact .inr (.inr (.inl ⟨h1, h2, h3⟩))
  clear h
  rcases hcase with h1 | ⟨h1, h2⟩ | ⟨h1, h2, h3⟩ | ⟨rfl, h3, h4⟩
  · go_enter Try.func37, Try.ntmps37
    go_wp2_with (first
      | ((with_reducible refine gate_dst (N := 3) rfl ?_); refine box_event ?hg (N := 3) ?hd (cs := TV) (t := 31) ?hr ?_; (case hd => rfl); (case hg => rfl); (case hr => first | (go_simp; done) | (go_simp; rfl)); intro gT hg W_ hb hbb; have n_ : Aside0 (Mem.Own w W_ [(gT, TV, 31)]) := ⟨OW.out.new hg hb hbb⟩; clear OW hb hbb hg; have OW := n_; clear n_))
    go_ret2
    exact ⟨rfl, OW.out.below⟩
  · go_enter Try.func37, Try.ntmps37
    go_wp2_with (first
      | ((with_reducible refine gate_dst (N := 3) rfl ?_); refine box_event ?hg (N := 3) ?hd (cs := TV) (t := 31) ?hr ?_; (case hd => rfl); (case hg => rfl); (case hr => first | (go_simp; done) | (go_simp; rfl)); intro gT hg W_ hb hbb; have n_ : Aside0 (Mem.Own w W_ [(gT, TV, 31)]) := ⟨OW.out.new hg hb hbb⟩; clear OW hb hbb hg; have OW := n_; clear n_))
    go_ret2
    exact ⟨rfl, OW.out.below⟩
  · have h3b : ((r.size : Int) != 32) = true := by rw [bne_iff_ne]; omega
    go_enter Try.func37, Try.ntmps37
    go_wp2_with (first
      | ((with_reducible refine gate_dst (N := 3) rfl ?_); refine box_event ?hg (N := 3) ?hd (cs := TV) (t := 31) ?hr ?_; (case hd => rfl); (case hg => rfl); (case hr => first | (go_simp; done) | (go_simp; rfl)); intro gT hg W_ hb hbb; have n_ : Aside0 (Mem.Own w W_ [(gT, TV, 31)]) := ⟨OW.out.new hg hb hbb⟩; clear OW hb hbb hg; have OW := n_; clear n_))
    go_ret2
    exact ⟨rfl, OW.out.below⟩
  · have h3b : ((r.size : Int) != 32) = false := by rw [bne_eq_false_iff_eq]; omega
    have h4b : (r.toList != emptyF.toList) = true := bne_iff_ne.2 (fun e => h4 (toList_inj e))
    have h4c : (r.toList == emptyF.toList) = false := beq_eq_false_iff_ne.2 (fun e => h4 (toList_inj e))
    generalize emptyF = em at *
    go_enter Try.func37, Try.ntmps37
    go_wp2_with (first
      | ((with_reducible refine gate_dst (N := 3) rfl ?_); refine box_event ?hg (N := 3) ?hd (cs := TV) (t := 31) ?hr ?_; (case hd => rfl); (case hg => rfl); (case hr => first | (go_simp; done) | (go_simp; rfl)); intro gT hg W_ hb hbb; have n_ : Aside0 (Mem.Own w W_ [(gT, TV, 31)]) := ⟨OW.out.new hg hb hbb⟩; clear OW hb hbb hg; have OW := n_; clear n_)
      | ((with_reducible refine gate_dst (N := 24) rfl ?_); (refine load_row_on (by rfl) 31 (.tmp 3) rfl gT rfl 31 TV (0, 0) _ (OW.out.blk 0 rfl) Try.underlying31 rfl HI.out ?_))
      | (go_at_call 30; (with_reducible refine (HM.out _).mono ?_); rintro e w_ ⟨rfl, hB⟩; have n_ := Aside0.mk (OW.out.step hB); clear OW hB; have OW := n_; clear n_))
    go_ret2
    exact ⟨rfl, OW.out.below⟩
def fetZ : Array Value := (List.replicate 72 (Value.int .u32 0)).toArray ++ #[.int .i64 0, .string ⟨#[]⟩, .map none, .map none, .int .i64 0]
def fetP : Nat → Option (Nat × Nat) := (#[(0, 72), (72, 1), (73, 1), (74, 1), (75, 1), (76, 1)][·]?)
theorem built_fillF (parts : List (Nat × Value)) : Try.prog.built 114 parts = Instr.fill fetP fetZ parts := by
  kernel_rfl
theorem fill_one {cs : Array Value} {i off : Nat} {v : Value} {rest : List (Nat × Value)} (hp : fetP i = some (off, 1)) (hv : v.cells = #[v]) (ho : off < cs.size) : Instr.fill fetP cs ((i, v) :: rest) = Instr.fill fetP (cs.setIfInBounds off v) rest := by
  have g : ¬ ((#[v] : Array Value).size ≠ 1 ∨ off + (#[v] : Array Value).size > cs.size) := by simp; omega
  have h := over_arr #[v] off cs
  simp only [Instr.fill, hp, hv, Bool.or_eq_true, decide_eq_true_eq]
  rw [if_neg g, h]
  rfl
def tl5 (a : Int) (b : ByteArray) (c d : Option Nat) (e : Int) : Array Value := #[.int .i64 a, .string b, .map c, .map d, .int .i64 e]
theorem built_fet (s : FS) (gt gb : Nat) (h : s.asked = 0) : Try.prog.built 114 [(0, .agg TV), (1, .int .i64 (s.size : Int)), (2, .string s.root), (3, .map (some gt)), (4, .map (some gb))] = some (fcs s gt gb) := by
  rw [built_fillF]
  have z : fetZ.size = 77 := rfl
  have s1 : TV.size = 72 := tv_size
  have o1 : over fetZ 0 TV.toList = TV ++ tl5 0 ⟨#[]⟩ none none 0 := by
    have := over_mid TV.toList [] (List.replicate 72 (.int .u32 0)) (tl5 0 ⟨#[]⟩ none none 0).toList (by simp [s1])
    simp only [List.nil_append, List.length_nil] at this
    rw [show fetZ = (List.replicate 72 (Value.int .u32 0) ++ (tl5 0 ⟨#[]⟩ none none 0).toList).toArray from by unfold fetZ tl5; rfl, this]
    apply Array.toList_inj.1
    simp
  have hset : ∀ (i : Nat) (v : Value) (r : Array Value), (TV ++ r).setIfInBounds (72 + i) v = TV ++ r.setIfInBounds i v := fun i v r => by
    rw [Array.setIfInBounds_append_right (by rw [s1]; omega), s1, Nat.add_sub_cancel_left]
  have hsz : ∀ (a : Int) (b : ByteArray) (c d : Option Nat) (e : Int), (TV ++ tl5 a b c d e).size = 77 := fun a b c d e => by rw [Array.size_append, s1]; rfl
  have p0 : fetP 0 = some (0, 72) := rfl
  have c1 : (Value.agg TV).cells = TV := rfl
  have g1 : ¬ (TV.size ≠ 72 ∨ 0 + TV.size > fetZ.size) := by rw [s1, z]; decide
  have e0 : Instr.fill fetP fetZ [(0, .agg TV), (1, .int .i64 (s.size : Int)), (2, .string s.root), (3, .map (some gt)), (4, .map (some gb))] = Instr.fill fetP (TV ++ tl5 0 ⟨#[]⟩ none none 0) [(1, .int .i64 (s.size : Int)), (2, .string s.root), (3, .map (some gt)), (4, .map (some gb))] := by
    rw [Instr.fill]
    simp only [p0, c1, over_arr, o1, Bool.or_eq_true, decide_eq_true_eq]
    rw [if_neg g1]
  rw [e0, fill_one (off := 72) rfl rfl (by rw [hsz]; omega), hset 0, show (tl5 0 ⟨#[]⟩ none none 0).setIfInBounds 0 (.int .i64 (s.size : Int)) = tl5 s.size ⟨#[]⟩ none none 0 from rfl,
    fill_one (off := 73) rfl rfl (by rw [hsz]; omega), hset 1, show (tl5 s.size ⟨#[]⟩ none none 0).setIfInBounds 1 (.string s.root) = tl5 s.size s.root none none 0 from rfl,
    fill_one (off := 74) rfl rfl (by rw [hsz]; omega), hset 2, show (tl5 s.size s.root none none 0).setIfInBounds 2 (.map (some gt)) = tl5 s.size s.root (some gt) none 0 from rfl,
    fill_one (off := 75) rfl rfl (by rw [hsz]; omega), hset 3, show (tl5 s.size s.root (some gt) none 0).setIfInBounds 3 (.map (some gb)) = tl5 s.size s.root (some gt) (some gb) 0 from rfl]
  rw [Instr.fill]
  unfold fcs
  rw [h]
  rfl
def mt (n : Nat) (r : ByteArray) : FS := ⟨n, r, fun _ => none, fun _ => none, 0⟩
theorem blk_alloc_new (w : World) (o : Obj) : (w.alloc o).heap[w.heap.size]? = some o := by
  show (w.heap.push o)[w.heap.size]? = some o
  simp
theorem rows_none {K : Type} {W : World} {base gm : Nat} {k : TypeId} {enc : K → Value} (h : IMap W Try.prog k gm (fun _ => none)) : Rows W base gm k enc (fun _ => none) := ⟨_, h, fun x => ⟨fun _ => rfl, fun l h => by cases h⟩⟩
theorem mt_isF (W : World) (base n : Nat) (r : ByteArray) (hb : base ≤ W.heap.size) (hn : n ≤ 64) :
    IsF base (((W.alloc (.map #[] 0)).alloc (.map #[] 0)).alloc (.cells (fcs (mt n r) W.heap.size (W.heap.size + 1)) 114)) (W.heap.size + 1 + 1) W.heap.size (W.heap.size + 1) (mt n r) where
  blk := by
    have e := blk_alloc_new ((W.alloc (.map #[] 0)).alloc (.map #[] 0)) (.cells (fcs (mt n r) W.heap.size (W.heap.size + 1)) 114)
    rw [World.size_alloc, World.size_alloc] at e
    exact e
  tl := rows_none (((IMap.made W Try.prog 24).below' (below_alloc (Below.refl _ _) _)).below' (below_alloc (Below.refl _ _) _))
  bn := by
    have h := IMap.made (W.alloc (.map #[] 0)) Try.prog 3
    rw [World.size_alloc] at h
    exact rows_none (h.below' (below_alloc (Below.refl _ _) _))
  ne := by omega
  ge := by omega
  sz := hn
theorem new_good (n : Nat) (r : ByteArray) (w : World) (hn : n ≤ 64) (hr : r.size = 32) (h0 : n = 0 → r = emptyF) :
    Calls Try.prog 37 #[.agg TV, .int .i64 (n : Int), .string r] w fun e w' => ∃ g gt gb, e = .returned (.tuple #[.pointer (some ⟨g, 0, none⟩), .int .i64 0]) ∧ IsF w.heap.size w' g gt gb (mt n r) ∧ Below w.heap.size w w' := by
  have OW := Aside0.mk (Mem.Own.nil w)
  have HI := Aside0.mk info_tab
  have HM := Aside0.mk mroot_nil
  have hmm := @run_makeMap Try.prog
  have HBF := Aside0.mk (fun gt gb => built_fet (mt n r) gt gb rfl)
  have HN := Aside0.mk hn
  have h2 : ¬ (64 : Int) < (n : Int) := by omega
  have h3b : ((r.size : Int) != 32) = false := by rw [bne_eq_false_iff_eq]; omega
  rcases Nat.eq_zero_or_pos n with hz | hz
  · have h4 := h0 hz
    have h4b : (r.toList != emptyF.toList) = false := by rw [h4]; simp
    have h4c : (r.toList == emptyF.toList) = true := by rw [h4]; simp
    subst hz
    clear h4 h0 hr hn h2
    generalize emptyF = em at *
    go_enter Try.func37, Try.ntmps37
    go_wp2_with (first
      | ((with_reducible refine gate_dst (N := 3) rfl ?_); refine box_event ?hg (N := 3) ?hd (cs := TV) (t := 31) ?hr ?_; (case hd => rfl); (case hg => rfl); (case hr => first | (go_simp; done) | (go_simp; rfl)); intro gT hg W_ hb hbb; have n_ : Aside0 (Mem.Own w W_ [(gT, TV, 31)]) := ⟨OW.out.new hg hb hbb⟩; clear OW hb hbb hg; have OW := n_; clear n_)
      | ((with_reducible refine gate_dst (N := 24) rfl ?_); (refine load_row_on (by rfl) 31 (.tmp 3) rfl gT rfl 31 TV (0, 0) _ (OW.out.blk 0 rfl) Try.underlying31 rfl HI.out ?_))
      | ((with_reducible refine gate_dst (N := 29) rfl ?_); (refine load_row_on (by rfl) 31 (.tmp 3) rfl gT rfl 31 TV (0, 0) _ (OW.out.blk 0 rfl) Try.underlying31 rfl HI.out ?_))
      | (go_at_call 30; (with_reducible refine (HM.out _).mono ?_); rintro e w_ ⟨rfl, hB⟩; have n_ := Aside0.mk (OW.out.step hB); clear OW hB; have OW := n_; clear n_)
      | ((with_reducible refine gate_dst (N := 34) rfl ?_); refine wpList_build rfl 114 #[(0, .tmp 29), (1, .tmp 30), (2, .tmp 31), (3, .tmp 32), (4, .tmp 33)] rfl ?_ ?_))
    · have e := HBF.out w_.heap.size (w_.heap.size + 1)
      exact (congrArg Option.isSome e).trans rfl
    · have e : Try.prog.built 114 [(0, .agg TV), (1, .int .i64 0), (2, .string r), (3, .map (some w_.heap.size)), (4, .map (some (w_.heap.size + 1)))] = some (fcs (mt 0 r) w_.heap.size (w_.heap.size + 1)) := HBF.out w_.heap.size (w_.heap.size + 1)
      clear HBF
      simp only [e, Option.getD_some]
      refine bodyPost_ret (results_tmp2 rfl _ _ _) rfl ⟨_, _, _, rfl, mt_isF w_ _ 0 r OW.out.size HN.out, below_alloc (below_alloc (below_alloc OW.out.below _) _) _⟩
  · have hz1 : ¬ (n : Int) = 0 := by omega
    have hz2 : ((n : Int) == 0) = false := beq_eq_false_iff_ne.2 hz1
    clear h0 hr hn
    go_enter Try.func37, Try.ntmps37
    go_wp2_with (first
      | ((with_reducible refine gate_dst (N := 3) rfl ?_); refine box_event ?hg (N := 3) ?hd (cs := TV) (t := 31) ?hr ?_; (case hd => rfl); (case hg => rfl); (case hr => first | (go_simp; done) | (go_simp; rfl)); intro gT hg W_ hb hbb; have n_ : Aside0 (Mem.Own w W_ [(gT, TV, 31)]) := ⟨OW.out.new hg hb hbb⟩; clear OW hb hbb hg; have OW := n_; clear n_)
      | ((with_reducible refine gate_dst (N := 29) rfl ?_); (refine load_row_on (by rfl) 31 (.tmp 3) rfl gT rfl 31 TV (0, 0) _ (OW.out.blk 0 rfl) Try.underlying31 rfl HI.out ?_))
      | ((with_reducible refine gate_dst (N := 34) rfl ?_); refine wpList_build rfl 114 #[(0, .tmp 29), (1, .tmp 30), (2, .tmp 31), (3, .tmp 32), (4, .tmp 33)] rfl ?_ ?_))
    · have e := HBF.out W_.heap.size (W_.heap.size + 1)
      exact (congrArg Option.isSome e).trans rfl
    · have e : Try.prog.built 114 [(0, .agg TV), (1, .int .i64 (n : Int)), (2, .string r), (3, .map (some W_.heap.size)), (4, .map (some (W_.heap.size + 1)))] = some (fcs (mt n r) W_.heap.size (W_.heap.size + 1)) := HBF.out W_.heap.size (W_.heap.size + 1)
      clear HBF
      simp only [e, Option.getD_some]
      refine bodyPost_ret (results_tmp2 rfl _ _ _) rfl ?_
      first
        | exact ⟨_, _, _, rfl, mt_isF W_ _ n r OW.out.size HN.out, below_alloc (below_alloc (below_alloc OW.out.below _) _) _⟩
        | exact ⟨_, rfl, ⟨_, _, mt_isF W_ _ n r OW.out.size HN.out⟩, below_alloc (below_alloc (below_alloc OW.out.below _) _) _⟩
end Go.Proofs.Ytondnammkcgjpaa.Ft
namespace Go.Proofs.Ytondnammkcgjpaa.Ft
open Go Go.RowKit Go.Shelf Go.Proofs.YtondnammkcgjpaaW.PrintWords Go.Proofs.YtondnammkcgjpaaW.PrintLast Go.Proofs.YtondnammkcgjpaaW.PrintMore Go.Proofs.Ytondnammkcgjpaa.Mp
open Go.Proofs.Ytondnammkcgjpaa.ShaP Go.Proofs.Ytondnammkcgjpaa.Mk Go.Proofs.Ytondnammkcgjpaa.Rg Go.Proofs.Ytondnammkcgjpaa.RgP Go.Proofs.Ytondnammkcgjpaa.Rf Go.Proofs.Ytondnammkcgjpaa.RgL Go.Proofs.Ytondnammkcgjpaa.Til Go.Proofs.Ytondnammkcgjpaa.Fg
def giveF (l : List ByteArray) (b : Bool) (lv ix : Int) : List ByteArray := if b then seg l (4 * ix.toNat) (inTile ix (cntv l.length lv)).toNat else tileF (leavesF l) lv ix
theorem emptyF_size : emptyF.size = 32 := sumF_size _
theorem awake21_c (w : World) : Calls Try.prog 31 #[] w fun e w' => e = .returned (.bool true) ∧ Below w.heap.size w w' := by
  have OW := Aside0.mk (Mem.Own.nil w)
  have HN1 := Aside0.mk (fun W => new_bad (-1) ⟨#[]⟩ W rfl)
  have HN2 := Aside0.mk (fun W => new_good 1 emptyF W (by decide) emptyF_size (fun h => absurd h (by decide)))
  simp only [show ((1 : Nat) : Int) = 1 from rfl] at HN2
  have HH := Aside0.mk (fun W => h_c ⟨#[]⟩ (by decide) W)
  have hfold : Ref01.sumF ⟨#[]⟩ = emptyF := rfl
  rw [hfold] at HH
  clear hfold
  generalize emptyF = em at *
  go_enter Try.func31, Try.ntmps31
  go_wp2_with (first
    | (go_at_call 16; (with_reducible refine (make_c _).mono ?_); rintro e wz ⟨rfl, hB⟩; have n_ := Aside0.mk (OW.out.step hB); clear OW hB; have OW := n_; clear n_)
    | (go_at_call 38; (with_reducible refine (HH.out _).mono ?_); rintro e wz ⟨rfl, hB⟩; have n_ := Aside0.mk (OW.out.step hB); clear OW hB; have OW := n_; clear n_)
    | (go_at_call 37; (with_reducible refine (HN1.out _).mono ?_); rintro e wz ⟨rfl, hB⟩; have n_ := Aside0.mk (OW.out.step hB); clear OW hB; have OW := n_; clear n_)
    | (go_at_call 37; (with_reducible refine (HN2.out _).mono ?_); rintro e wz ⟨g, gt, gb, rfl, _, hB⟩; have n_ := Aside0.mk (OW.out.step hB); clear OW hB; have OW := n_; clear n_))
  go_ret
  exact ⟨rfl, OW.out.below⟩
end Go.Proofs.Ytondnammkcgjpaa.Ft
namespace Go.Proofs.Ytondnammkcgjpaa.Til
open Go Go.Proofs Go.RowKit Go.Shelf

section blocks
variable {w : World} {g t : Nat} {cs : Array Value}
def Blk (w : World) (g t : Nat) (cs : Array Value) : Prop := w.heap[g]? = some (.cells cs t (0, 0))
theorem Blk.cell (h : Blk w g t cs) (i : Nat) : w.cell? ⟨g, i, none⟩ = cs[i]? := by simp [World.cell?, show w.heap[g]? = _ from h]
theorem Blk.frozen (h : Blk w g t cs) (i : Nat) : w.frozen? ⟨g, i, none⟩ = false := by simp [World.frozen?, show w.heap[g]? = _ from h]
theorem Blk.lt (h : Blk w g t cs) : g < w.heap.size := (Array.getElem?_eq_some_iff.1 h).1
theorem Blk.below {w2 : World} {B : Nat} (h : Blk w g t cs) (hb : Below B w w2) (hB : g < B) : Blk w2 g t cs := (hb.block g hB).trans h
theorem Blk.put (h : Blk w g t cs) (i : Nat) (u : Value) : Blk (w.setCell ⟨g, i, none⟩ u) g t (cs.setIfInBounds i u) := by
  unfold Blk at h ⊢
  simp [World.setCell, Array.getElem?_modify, h]
theorem Blk.alloc' (h : Blk w g t cs) (o : Obj) : Blk (w.alloc o) g t cs := (Below.heap_alloc w o g h.lt).trans h
theorem new_blk (w : World) (cs : Array Value) (t : Nat) : Blk (w.alloc (.cells cs t)) w.heap.size t cs := World.alloc_heap_new w _
theorem Blk.puts (h : Blk w g t cs) : ∀ (vs : List Value) (o : Nat), ∃ c2, Blk (w.setCells g o vs) g t c2 ∧ c2.size = cs.size ∧ ∀ k, k < o → c2[k]? = cs[k]? := by
  intro vs
  induction vs generalizing w cs with
  | nil => intro o; exact ⟨cs, h, rfl, fun _ _ => rfl⟩
  | cons v vs ih =>
    intro o
    obtain ⟨c2, h2, hs, hk⟩ := ih (h.put o v) (o + 1)
    refine ⟨c2, h2, by rw [hs]; simp, fun k hlt => (hk k (by omega)).trans ?_⟩
    rw [Array.getElem?_setIfInBounds]
    rw [if_neg (by omega)]
end blocks

theorem zeros_len (cells : Array Value) (n : Nat) : (Builtin.zeroCells cells n).toList.length = n * cells.size := by simp [Builtin.zeroCells]; try omega
theorem run_clear_ids (w : World) (ty : TypeId) (g o n c : Nat) (cs : Array Value) (hb : Blk w g 24 cs) (hn : 0 < n) (hl : o + n * 2 ≤ cs.size) :
    ∃ vs : List Value, (Builtin.clear_ #[88] ty #[.slice (some ⟨g, o, none⟩) n c]).run Try.prog w = .ok (.tuple #[]) (w.setCells g o vs) := by
  obtain ⟨vs, hvs⟩ : ∃ vs, (Builtin.zeroCells (Value.agg #[.int .i64 0, .int .i64 0]).cells n).toList = vs := ⟨_, rfl⟩
  have hlen : vs.length = n * 2 := by rw [← hvs, zeros_len]; rfl
  have hone : ∀ v ∈ vs, v.oneCell' = true := by
    intro v hv
    rw [← hvs] at hv
    simp only [Builtin.zeroCells, Array.toList_map, List.mem_map] at hv
    obtain ⟨i, _, rfl⟩ := hv
    have h2 : i % (Value.agg #[.int .i64 0, .int .i64 0]).cells.size = 0 ∨ i % (Value.agg #[.int .i64 0, .int .i64 0]).cells.size = 1 := by
      show i % 2 = 0 ∨ i % 2 = 1
      omega
    rcases h2 with h2 | h2 <;> rw [h2] <;> rfl
  have hst := run_storeCells_cells (P := Try.prog) g o vs 0 w (fun j hj => by
    show (w.cell? ⟨g, o + 0 + j, none⟩).isSome = true
    rw [hb.cell, Array.getElem?_eq_getElem (by omega)]; rfl) (fun j hj => hb.frozen _) hone
  simp only [Nat.add_zero] at hst
  have hz : ∀ W, (zeroValue 24).run Try.prog W = .ok (.agg #[.int .i64 0, .int .i64 0]) W := Try.zeroValue24
  refine ⟨vs, ?_⟩
  obtain ⟨m, rfl⟩ : ∃ m, n = m + 1 := ⟨n - 1, by omega⟩
  simp [Builtin.clear_, run_underlying Try.underlying88, hz, hvs, hst]

structure RowAt (p : Int × Int → Bool) (xs : List (Int × Int)) (cap i j : Nat) (cs : Array Value) : Prop where
  size : cs.size = cap * 2
  len : i = ((xs.take j).filter fun x => !p x).length
  lt : i < j
  kept : cs.toList.take (i * 2) = idc ((xs.take j).filter fun x => !p x)
  rest : ∀ t, j ≤ t → (h : t < xs.length) → cs[t * 2]? = some (.int .i64 xs[t].1) ∧ cs[t * 2 + 1]? = some (.int .i64 xs[t].2)

theorem take_one {α : Type} (xs : List α) (j : Nat) (h : j < xs.length) : xs.take (j + 1) = xs.take j ++ [xs[j]] := by
  rw [List.take_succ_eq_append_getElem h]
theorem RowAt.skip {p : Int × Int → Bool} {xs : List (Int × Int)} {cap i j : Nat} {cs : Array Value} (h : RowAt p xs cap i j cs) (hj : j < xs.length) (hp : p xs[j] = true) : RowAt p xs cap i (j + 1) cs := by
  have e : (xs.take (j + 1)).filter (fun x => !p x) = (xs.take j).filter (fun x => !p x) := by rw [take_one _ _ hj, List.filter_append]; simp [hp]
  exact ⟨h.size, by rw [e]; exact h.len, by have := h.lt; omega, by rw [e]; exact h.kept, fun t ht hl => h.rest t (by omega) hl⟩
theorem RowAt.keep {p : Int × Int → Bool} {xs : List (Int × Int)} {cap i j : Nat} {cs : Array Value} (h : RowAt p xs cap i j cs) (hj : j < xs.length) (hcap : xs.length ≤ cap) (hp : p xs[j] = false) :
    RowAt p xs cap (i + 1) (j + 1) ((cs.setIfInBounds (i * 2) (.int .i64 xs[j].1)).setIfInBounds (i * 2 + 1) (.int .i64 xs[j].2)) := by
  have e : (xs.take (j + 1)).filter (fun x => !p x) = (xs.take j).filter (fun x => !p x) ++ [xs[j]] := by rw [take_one _ _ hj, List.filter_append]; simp [hp]
  have hs := h.size
  have hlt := h.lt
  refine ⟨by simp [hs], by rw [e, List.length_append, ← h.len]; rfl, by omega, ?_, fun t ht hl => ?_⟩
  · rw [e, idc_app, ← h.kept]
    apply List.ext_getElem?
    intro k
    have hl0 : (cs.toList.take (i * 2)).length = i * 2 := by rw [List.length_take, Array.length_toList, hs]; omega
    simp only [List.getElem?_take, Array.getElem?_toList, Array.getElem?_setIfInBounds, Array.size_setIfInBounds, hs]
    by_cases h1 : k < i * 2
    · rw [List.getElem?_append_left (by rw [hl0]; exact h1), if_pos (by omega), if_neg (by omega), if_neg (by omega), List.getElem?_take, if_pos h1, Array.getElem?_toList]
    · rw [List.getElem?_append_right (by rw [hl0]; omega), hl0]
      by_cases h2 : k = i * 2
      · subst h2
        rw [if_pos (by omega), if_neg (by omega), if_pos rfl, if_pos (by omega), Nat.sub_self]; rfl
      · by_cases h3 : k = i * 2 + 1
        · subst h3
          rw [if_pos (by omega), if_pos rfl, if_pos (by omega), show i * 2 + 1 - i * 2 = 1 by omega]; rfl
        · rw [if_neg (by omega)]
          rw [List.getElem?_eq_none (by simp [idc]; omega)]
  · have := h.rest t (by omega) hl
    simp only [Array.getElem?_setIfInBounds]
    rw [if_neg (by omega), if_neg (by omega), if_neg (by omega), if_neg (by omega)]
    exact this

def PredC (B : Nat) (n : Int) (p : Int × Int → Bool) : Prop :=
  ∀ (W : World) (x : Int × Int), Boxed W B 3 (.int .i64 n) → Calls Try.prog 122 #[.agg #[.int .i64 x.1, .int .i64 x.2], .pointer (some ⟨B, 0, none⟩)] W fun e w2 => e = .returned (.bool (p x)) ∧ Below W.heap.size W w2

def IxPost (p : Int × Int → Bool) (xs : List (Int × Int)) (w : World) (e : Ending) (w2 : World) : Prop :=
  Below w.heap.size w w2 ∧ ((e = .returned (.int .i64 (-1)) ∧ ∀ x ∈ xs, p x = false) ∨ ∃ k, ∃ h : k < xs.length, e = .returned (.int .i64 k) ∧ p xs[k] = true ∧ ∀ x ∈ xs.take k, p x = false)

theorem idc_at (xs : List (Int × Int)) (t : Nat) (h : t < xs.length) : (idc xs)[t * 2]? = some (.int .i64 xs[t].1) ∧ (idc xs)[t * 2 + 1]? = some (.int .i64 xs[t].2) := by
  induction xs generalizing t with
  | nil => simp at h
  | cons x xs ih =>
    match t, h with
    | 0, _ => exact ⟨rfl, rfl⟩
    | t + 1, h =>
      have e : idc (x :: xs) = .int .i64 x.1 :: .int .i64 x.2 :: idc xs := rfl
      rw [e, show (t + 1) * 2 = t * 2 + 1 + 1 by omega]
      exact ih t (by simpa using h)

theorem fnE64 : ∀ args w, (callFunc 122 args).run Try.prog w = .ok (.enter 122 args) w := enters_of Try.func122 (by kernel_rfl) rfl

theorem ix_c (B g : Nat) (n : Int) (p : Int × Int → Bool) (hp : PredC B n p) (xs : List (Int × Int)) (cap : Nat) (cs : Array Value) (w : World) (hB : Boxed w B 3 (.int .i64 n)) (hb : Blk w g 24 cs)
    (hN : xs.length ≤ 1000) (hc : ∀ t, (h : t < xs.length) → cs[t * 2]? = some (.int .i64 xs[t].1) ∧ cs[t * 2 + 1]? = some (.int .i64 xs[t].2)) :
    Calls Try.prog 129 #[.slice (some ⟨g, 0, none⟩) xs.length cap, .func (.func 122) #[] #[.pointer (some ⟨B, 0, none⟩)]] w (IxPost p xs w) := by
  have eg := fnE64
  have HP := Lib.hid hp
  have HC := Lib.hid hc
  have HB := Lib.hid hB
  have Hb := Lib.hid hb
  clear hp hc hB hb
  obtain ⟨N, HN⟩ : ∃ N, Hid (xs.length = N) := ⟨_, rfl⟩
  rw [HN.out] at hN ⊢
  go_enter Try.func129, Try.ntmps129
  go_wp2
  go_loopw [5, 8] (fun _ s8 wr => ∃ k : Nat, k ≤ N ∧ s8 = .int .i64 k ∧ Hid (Below w.heap.size w wr) ∧ Hid (∀ x ∈ xs.take k, p x = false)) (fun _ s8 _ => N - (intOf s8).toNat)
  case atStart => exact ⟨0, Nat.zero_le _, rfl, Below.refl _ w, fun j hj => by simp at hj⟩
  case round =>
    obtain ⟨k, hk, rfl, BW, A⟩ := hrel
    by_cases hlt : k < N
    · have hlx : k < xs.length := by rw [HN.out]; exact hlt
      have hltz : (k : Int) < (N : Int) := by omega
      have hbr := Hb.out.below BW.out Hb.out.lt
      have c1 := (hbr.cell (k * 2)).trans (HC.out k hlx).1
      have c2 := (hbr.cell (k * 2 + 1)).trans (HC.out k hlx).2
      have hcall := HP.out wr xs[k] ((BW.out.block _ HB.out.lt).trans HB.out)
      have At := Lib.hid (take_one xs k hlx)
      clear hbr
      generalize hy : xs[k] = y at c1 c2 hcall
      have Hy := Lib.hid hy
      clear hy
      cases hq : p y with
      | true =>
        rw [hq] at hcall
        go_wp2_with (go_at_fn 122; refine hcall.mono ?_; rintro e w2 ⟨rfl, hb2⟩)
        go_ret
        exact ⟨BW.out.trans (hb2.mono BW.out.size), .inr ⟨k, hlx, rfl, (congrArg p Hy.out).trans hq, A.out⟩⟩
      | false =>
        rw [hq] at hcall
        go_wp2_with (go_at_fn 122; refine hcall.mono ?_; rintro e w2 ⟨rfl, hb2⟩)
        go_roundw
        case rel =>
          refine ⟨k + 1, by omega, by go_num, (show Hid _ from BW.out.trans (hb2.mono BW.out.size)), (show Hid _ from fun x hx => ?_)⟩
          rw [At.out] at hx
          rcases List.mem_append.1 hx with h | h
          · exact A.out x h
          · rw [List.mem_singleton.1 h]; exact (congrArg p Hy.out).trans hq
        case measure => simp [intOf]; omega
    · have hltz : ¬ (k : Int) < (N : Int) := by omega
      obtain rfl : k = N := by omega
      go_wp2
      go_ret
      exact ⟨BW.out, .inl ⟨rfl, by have := A.out; rwa [List.take_of_length_le (by rw [HN.out]; exact Nat.le_refl _)] at this⟩⟩

theorem filter_none {p : Int × Int → Bool} {l : List (Int × Int)} (h : ∀ x ∈ l, p x = false) : l.filter (fun x => !p x) = l := List.filter_eq_self.2 (fun x hx => by rw [h x hx]; rfl)
theorem own_of_blk {w : World} {base g cap N : Nat} {cs : Array Value} (hb : Blk w g 24 cs) (hg : base ≤ g) (hs : cs.size = cap * 2) (hN : N ≤ cap) (hcap : cap ≤ maxLen) (ys : List Value) (hy : cs.toList.take (N * 2) = ys) :
    w.ownsRow base 24 2 (.slice (some ⟨g, 0, none⟩) N cap) N ys :=
  ⟨by rw [← hy, List.length_take, Array.length_toList, hs]; omega, .inr ⟨g, cap, cs, rfl, hg, hb, hN, hcap, hs, hy⟩⟩

def DelPost (xs : List (Int × Int)) (base g : Nat) (w : World) (e : Ending) (w2 : World) : Prop :=
  ∃ v, e = .returned v ∧ w2.ownsRow base 24 2 v xs.length (idc xs) ∧ Below g w w2

theorem del_c (B g base : Nat) (n : Int) (p : Int × Int → Bool) (hp : PredC B n p) (xs : List (Int × Int)) (cap : Nat) (cs : Array Value) (w : World) (hB : Boxed w B 3 (.int .i64 n)) (hb : Blk w g 24 cs)
    (hg : base ≤ g) (hgB : g ≠ B) (hN : xs.length ≤ 1000) (hcap : cap ≤ maxLen) (hNc : xs.length ≤ cap) (hs : cs.size = cap * 2) (hxs : cs.toList.take (xs.length * 2) = idc xs) :
    Calls Try.prog 121 #[.slice (some ⟨g, 0, none⟩) xs.length cap, .func (.func 122) #[] #[.pointer (some ⟨B, 0, none⟩)]] w (DelPost (xs.filter fun x => !p x) base base w) := by
  have hc : ∀ t, (h : t < xs.length) → cs[t * 2]? = some (.int .i64 xs[t].1) ∧ cs[t * 2 + 1]? = some (.int .i64 xs[t].2) := by
    intro t h
    have h1 := idc_at xs t h
    rw [← hxs, List.getElem?_take, if_pos (by omega), List.getElem?_take, if_pos (by omega), Array.getElem?_toList, Array.getElem?_toList] at h1
    exact h1
  have hix := ix_c B g n p hp xs cap cs w hB hb hN hc
  have HIX := Lib.hid hix
  have eg := fnE64
  have HP := Lib.hid hp
  have HC := Lib.hid hc
  have HB := Lib.hid hB
  have Hb := Lib.hid hb
  have Hs := Lib.hid hs
  have Hxs := Lib.hid hxs
  clear hp hc hB hb hs hxs hix
  obtain ⟨N, HN⟩ : ∃ N, Hid (xs.length = N) := ⟨_, rfl⟩
  rw [HN.out] at hN hNc HIX ⊢
  go_enter Try.func121, Try.ntmps121
  go_wp2_with fail
  refine HIX.out.mono ?_
  rintro e w1 ⟨hb1, ⟨rfl, hall⟩ | ⟨k, hk, rfl, hpk, hall⟩⟩
  · have Hall := Lib.hid hall
    have Hb1 := Lib.hid hb1
    clear hall hb1
    go_wp2
    go_ret
    exact ⟨_, rfl, by rw [filter_none Hall.out, HN.out]; exact own_of_blk (Hb.out.below Hb1.out Hb.out.lt) hg Hs.out hNc hcap _ (by rw [← HN.out]; exact Hxs.out), Hb1.out.mono (Nat.le_trans hg (Nat.le_of_lt Hb.out.lt))⟩
  have hkN : k < N := by rw [← HN.out]; exact hk
  have hne1 : ((k : Int) == -1) = false := beq_eq_false_iff_ne.2 (by omega)
  have HI0 : Hid (RowAt p xs cap k (k + 1) cs) := by
    refine (show RowAt p xs cap k (k + 1) cs from ⟨Hs.out, ?_, by omega, ?_, fun t _ h => HC.out t h⟩)
    · rw [take_one _ _ hk, List.filter_append, filter_none hall]; simp [hpk]; omega
    · rw [take_one _ _ hk, List.filter_append, filter_none hall]
      have h2 : [xs[k]].filter (fun x => !p x) = [] := by simp [hpk]
      rw [h2, List.append_nil]
      have h3 : cs.toList.take (k * 2) = (idc xs).take (k * 2) := by rw [← Hxs.out, List.take_take, Nat.min_eq_left (by omega)]
      rw [h3]
      have h4 : idc xs = idc (xs.take k) ++ idc (xs.drop k) := by rw [← idc_app, List.take_append_drop]
      have h5 : (idc (xs.take k)).length = k * 2 := by
        have : ∀ l : List (Int × Int), (idc l).length = l.length * 2 := fun l => by induction l with
          | nil => rfl
          | cons x l ih => have e : idc (x :: l) = .int .i64 x.1 :: .int .i64 x.2 :: idc l := rfl
                           rw [e]; simp [ih]; omega
        rw [this, List.length_take]; omega
      rw [h4, List.take_append_of_le_length (by omega), List.take_of_length_le (by omega)]
  have Hb1 := Lib.hid (Hb.out.below hb1 Hb.out.lt)
  have HB1 := Lib.hid ((hb1.block _ HB.out.lt).trans HB.out : Boxed w1 B 3 (.int .i64 n))
  have HW1 := Lib.hid (hb1.mono (Nat.le_trans hg (Nat.le_of_lt Hb.out.lt)) : Below base w w1)
  have hbw : base ≤ w1.heap.size := Nat.le_trans hg (Nat.le_trans (Nat.le_of_lt Hb.out.lt) hb1.size)
  clear hall hpk hb1 HC HIX
  go_wp2
  go_loopw [5, 6] (fun s5 s6 wr => ∃ (i j : Nat) (c2 : Array Value), s5 = .int .i64 i ∧ s6 = .int .i64 j ∧ j ≤ N ∧ Hid (Blk wr g 24 c2) ∧ Hid (RowAt p xs cap i j c2) ∧ Hid (Boxed wr B 3 (.int .i64 n)) ∧ Hid (Below base w wr)) (fun _ s6 _ => N - (intOf s6).toNat)
  case atStart => exact ⟨k, k + 1, cs, rfl, by go_num, by omega, Hb1, HI0, HB1, HW1⟩
  case round =>
    obtain ⟨i, j, c2, rfl, rfl, hjN, Rb, RI, RB, RW⟩ := hrel
    have hij := RI.out.lt
    by_cases hlt : j < N
    · have hltz : (j : Int) < (N : Int) := by omega
      have hlx : j < xs.length := by rw [HN.out]; exact hlt
      have c1 := (Rb.out.cell (j * 2)).trans (RI.out.rest j (Nat.le_refl _) hlx).1
      have c3 := (Rb.out.cell (j * 2 + 1)).trans (RI.out.rest j (Nat.le_refl _) hlx).2
      have hgr : base ≤ wr.heap.size := Nat.le_trans hg (Nat.le_of_lt Rb.out.lt)
      obtain ⟨y, Hy⟩ : ∃ y, Hid (xs[j] = y) := ⟨xs[j], Lib.hid rfl⟩
      rw [Hy.out] at c1 c3
      have hsz := RI.out.size
      have HI1 : ∃ u1 u2, c2[i * 2]? = some u1 ∧ c2[i * 2 + 1]? = some u2 := ⟨_, _, Array.getElem?_eq_getElem (by omega), Array.getElem?_eq_getElem (by omega)⟩
      obtain ⟨u1, u2, e1, e2⟩ := HI1
      have E1 := Lib.hid e1
      have E2 := Lib.hid e2
      have hcall := HP.out (wr.alloc (.cells #[.int .i64 y.1, .int .i64 y.2] 24)) y (RB.out.alloc _)
      have HSZ := Lib.hid hsz
      clear e1 e2 hsz
      cases hq : p y with
      | false =>
        rw [hq] at hcall
        go_wp2_with fail
        refine hcall.mono ?_
        rintro e w2 ⟨rfl, hb2⟩
        have N1 := Lib.hid ((Rb.out.alloc' (.cells #[.int .i64 y.1, .int .i64 y.2] 24)).below hb2 (by have := Rb.out.lt; simp; omega))
        have d1 := (N1.out.cell (i * 2)).trans E1.out
        have d2 := (N1.out.cell (i * 2 + 1)).trans E2.out
        have d3 := N1.out.frozen (i * 2)
        have d4 := N1.out.frozen (i * 2 + 1)
        have N2 := Lib.hid ((new_blk wr #[.int .i64 y.1, .int .i64 y.2] 24).below hb2 (by simp))
        have d5 := (N2.out.cell 0).trans rfl
        have d6 := (N2.out.cell 1).trans rfl
        have N3 := Lib.hid ((hb2.block _ (RB.out.alloc _).lt).trans (RB.out.alloc _))
        have N4 := Lib.hid ((RW.out.alloc hgr _).trans (hb2.mono (by rw [World.size_alloc]; exact Nat.le_succ_of_le hgr)))
        clear hb2
        go_wp2_with fail
        go_roundw
        case rel =>
          have K1 := RI.out.keep hlx (by rw [HN.out]; exact hNc) ((congrArg p Hy.out).trans hq)
          rw [Hy.out] at K1
          have K2 := (N1.out.put (i * 2) (.int .i64 y.1)).put (i * 2 + 1) (.int .i64 y.2)
          have K3 : Boxed ((w2.setCell ⟨g, i * 2, none⟩ (.int .i64 y.1)).setCell ⟨g, i * 2 + 1, none⟩ (.int .i64 y.2)) B 3 (.int .i64 n) := (Below.heap_setCell _ ⟨g, i * 2 + 1, none⟩ _ B (Ne.symm hgB)).trans ((Below.heap_setCell w2 ⟨g, i * 2, none⟩ _ B (Ne.symm hgB)).trans N3.out)
          have K4 := (N4.out.setCell (p := ⟨g, i * 2, none⟩) hg (.int .i64 y.1)).setCell (p := ⟨g, i * 2 + 1, none⟩) hg (.int .i64 y.2)
          clear N1 N2 N3 N4 d1 d2 d3 d4 d5 d6
          refine ⟨i + 1, j + 1, (c2.setIfInBounds (i * 2) (.int .i64 y.1)).setIfInBounds (i * 2 + 1) (.int .i64 y.2), by go_num, by go_num, by omega, ?_⟩
          exact ⟨K2, K1, K3, K4⟩
        case measure => simp [intOf]; omega
      | true =>
        rw [hq] at hcall
        go_wp2_with fail
        refine hcall.mono ?_
        rintro e w2 ⟨rfl, hb2⟩
        have N1 := Lib.hid ((Rb.out.alloc' (.cells #[.int .i64 y.1, .int .i64 y.2] 24)).below hb2 (by have := Rb.out.lt; simp; omega))
        have N3 := Lib.hid ((hb2.block _ (RB.out.alloc _).lt).trans (RB.out.alloc _))
        have N4 := Lib.hid ((RW.out.alloc hgr _).trans (hb2.mono (by rw [World.size_alloc]; exact Nat.le_succ_of_le hgr)))
        clear hb2
        go_wp2_with fail
        go_roundw
        case rel => exact ⟨i, j + 1, c2, rfl, by go_num, by omega, N1, RI.out.skip hlx ((congrArg p Hy.out).trans hq), N3, N4⟩
        case measure => simp [intOf]; omega
    · have hltz : ¬ (j : Int) < (N : Int) := by omega
      obtain rfl : N = j := by omega
      have hlenk := RI.out.len
      have hsz2 := RI.out.size
      have hiN : i ≤ N := by omega
      have hcl : ∃ vs : List Value, ∀ ty, (Builtin.clear_ #[88] ty #[.slice (some ⟨g, i * 2, none⟩) (N - i) (cap - i)]).run Try.prog wr = .ok (.tuple #[]) (wr.setCells g (i * 2) vs) := by
        obtain ⟨vs, h⟩ := run_clear_ids wr 0 g (i * 2) (N - i) (cap - i) c2 Rb.out (by omega) (by rw [hsz2]; omega)
        exact ⟨vs, fun ty => h⟩
      obtain ⟨vs, hcl⟩ := hcl
      obtain ⟨c4, hb4, hs4, hk4⟩ := Rb.out.puts vs (i * 2)
      have HB4 := Lib.hid hb4
      have HS4 := Lib.hid (hs4.trans hsz2)
      have HK4 := Lib.hid hk4
      have HLK := Lib.hid hlenk
      clear hb4 hs4 hk4 hlenk hsz2
      go_wp2
      go_ret
      have hf : (xs.take N).filter (fun x => !p x) = xs.filter (fun x => !p x) := by rw [List.take_of_length_le (by rw [HN.out]; exact Nat.le_refl _)]
      have hk5 := RI.out.kept
      have hl5 := HLK.out
      rw [hf] at hk5 hl5
      refine ⟨_, rfl, ?_, below_setCells hg vs _ _ RW.out⟩
      rw [← hl5]
      refine own_of_blk HB4.out hg HS4.out (by omega) hcap _ ?_
      rw [← hk5]
      apply List.ext_getElem?
      intro q
      rw [List.getElem?_take, List.getElem?_take]
      by_cases hq : q < i * 2
      · rw [if_pos hq, if_pos hq, Array.getElem?_toList, Array.getElem?_toList, HK4.out q hq]
      · rw [if_neg hq, if_neg hq]
end Go.Proofs.Ytondnammkcgjpaa.Til
namespace Go.Proofs.Ytondnammkcgjpaa.Til
open Go Go.Proofs Go.RowKit Go.Shelf

def WidthC (wd : Int → Int → Int → Int) : Prop :=
  ∀ (n a b : Int) (w : World), Calls Try.prog 50 #[.int .i64 n, .agg #[.int .i64 a, .int .i64 b]] w fun e w2 => e = .returned (.int .i64 (wd n a b)) ∧ Below w.heap.size w w2
def fullB (wd : Int → Int → Int → Int) (n : Int) (x : Int × Int) : Bool := wd n x.1 x.2 == 4

theorem edge1_c (wd : Int → Int → Int → Int) (HW : WidthC wd) (B : Nat) (n : Int) : PredC B n (fullB wd n) := by
  intro W x hB
  have HX := Lib.hid (show fullB wd n x = (wd n x.1 x.2 == 4) from rfl)
  have HWH := Lib.hid HW
  have BB := Lib.hid hB
  have hc := hB.cell
  clear HW hB
  have hlt := BB.out.lt
  have hcn : (W.alloc (.cells #[.int .i64 x.1, .int .i64 x.2] 24)).cell? ⟨B, 0, none⟩ = some (.int .i64 n) := (BB.out.alloc _).cell
  go_enter Try.func122, Try.ntmps122
  go_wp2_with fail
  refine (HWH.out n x.1 x.2 _).mono ?_
  rintro e w2 ⟨rfl, hb2⟩
  have HB2 := Lib.hid hb2
  clear hb2
  go_wp2_with fail
  go_ret
  exact ⟨by rw [HX.out]; rfl, ((Below.refl _ W).alloc (Nat.le_refl _) _).trans (HB2.out.mono (by simp))⟩

theorem ix_nil (f : Value) (w : World) : Calls Try.prog 129 #[.slice none 0 0, f] w fun e w2 => e = .returned (.int .i64 (-1)) ∧ w2 = w := by
  go_enter Try.func129, Try.ntmps129
  go_wp2
  go_loop [8] (fun s8 => s8 = .int .i64 0) (fun _ => 0)
  case atStart => rfl
  case round =>
    subst hrel
    go_wp2
    go_ret
    exact ⟨rfl, rfl⟩
theorem del_nil (f : Value) (w : World) : Calls Try.prog 121 #[.slice none 0 0, f] w fun e w2 => e = .returned (.slice none 0 0) ∧ w2 = w := by
  go_enter Try.func121, Try.ntmps121
  go_wp2_with fail
  refine (ix_nil f w).mono ?_
  rintro e w2 ⟨rfl, rfl⟩
  go_wp2
  go_ret
  exact ⟨rfl, rfl⟩

def edgeF (wd : Int → Int → Int → Int) (n : Int) : List (Int × Int) := (planF n).filter fun x => !fullB wd n x
theorem planF_len (n : Int) : (planF n).length ≤ 64 := by
  unfold planF
  split
  · have h := planL_len (lvs n (ln n))
    rw [lvs_len] at h
    have := ln_le n
    omega
  · simp
theorem edge_c (wd : Int → Int → Int → Int) (HW : WidthC wd) (n : Int) (w : World) : Calls Try.prog 111 #[.int .i64 n] w fun e w2 => ∃ v, e = .returned v ∧ w2.ownsRow w.heap.size 24 2 v (edgeF wd n).length (idc (edgeF wd n)) ∧ Below w.heap.size w w2 := by
  have HP := Lib.hid (plan_c n)
  have HWH := Lib.hid HW
  clear HW
  go_enter Try.func111, Try.ntmps111
  go_wp2_with fail
  refine (HP.out _).mono ?_
  rintro e w2 ⟨v, rfl, ho, hb⟩
  have hBx := Boxed.new w 3 (.int .i64 n)
  have HB := Lib.hid ((hb.block _ hBx.lt).trans hBx : Boxed w2 w.heap.size 3 (.int .i64 n))
  have HW2 := Lib.hid (((Below.refl _ w).alloc (Nat.le_refl _) _).trans (hb.mono (by simp)) : Below w.heap.size w w2)
  have hl := planF_len n
  have HO := Lib.hid ho
  clear ho hb hBx
  rcases HO.out.2 with ⟨rfl, h0⟩ | ⟨g, cap, cur, rfl, hg, hgb, hN, hcap, hsz, hcur⟩
  · have hnil : planF n = [] := List.eq_nil_of_length_eq_zero h0
    have HN := Lib.hid hnil
    clear hnil h0
    go_wp2_with fail
    refine (del_nil _ _).mono ?_
    rintro e w3 ⟨rfl, rfl⟩
    go_wp2
    go_ret
    refine ⟨_, rfl, ?_, HW2.out⟩
    have he : edgeF wd n = [] := by unfold edgeF; rw [HN.out]; rfl
    rw [he]; exact World.ownsRow_nil _ _ _ _
  · have hg2 : w.heap.size + 1 ≤ g := by simpa using hg
    have hd := del_c w.heap.size g w.heap.size n (fullB wd n) (edge1_c wd HWH.out w.heap.size n) (planF n) cap cur w2 HB.out hgb (by omega) (by omega) (by omega) hcap hN hsz hcur
    have HD := Lib.hid hd
    clear hd hg hgb hsz hcur hN hcap
    go_wp2_with fail
    refine HD.out.mono ?_
    rintro e w3 ⟨v, rfl, ho3, hb3⟩
    have HO3 := Lib.hid ho3
    have HB3 := Lib.hid hb3
    clear ho3 hb3
    go_wp2
    go_ret
    exact ⟨_, rfl, HO3.out, HW2.out.trans HB3.out⟩
end Go.Proofs.Ytondnammkcgjpaa.Til
namespace Go.Proofs.Ytondnammkcgjpaa
open Go Go.RowKit
variable {F : Fence} {n : Nat} {P : Program}
def SeqB {α : Type} (F : Fence) (n : Nat) (P : Program) (g : Nat) (lb : Array Value) (encs : α → Array Value) (Kp : World → World → Prop) (S Sp : List α → Prop) (Nx : List α → α → Prop) (w : World) : Prop :=
  ∀ (l : Nat) (J Jx : List α → World → Prop) (W : World), Below w.heap.size w W →
    (∀ s A B, J s A → Below A.heap.size A B → J s B) → (∀ s A B, Jx s A → Below A.heap.size A B → Jx s B) →
    (∀ pre x W1, J pre W1 → Nx pre x → YieldAt F (n - 1) P l (encs x) W1 fun e W2 =>
      (e = .returned (.bool true) ∧ J (pre ++ [x]) W2 ∧ Kp W1 W2) ∨ (e = .returned (.bool false) ∧ Jx (pre ++ [x]) W2)) →
    J [] W →
    CallsIn F n P g (#[.func (.yield l) #[] #[]] ++ lb) W fun e W2 => (∃ v, e = .returned v) ∧ ((∃ xs, S xs ∧ J xs W2) ∨ (∃ pre, Sp pre ∧ Jx pre W2))

theorem keep_blk {A B : World} {k : Nat} {o : Obj} (hB : Below A.heap.size A B) (h : A.heap[k]? = some o) : B.heap[k]? = some o := (hB.block k (Array.getElem?_eq_some_iff.1 h).1).trans h
theorem range_seqX {α : Type} {g : Operand} {ps : Array Tmp} {assign body : Code} {Q : Exit → Act → World → Prop} {a : Act} {w : World}
    (hro : F.round = none) (h1 : 1 ≤ n) {gf : Nat} {lb : Array Value} (hg : a.eval g = .func (.func gf) #[] lb) (hF : F.fn gf) (eg : ∀ args w, (callFunc gf args).run P w = .ok (.enter gf args) w)
    {encs : α → Array Value} {Kp : World → World → Prop} {S Sp : List α → Prop} {Nx : List α → α → Prop} {w0 : World} (hseq : SeqB F (n - 1) P gf lb encs Kp S Sp Nx w0)
    (hKt : ∀ {A B C : World}, Kp A B → Kp B C → Kp A C)
    (hKb : ∀ (W : World) (l : Nat) (o o2 : Obj), w.heap.size ≤ l → W.heap[l]? = some o → o.isCells = false → Kp W (W.putObj l o2))
    (hb0 : Below w0.heap.size w0 w) (hps : ∀ x, (encs x).size = ps.size)
    (I : List α → World → Prop) (Ix : Code → List α → World → Prop) (hI : OwnFrom w.heap.size I) (hIx : ∀ c, OwnFrom w.heap.size (Ix c))
    (hIb : ∀ s A B, I s A → Below A.heap.size A B → I s B) (hIxb : ∀ c s A B, Ix c s A → Below A.heap.size A B → Ix c s B) (h0 : I [] w) (bt : TypeId) (bc : α → Array Value) (hKa : ∀ (W : World) (o : Obj), w.heap.size ≤ W.heap.size → Kp W (W.alloc o)) (a1 : α → Nat → Act)
    (hassign : ∀ (l : Nat) (x : α) (W : World) (K : Act → World → Prop), K (a1 x W.heap.size) (W.alloc (.cells (bc x) bt)) →
      assign.wpIn (F.inRound l) (n - 1 - 1) P (Exit.then K (fun _ _ _ => False)) { tmps := (ps.zip (encs x)).foldl (fun t (p, v) => t.setIfInBounds p v) a.tmps, defers := [] } W)
    (hbody : ∀ (l : Nat) (pre : List α) (x : α) (b : Nat) (W : World), I pre W → Nx pre x → w.heap.size ≤ b → W.heap[b]? = some (.cells (bc x) bt (0, 0)) → body.wpIn (F.inRound l) (n - 1 - 1) P (bodyWay w.heap.size Kp I Ix (pre ++ [x]) W) (a1 x b) W)
    (hdone : ∀ (D : Nat) (xs : List α) (W : World), w.heap.size ≤ D → S xs → I xs W → W.heap[D]? = some (.deferred (some [])) → Q .normal { a with defers := { target := .collected D, args := #[] } :: a.defers } W)
    (hstop : ∀ (D : Nat) (c : Code) (pre : List α) (W : World), w.heap.size ≤ D → Sp pre → Ix c pre W → W.heap[D]? = some (.deferred (some [])) → c.wpIn F n P Q { a with defers := { target := .collected D, args := #[] } :: a.defers } W) :
    (Code.rangeFunc g ps assign body).wpIn F n P Q a w := by
  refine wpIn_rangeFunc fun fn hfn => ?_
  rw [hro]
  obtain ⟨rec, hrec⟩ : ∃ r : LoopState → Option Code → Loop, r = fun st pe => { state := st, pending := pe, fn, tmps := a.tmps, params := ps, assign, body, defers := w.heap.size } := ⟨_, rfl⟩
  obtain ⟨V, hV⟩ : ∃ V, (w.alloc (.deferred (some []))).alloc (.loop (rec .ready none)) = V := ⟨_, rfl⟩
  have hD : V.heap[w.heap.size]? = some (.deferred (some [])) := by rw [← hV]; exact at_alloc _ (World.alloc_heap_new w _)
  have hR : V.heap[w.heap.size + 1]? = some (.loop (rec .ready none)) := by
    rw [← hV]; have h := World.alloc_heap_new (w.alloc (.deferred (some []))) (.loop (rec .ready none)); rwa [World.size_alloc] at h
  have hI0 : I [] V := by rw [← hV]; exact hI.alloc _ (hI.alloc _ h0)
  have hBV : Below w0.heap.size w0 V := by rw [← hV]; exact hb0.trans ((((Below.refl _ w).alloc (Nat.le_refl _) _).alloc (by simp) _).mono hb0.size)
  refine ⟨w.heap.size + 1, [{ target := .collected w.heap.size, args := #[] }], V, { target := .fn (.func gf) lb, args := #[.func (.yield (w.heap.size + 1)) #[] #[]] }, V, gf,
    #[.func (.yield (w.heap.size + 1)) #[] #[]] ++ lb, V, ?_, ?_, ?_, ?_, fun _ => h1, ?_⟩
  · rw [← hV, hrec]; exact run_enterLoop_outer _ _ _ _ _
  · simp only [resolve, hg]; simp [go_sem]
  · intro f2 h2; simp [Target.leads] at h2; subst h2; exact hF
  · simp [invoke, go_sem, eg]
  have hround : ∀ pre x W1, (I pre W1 ∧ W1.heap[w.heap.size + 1]? = some (.loop (rec .ready none)) ∧ W1.heap[w.heap.size]? = some (.deferred (some []))) → Nx pre x →
      YieldAt F (n - 1 - 1) P (w.heap.size + 1) (encs x) W1 fun e W2 =>
        (e = .returned (.bool true) ∧ (I (pre ++ [x]) W2 ∧ W2.heap[w.heap.size + 1]? = some (.loop (rec .ready none)) ∧ W2.heap[w.heap.size]? = some (.deferred (some []))) ∧ Kp W1 W2) ∨
        (e = .returned (.bool false) ∧ ∃ c, Ix c (pre ++ [x]) W2 ∧ W2.heap[w.heap.size + 1]? = some (.loop (rec .done (some c))) ∧ W2.heap[w.heap.size]? = some (.deferred (some []))) := by
    rintro pre x W1 ⟨hi, hl, hd⟩ hlen
    have hlt := (Array.getElem?_eq_some_iff.1 hl).1
    have hy := run_yield (P := P) (args := encs x) hl (by rw [hrec]; exact hps x)
    rw [hrec] at hy
    have hAB : Below W1.heap.size W1 (W1.alloc (.cells (bc x) bt)) := (Below.refl _ W1).alloc (Nat.le_refl _) _
    refine ⟨fn, _, assign, body, hy, roundIn_of_wpIn hfn (hassign _ x W1 _ ⟨_, run_beginRound (at_alloc _ hl) (by rw [hrec]), ?_⟩)⟩
    have hkA : Kp W1 (W1.alloc (.cells (bc x) bt)) := hKa _ _ (by omega)
    have hbx : (W1.alloc (.cells (bc x) bt)).heap[W1.heap.size]? = some (.cells (bc x) bt (0, 0)) := World.alloc_heap_new W1 _
    obtain ⟨bx, hbxe⟩ : ∃ bx, W1.heap.size = bx := ⟨_, rfl⟩
    have hbN : w.heap.size ≤ bx := by omega
    have hbne : w.heap.size + 1 < bx := by omega
    rw [hbxe] at hbx ⊢
    replace hl := at_alloc (.cells (bc x) bt) hl
    replace hd := at_alloc (.cells (bc x) bt) hd
    replace hi := hIb _ _ _ hi hAB
    replace hlt := (Array.getElem?_eq_some_iff.1 hl).1
    obtain ⟨V1, hV1⟩ : ∃ V1, W1.alloc (.cells (bc x) bt) = V1 := ⟨_, rfl⟩
    rw [hV1] at hl hd hi hlt hkA hbx ⊢
    generalize hW3 : V1.putObj (w.heap.size + 1) (.loop { rec .ready none with state := .busy }) = W3
    have hl3 : W3.heap[w.heap.size + 1]? = some (.loop { rec .ready none with state := .busy }) := by rw [← hW3]; exact World.putObj_heap_same hlt
    have hd3 : W3.heap[w.heap.size]? = some (.deferred (some [])) := by rw [← hW3]; exact (World.putObj_heap_other (by omega)).trans hd
    have hk3 : Kp W1 W3 := by rw [← hW3]; exact hKt hkA (hKb _ _ _ _ (by omega) hl rfl)
    have hb3 : W3.heap[bx]? = some (.cells (bc x) bt (0, 0)) := by rw [← hW3]; exact (World.putObj_heap_other (by omega)).trans hbx
    have hi3 : I pre W3 := by rw [← hW3]; exact own_put hI hi (by omega) hl rfl
    have last : ∀ (j : Option Code) (W4 : World), KeepsFrom w.heap.size W3 W4 → ∃ W5, (Instr.endRound (w.heap.size + 1) j).run P W4 = .ok (.bool j.isNone) W5 ∧ W5 = W4.putObj (w.heap.size + 1) (.loop (rec (if j.isNone then .ready else .done) j)) ∧
        W4.heap[w.heap.size + 1]? = some (.loop { rec .ready none with state := .busy }) ∧
        W5.heap[w.heap.size + 1]? = some (.loop (rec (if j.isNone then .ready else .done) j)) ∧ W5.heap[w.heap.size]? = some (.deferred (some [])) := fun j W4 h4 => by
      have hl4 := h4.same _ _ (by omega) hl3 rfl
      have hd4 := h4.same _ _ (Nat.le_refl _) hd3 rfl
      have he := run_endRound (P := P) j hl4
      refine ⟨_, he, ?_, hl4, ?_, ?_⟩
      · rw [hrec]
      · rw [World.putObj_heap_same (Array.getElem?_eq_some_iff.1 hl4).1, hrec]
      · exact (World.putObj_heap_other (by omega)).trans hd4
    refine wpIn_mono (hbody _ pre x bx _ hi3 hlen hbN hb3) ?_
    rintro e a4 W4 hp
    cases e with
    | normal =>
      obtain ⟨h4, hk4, hi4⟩ := hp
      obtain ⟨W5, he, e5, hl4, hl5, hd5⟩ := last none W4 h4
      exact ⟨_, _, he, .inl ⟨rfl, ⟨by rw [e5]; exact own_put hI hi4 (by omega) hl4 rfl, hl5, hd5⟩, by rw [e5]; exact hKt (hKt hk3 hk4) (hKb _ _ _ _ (by omega) hl4 rfl)⟩⟩
    | ret =>
      obtain ⟨h4, hi4⟩ := hp
      obtain ⟨W5, he, e5, hl4, hl5, hd5⟩ := last (some .ret) W4 h4
      exact ⟨_, _, he, .inr ⟨rfl, .ret, by rw [e5]; exact own_put (hIx _) hi4 (by omega) hl4 rfl, hl5, hd5⟩⟩
    | exit i =>
      obtain ⟨h4, hi4⟩ := hp
      obtain ⟨W5, he, e5, hl4, hl5, hd5⟩ := last (some (.exit i)) W4 h4
      exact ⟨_, _, he, .inr ⟨rfl, .exit i, by rw [e5]; exact own_put (hIx _) hi4 (by omega) hl4 rfl, hl5, hd5⟩⟩
    | goto t =>
      obtain ⟨h4, hi4⟩ := hp
      obtain ⟨W5, he, e5, hl4, hl5, hd5⟩ := last (some (.goto t)) W4 h4
      exact ⟨_, _, he, .inr ⟨rfl, .goto t, by rw [e5]; exact own_put (hIx _) hi4 (by omega) hl4 rfl, hl5, hd5⟩⟩
    | panic ch => exact hp.elim
    | outgrown => exact hp.elim
  refine (hseq (w.heap.size + 1)
    (fun pre W => I pre W ∧ W.heap[w.heap.size + 1]? = some (.loop (rec .ready none)) ∧ W.heap[w.heap.size]? = some (.deferred (some [])))
    (fun pre W => ∃ c, Ix c pre W ∧ W.heap[w.heap.size + 1]? = some (.loop (rec .done (some c))) ∧ W.heap[w.heap.size]? = some (.deferred (some [])))
    V hBV (fun s A B h hB => ⟨hIb s A B h.1 hB, keep_blk hB h.2.1, keep_blk hB h.2.2⟩)
    (fun s A B h hB => by obtain ⟨c, hc, hl, hd⟩ := h; exact ⟨c, hIxb c s A B hc hB, keep_blk hB hl, keep_blk hB hd⟩)
    hround ⟨hI0, hR, hD⟩).mono ?_
  rintro e W2 ⟨⟨v, rfl⟩, (⟨xs, hS, hi, hl, hd⟩ | ⟨pre, hSp, c, hi, hl, hd⟩)⟩
  · refine ⟨none, _, by have h := run_endLoop (P := P) hl (by rw [hrec]; simp); rw [hrec] at h; exact h, ?_⟩
    exact hdone _ xs _ (Nat.le_refl _) hS (own_put hI hi (by omega) hl rfl) ((World.putObj_heap_other (by omega)).trans hd)
  · refine ⟨some c, _, by have h := run_endLoop (P := P) hl (by rw [hrec]; simp); rw [hrec] at h; exact h, ?_⟩
    exact hstop _ c pre _ (Nat.le_refl _) hSp (own_put (hIx c) hi (by omega) hl rfl) ((World.putObj_heap_other (by omega)).trans hd)

end Go.Proofs.Ytondnammkcgjpaa
