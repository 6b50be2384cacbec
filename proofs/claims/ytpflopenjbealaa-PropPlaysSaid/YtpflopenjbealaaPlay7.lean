/- Here is proved: the law PropPlays answers true. Conditions: the votes are such as can be. -/
import Derived.Test.YtpflopenjbealaaPlay6
namespace Go.Proofs.Ytpflopenjbealaa.Play
open Go Go.Proofs Go.RowKit Go.Proofs.Ytpflopenjbealaa.PPropPlays Go.Proofs.YtpflopenjbealaaW.PrintWords Go.Proofs.Ytpflopenjbealaa.SetsPropPlays Go.Proofs.YtpflopenjbealaaBits

open Go.Proofs.YtpflopenjbealaaW.PrintLast Go.Proofs.YtpflopenjbealaaW.PrintMore
theorem max_is (ats : Array TypeId) (ty : TypeId) (x y : Int) : Builtin.max_ ats ty #[.int .i64 x, .int .i64 y] = pure (.int .i64 (max x y)) := by
  rw [max_two, max2_int, pure_bind]
  congr 2; omega
theorem min_is (ats : Array TypeId) (ty : TypeId) (x y : Int) : Builtin.min_ ats ty #[.int .i64 x, .int .i64 y] = pure (.int .i64 (min x y)) := by
  rw [min_two, min2_int, pure_bind]
  congr 2; omega
theorem new_b (w0 W : World) (hb : Below w0.heap.size w0 W) (n b : Int) (own : ByteArray) : Calls Try.prog 21 #[.int .i64 n, .int .i64 b, .string own] W fun e w2 =>
    ∃ g : Nat, e = .returned (.pointer (some ⟨g, 0, none⟩)) ∧ IsS57 w0 w2 g (fresh n b own).n (fresh n b own).b (fresh n b own).ph (fresh n b own).v (fresh n b own).best (fresh n b own).fd (fresh n b own).pr (fresh n b own).tk ∧ Below w0.heap.size w0 w2 :=
  (prop_New.calls n b own _ _ _ _ _ _ _ _ w0 W hb (new_f n b own)).mono fun _ _ ⟨g, he, hi, hb1, _⟩ => ⟨g, he, hi, hb1⟩

set_option maxRecDepth 100000 in
set_option maxHeartbeats 8000000 in
theorem plays_c (n0 b : Int) (own : ByteArray) (A : Option Addr) (c : Nat) (l : List S42) (w : World) (hr : Kd.C k42 w A l.length l) (_ : l.length ≤ c) (hl : l.length ≤ maxLen) :
    Calls Try.prog 9 #[.agg #[.int .i64 n0, .int .i64 b], .string own, .slice A l.length c] w fun e w2 => e = .returned (.bool true) ∧ Below w.heap.size w w2 := by
  have HA := Lib.hid (fun V => awake_b V)
  have HRD := Lib.hid hr
  unfold maxLen at hl
  obtain ⟨N, HN⟩ : ∃ N, Hid (l.length = N) := ⟨_, Lib.hid rfl⟩
  rw [HN.out] at hl ⊢
  clear hr
  have hmx := fun ats ty => max_is ats ty n0 1
  have hmn := fun ats ty => min_is ats ty (max n0 1) 63
  obtain ⟨n, HNN⟩ : ∃ n, Hid (min (max n0 1) 63 = n) := ⟨_, Lib.hid rfl⟩
  rw [HNN.out] at hmn
  generalize max n0 1 = M at hmx hmn
  by_cases hlong : N ≤ 100
  · have h100 : decide ((100 : Int) < (N : Int)) = false := decide_eq_false (by omega)
    have h101 : (N : Int) ≤ 100 := by omega
    have h102 : decide (100 < N) = false := decide_eq_false (by omega)
    go_enter Try.func9, Try.ntmps9
    go_wp2_with fail
    go_quiet (fail)
    go_wp2_with fail
    refine (HA.out _).mono ?_
    rintro e w1 ⟨rfl, hb1⟩
    have HB1 : Hid (Below w.heap.size w w1) := Lib.hid ((below_drawn ((Below.refl w.heap.size w).alloc (Nat.le_refl _) (.cells #[.int .i64 n0, .int .i64 b] 49)) _).trans (hb1.mono (by simp)))
    clear hb1
    go_wp2_with fail
    refine (new_b w _ (by first | exact HB1.out | exact below_drawn HB1.out _) n0 b own).mono ?_
    rintro e w2 ⟨gp, rfl, hp2, hb2⟩
    have HP2 := Lib.hid hp2
    have HB2 := Lib.hid hb2
    clear hp2 hb2
    go_wp2_with fail
    go_loopw [11] (fun s11 wr => ∃ (k : Nat) (s : PS) (r : RS), k ≤ N ∧ s11 = .int .i64 k ∧ Hid (Rel n b own s r.P r.T) ∧ Hid (Both w wr gp w2.heap.size n b own s r)) (fun s11 _ => N - (intOf s11).toNat)
    case atStart =>
      refine ⟨0, fresh n0 b own, ⟨none, 0, none, 0, [], []⟩, Nat.zero_le _, rfl, Lib.hid (by rw [← HNN.out]; exact rel_fresh n0 b own), Lib.hid ⟨HP2.out.alloc _, ⟨heap_alloc_new w2 _, HB2.out.size, World.ownsRow_nil _ _ _ _, World.ownsRow_nil _ _ _ _, fun k hk => by simp [Value.ownBlock] at hk⟩, HB2.out.alloc HB2.out.size _⟩⟩
    case round =>
      obtain ⟨k, s, r, hk, rfl, HR, HB⟩ := hrel
      by_cases hlt : k < N
      · have hltz : (k : Int) < (N : Int) := by omega
        obtain ⟨ad, hA, x0, x1, x2, x3, x4⟩ := at_T42 HRD.out (k : Int) (by omega) (by rw [HN.out]; exact hltz)
        subst hA
        rw [Int.toNat_natCast] at x0 x1 x2 x3 x4
        have hlb := World.block_lt_of_cell? w _ x0
        replace x0 := (HB.out.bel.cell hlb).trans x0
        replace x1 := (HB.out.bel.cell (p := ⟨(ad.add (k * 5)).block, (ad.add (k * 5)).off + 1, none⟩) hlb).trans x1
        replace x2 := (HB.out.bel.cell (p := ⟨(ad.add (k * 5)).block, (ad.add (k * 5)).off + 2, none⟩) hlb).trans x2
        replace x3 := (HB.out.bel.cell (p := ⟨(ad.add (k * 5)).block, (ad.add (k * 5)).off + 3, none⟩) hlb).trans x3
        replace x4 := (HB.out.bel.cell (p := ⟨(ad.add (k * 5)).block, (ad.add (k * 5)).off + 4, none⟩) hlb).trans x4
        clear hlb
        generalize rd_T42 l (k : Int) = o at x0 x1 x2 x3 x4
        obtain ⟨of0, of1, of2, of3, of4⟩ := o
        simp only at x0 x1 x2 x3 x4
        cases of0 with
        | true =>
          obtain ⟨x, s2, HX⟩ : ∃ x s2, Hid (accepting s of1 of2 = (x, s2)) := ⟨_, _, Lib.hid rfl⟩
          have hst := rel_step HR.out ⟨true, of1, of2, of3, of4⟩
          rw [show stepS s ⟨true, of1, of2, of3, of4⟩ = (x, s2) from HX.out] at hst
          obtain ⟨P2, T2, HD⟩ : ∃ P2 T2, Hid (doR n b r.P r.T ⟨true, of1, of2, of3, of4⟩ = (x, P2, T2)) := ⟨(doR n b r.P r.T ⟨true, of1, of2, of3, of4⟩).2.1, (doR n b r.P r.T ⟨true, of1, of2, of3, of4⟩).2.2, Lib.hid (Prod.ext hst.1.symm rfl)⟩
          rw [HD.out] at hst
          have HR2 := Lib.hid hst.2
          clear hst
          have hcall := accepted_b (HB.out.alloc (.cells #[.bool true, .int .i64 of1, .int .i64 of2, .int .i64 of3, .string of4] 42)) (rel_ok HR.out) ⟨true, of1, of2, of3, of4⟩
          rw [show accepting s of1 of2 = (x, s2) from HX.out] at hcall
          go_wp2_with fail
          refine hcall.mono ?_
          rintro e w3 ⟨rfl, hB3, hk3⟩
          clear hcall
          have H3 := Lib.hid hB3
          have HK3 := Lib.hid (hk3 _ _ (heap_alloc_new wr _))
          clear hB3 hk3
          have b0 := (blk_cell HK3.out 0).trans rfl
          have b1 := (blk_cell HK3.out 1).trans rfl
          have b2 := (blk_cell HK3.out 2).trans rfl
          have b3 := (blk_cell HK3.out 3).trans rfl
          have b4 := (blk_cell HK3.out 4).trans rfl
          go_wp2_with fail
          refine (do_b H3.out (by have := rel_lens HR.out; omega) (by have := rel_lens HR.out; omega) ⟨true, of1, of2, of3, of4⟩ x P2 T2 HD.out).mono ?_
          rintro e w4 ⟨rfl, r2, e4, e5, hB4⟩
          have H4 := Lib.hid hB4
          have HR4 := Lib.hid (show Rel n b own s2 r2.P r2.T by rw [e4, e5]; exact HR2.out)
          clear hB4 e4 e5 b0 b1 b2 b3 b4
          go_wp2_with fail
          refine (phaseP_b H4.out).mono ?_
          rintro e w5 ⟨rfl, hB5⟩
          have H5 := Lib.hid hB5
          clear hB5
          go_wp2_with fail
          refine (phaseR_b H5.out HR4.out).mono ?_
          rintro e w6 ⟨rfl, hB6⟩
          have H6 := Lib.hid hB6
          clear hB6
          go_wp2_with fail
          refine (valueP_b H6.out).mono ?_
          rintro e w7 ⟨rfl, hB7⟩
          have H7 := Lib.hid hB7
          clear hB7
          go_wp2_with fail
          refine (valueR_b H7.out HR4.out).mono ?_
          rintro e w8 ⟨rfl, hB8⟩
          have H8 := Lib.hid hB8
          clear hB8
          go_wp2_with fail
          have hbal := ballotP_b H8.out
          rw [HR4.out.sb] at hbal
          refine hbal.mono ?_
          rintro e w9 ⟨rfl, hB9⟩
          have H9 := Lib.hid hB9
          clear hB9 hbal
          go_wp2_with fail
          refine (votersP_b H9.out).mono ?_
          rintro e wA ⟨rfl, hBA⟩
          have HBA := Lib.hid hBA
          have k3 := hBA.r.blk.c3
          have k4 := hBA.r.blk.c4
          have HLa := Lib.hid (fun V => len_b s2.pr HR4.out.lp r2.P.length HR4.out.cP V)
          have HLb := Lib.hid (fun V => len_b s2.tk HR4.out.lt r2.T.length HR4.out.cT V)
          clear hBA
          go_wp2_with fail
          go_quiet ((go_at_call 13; first | (with_reducible exact Calls.quiet_of (HLa.out _)) | (with_reducible exact Calls.quiet_of (HLb.out _))))
          go_wp2_with fail
          go_roundw
          case rel => exact ⟨k + 1, s2, r2, by omega, by go_num, HR4, Lib.hid (HBA.out.drawn _)⟩
          case measure => simp [intOf]; omega
        | false =>
          obtain ⟨x, s2, HX⟩ : ∃ x s2, Hid (promise s of1 of2 of3 of4 = (x, s2)) := ⟨_, _, Lib.hid rfl⟩
          have hst := rel_step HR.out ⟨false, of1, of2, of3, of4⟩
          rw [show stepS s ⟨false, of1, of2, of3, of4⟩ = (x, s2) from HX.out] at hst
          obtain ⟨P2, T2, HD⟩ : ∃ P2 T2, Hid (doR n b r.P r.T ⟨false, of1, of2, of3, of4⟩ = (x, P2, T2)) := ⟨(doR n b r.P r.T ⟨false, of1, of2, of3, of4⟩).2.1, (doR n b r.P r.T ⟨false, of1, of2, of3, of4⟩).2.2, Lib.hid (Prod.ext hst.1.symm rfl)⟩
          rw [HD.out] at hst
          have HR2 := Lib.hid hst.2
          clear hst
          have hcall := promised_b (HB.out.alloc (.cells #[.bool false, .int .i64 of1, .int .i64 of2, .int .i64 of3, .string of4] 42)) (rel_ok HR.out) ⟨false, of1, of2, of3, of4⟩
          rw [show promise s of1 of2 of3 of4 = (x, s2) from HX.out] at hcall
          go_wp2_with fail
          refine hcall.mono ?_
          rintro e w3 ⟨rfl, hB3, hk3⟩
          clear hcall
          have H3 := Lib.hid hB3
          have HK3 := Lib.hid (hk3 _ _ (heap_alloc_new wr _))
          clear hB3 hk3
          have b0 := (blk_cell HK3.out 0).trans rfl
          have b1 := (blk_cell HK3.out 1).trans rfl
          have b2 := (blk_cell HK3.out 2).trans rfl
          have b3 := (blk_cell HK3.out 3).trans rfl
          have b4 := (blk_cell HK3.out 4).trans rfl
          go_wp2_with fail
          refine (do_b H3.out (by have := rel_lens HR.out; omega) (by have := rel_lens HR.out; omega) ⟨false, of1, of2, of3, of4⟩ x P2 T2 HD.out).mono ?_
          rintro e w4 ⟨rfl, r2, e4, e5, hB4⟩
          have H4 := Lib.hid hB4
          have HR4 := Lib.hid (show Rel n b own s2 r2.P r2.T by rw [e4, e5]; exact HR2.out)
          clear hB4 e4 e5 b0 b1 b2 b3 b4
          go_wp2_with fail
          refine (phaseP_b H4.out).mono ?_
          rintro e w5 ⟨rfl, hB5⟩
          have H5 := Lib.hid hB5
          clear hB5
          go_wp2_with fail
          refine (phaseR_b H5.out HR4.out).mono ?_
          rintro e w6 ⟨rfl, hB6⟩
          have H6 := Lib.hid hB6
          clear hB6
          go_wp2_with fail
          refine (valueP_b H6.out).mono ?_
          rintro e w7 ⟨rfl, hB7⟩
          have H7 := Lib.hid hB7
          clear hB7
          go_wp2_with fail
          refine (valueR_b H7.out HR4.out).mono ?_
          rintro e w8 ⟨rfl, hB8⟩
          have H8 := Lib.hid hB8
          clear hB8
          go_wp2_with fail
          have hbal := ballotP_b H8.out
          rw [HR4.out.sb] at hbal
          refine hbal.mono ?_
          rintro e w9 ⟨rfl, hB9⟩
          have H9 := Lib.hid hB9
          clear hB9 hbal
          go_wp2_with fail
          refine (votersP_b H9.out).mono ?_
          rintro e wA ⟨rfl, hBA⟩
          have HBA := Lib.hid hBA
          have k3 := hBA.r.blk.c3
          have k4 := hBA.r.blk.c4
          have HLa := Lib.hid (fun V => len_b s2.pr HR4.out.lp r2.P.length HR4.out.cP V)
          have HLb := Lib.hid (fun V => len_b s2.tk HR4.out.lt r2.T.length HR4.out.cT V)
          clear hBA
          go_wp2_with fail
          go_quiet ((go_at_call 13; first | (with_reducible exact Calls.quiet_of (HLa.out _)) | (with_reducible exact Calls.quiet_of (HLb.out _))))
          go_wp2_with fail
          go_roundw
          case rel => exact ⟨k + 1, s2, r2, by omega, by go_num, HR4, Lib.hid (HBA.out.drawn _)⟩
          case measure => simp [intOf]; omega
      · have hltz : ¬ (k : Int) < (N : Int) := by omega
        go_wp2_with fail
        go_ret
        exact ⟨rfl, HB.out.bel⟩
  · have h100 : decide ((100 : Int) < (N : Int)) = true := decide_eq_true (by omega)
    have h101 : (100 : Int) < (N : Int) := by omega
    go_enter Try.func9, Try.ntmps9
    go_wp2_with fail
    go_quiet (fail)
    go_wp2_with fail
    refine (HA.out _).mono ?_
    rintro e w1 ⟨rfl, hb1⟩
    have HB1 : Hid (Below w.heap.size w w1) := Lib.hid ((below_drawn ((Below.refl w.heap.size w).alloc (Nat.le_refl _) (.cells #[.int .i64 n0, .int .i64 b] 49)) _).trans (hb1.mono (by simp)))
    clear hb1
    go_wp2_with fail
    refine (HA.out _).mono ?_
    rintro e w2 ⟨rfl, hb2⟩
    have HB2 : Hid (Below w.heap.size w w2) := Lib.hid (HB1.out.trans (hb2.mono HB1.out.size))
    clear hb2
    go_wp2_with fail
    go_ret
    exact ⟨rfl, HB2.out⟩
end Go.Proofs.Ytpflopenjbealaa.Play
