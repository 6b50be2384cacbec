/- Here is proved: what the reference's Do and Value of layer 18 tell. Conditions: none. -/
import Derived.Test.YtpflopenjbealaaPlay3
namespace Go.Proofs.Ytpflopenjbealaa.Play
open Go Go.Proofs Go.RowKit Go.Proofs.Ytpflopenjbealaa.PPropPlays Go.Proofs.YtpflopenjbealaaW.PrintWords

theorem do_c (base g : Nat) (n b : Int) (own : ByteArray) (A3 : Option Addr) (q3 : Nat) (A4 : Option Addr) (q4 : Nat) (P T : List S42) (o : S42) (w : World) (hR : Ref base w g n b own A3 q3 A4 q4 P T)
    (hbase : base ≤ w.heap.size) (hP : P.length ≤ 900) (hT : T.length ≤ 900) :
    Calls Try.prog 27 #[.pointer (some ⟨g, 0, none⟩), opv o] w (DoPost base g n b own w (doR n b P T o)) := by
  obtain ⟨of0, of1, of2, of3, of4⟩ := o
  unfold doR
  simp only
  by_cases c1 : of2 ≠ b ∨ of1 < 0 ∨ of1 ≥ n
  · rw [if_pos c1]
    by_cases d1 : of2 = b
    · subst d1
      by_cases d2 : of1 < 0
      · exact do_no2 base g n of2 own A3 q3 A4 q4 P T of0 of1 of3 of4 w hR hbase hP hT d2
      · exact do_no3 base g n of2 own A3 q3 A4 q4 P T of0 of1 of3 of4 w hR hbase hP hT (by omega) (by omega)
    · exact do_no1 base g n b own A3 q3 A4 q4 P T of0 of1 of2 of3 of4 w hR hbase hP hT d1
  · rw [if_neg c1]
    obtain rfl : of2 = b := by omega
    have d2 : 0 ≤ of1 := by omega
    have d3 : of1 < n := by omega
    cases of0 with
    | true =>
      rw [if_neg (fun h => absurd h.1 (by decide))]
      by_cases h1 : phaseOf n P.length T.length = 2
      · cases h2 : hadIn T of1 with
        | true =>
          rw [if_neg (fun h => absurd h.2.2 (by decide)), bne_self_eq_false]
          exact do_a1 base g n of2 own A3 q3 A4 q4 P T of1 of3 of4 w hR hbase hP hT d2 d3 h1 h2
        | false =>
          rw [if_pos ⟨rfl, h1, rfl⟩, h1, List.length_append]
          exact do_a0 base g n of2 own A3 q3 A4 q4 P T of1 of3 of4 w hR hbase hP hT d2 d3 h1 h2
      · rw [if_neg (fun h => h1 h.2.1), bne_self_eq_false]
        exact do_a2 base g n of2 own A3 q3 A4 q4 P T of1 of3 of4 w hR hbase hP hT d2 d3 h1
    | false =>
      have hn : ¬ (false = true ∧ phaseOf n P.length T.length = 2 ∧ hadIn T of1 = false) := fun h => absurd h.1 (by decide)
      rw [if_neg hn]
      by_cases h1 : phaseOf n P.length T.length = 1
      · cases h2 : hadIn P of1 with
        | true =>
          rw [if_neg (fun h => absurd h.2.2 (by decide)), bne_self_eq_false]
          exact do_p1 base g n of2 own A3 q3 A4 q4 P T of1 of3 of4 w hR hbase hP hT d2 d3 h1 h2
        | false =>
          rw [if_pos ⟨rfl, h1, rfl⟩, h1, List.length_append]
          exact do_p0 base g n of2 own A3 q3 A4 q4 P T of1 of3 of4 w hR hbase hP hT d2 d3 h1 h2
      · rw [if_neg (fun h => h1 h.2.1), bne_self_eq_false]
        exact do_p2 base g n of2 own A3 q3 A4 q4 P T of1 of3 of4 w hR hbase hP hT d2 d3 h1

/-- the best vote so far -/
def bestK (own : ByteArray) (P : List S42) : Int × ByteArray := P.foldl (fun s o => if o.f3 > s.1 then (o.f3, o.f4) else s) (0, own)
def valueOf (n : Int) (own : ByteArray) (P T : List S42) : ByteArray := if phaseOf n P.length T.length = 1 then own else (bestK own P).2

set_option maxRecDepth 100000 in
set_option maxHeartbeats 4000000 in
theorem value_c (base g : Nat) (n b : Int) (own : ByteArray) (A3 : Option Addr) (q3 : Nat) (A4 : Option Addr) (q4 : Nat) (P T : List S42) (w : World) (hR : Ref base w g n b own A3 q3 A4 q4 P T) (hP : P.length ≤ 900) (hT : T.length ≤ 900) :
    Calls Try.prog 29 #[.pointer (some ⟨g, 0, none⟩)] w fun e w2 => e = .returned (.string (valueOf n own P T)) ∧ ∃ m, w2 = w.drewN m := by
  have HPH := Lib.hid (phase_c g n b own A3 A4 P.length T.length q3 q4 (by omega) (by omega) w hR.blk)
  have HR := Lib.hid hR
  have k2 := hR.blk.c2
  have k3 := hR.blk.c3
  clear hR
  obtain ⟨ph, HP1⟩ : ∃ ph, Hid (phaseOf n P.length T.length = ph) := ⟨_, Lib.hid rfl⟩
  rw [HP1.out] at HPH
  by_cases h1 : ph = 1
  · subst h1
    have HV := Lib.hid (show valueOf n own P T = own by unfold valueOf; rw [if_pos HP1.out])
    go_enter Try.func29, Try.ntmps29
    go_wp2_with fail
    refine HPH.out.mono ?_
    rintro e w2 ⟨rfl, m, rfl⟩
    go_wp2_with fail
    go_ret
    exact ⟨by rw [HV.out]; rfl, _, rfl⟩
  · have h1' : (ph == 1) = false := beq_eq_false_iff_ne.2 h1
    have HV := Lib.hid (show valueOf n own P T = (bestK own P).2 by unfold valueOf; rw [HP1.out, if_neg h1])
    clear h1
    go_enter Try.func29, Try.ntmps29
    go_wp2_with fail
    refine HPH.out.mono ?_
    rintro e w2 ⟨rfl, m, rfl⟩
    go_wp2_with fail
    go_quiet (fail)
    go_wp2_with fail
    simp only [World.drewN_drewN]
    refine wp_named (U := w) ?_ _
    rintro W5 ⟨M, hM⟩
    have e3 : W5.cell? ⟨g, 3, none⟩ = some (.slice A3 P.length q3) := by rw [hM]; exact HR.out.blk.c3
    have HO := Lib.hid (show W5.ownsRow base 42 5 (.slice A3 P.length q3) P.length (opcs P) by rw [hM]; exact HR.out.rowP)
    have HM := Lib.hid hM
    clear hM k2 k3
    obtain ⟨N, HN⟩ : ∃ N, Hid (P.length = N) := ⟨_, Lib.hid rfl⟩
    rw [HN.out] at e3 hP
    go_loop [3, 4, 5] (fun s3 s4 s5 => ∃ (k : Nat) (bb : Int) (vv : ByteArray), k ≤ N ∧ s5 = .int .i64 k ∧ s3 = .int .i64 bb ∧ s4 = .string vv ∧ Hid (bestK own (P.take k) = (bb, vv))) (fun _ _ s5 => N - (intOf s5).toNat)
    case atStart => exact ⟨0, 0, own, Nat.zero_le _, rfl, rfl, rfl, Lib.hid rfl⟩
    case round =>
      obtain ⟨k, bb, vv, hk, rfl, rfl, rfl, HB⟩ := hrel
      by_cases hlt : k < N
      · have hlx : k < P.length := by rw [HN.out]; exact hlt
        have hltz : (k : Int) < (N : Int) := by omega
        obtain ⟨gp, cp, hvp, _, _⟩ := HO.out.form (by omega)
        injection hvp with i1 i2 i3
        subst i1
        clear i2 i3
        have HT := Lib.hid (show bestK own (P.take (k + 1)) = if P[k].f3 > bb then (P[k].f3, P[k].f4) else (bb, vv) by
          have := HB.out
          unfold bestK at this ⊢
          rw [List.take_succ_eq_append_getElem hlx, List.foldl_append, this]
          rfl)
        have c3 := HO.out.cells (g := gp) rfl _ _ (opcs_at P k P[k] (List.getElem?_eq_getElem hlx) 3 _ rfl)
        have c4 := HO.out.cells (g := gp) rfl _ _ (opcs_at P k P[k] (List.getElem?_eq_getElem hlx) 4 _ rfl)
        rw [show ((⟨gp, 0, none⟩ : Addr).add (k * 5 + 3)) = ⟨gp, k * 5 + 3, none⟩ by simp [Addr.add]] at c3
        rw [show ((⟨gp, 0, none⟩ : Addr).add (k * 5 + 4)) = ⟨gp, k * 5 + 4, none⟩ by simp [Addr.add]] at c4
        generalize P[k].f3 = x3 at c3 HT
        generalize P[k].f4 = x4 at c4 HT
        by_cases hb : bb < x3
        · go_wp2_with fail
          go_round
          case rel => exact ⟨k + 1, x3, x4, by omega, by go_num, rfl, rfl, Lib.hid (HT.out.trans (if_pos hb))⟩
          case measure => simp [intOf]; omega
        · have hb2 : x3 ≤ bb := by omega
          clear hb
          go_wp2_with fail
          go_round
          case rel => exact ⟨k + 1, bb, vv, by omega, by go_num, rfl, rfl, Lib.hid (HT.out.trans (if_neg (by omega)))⟩
          case measure => simp [intOf]; omega
      · have hltz : ¬ (k : Int) < (N : Int) := by omega
        obtain rfl : N = k := by omega
        have HE := Lib.hid (show (bestK own P).2 = vv by have := HB.out; rw [List.take_of_length_le (by rw [HN.out]; exact Nat.le_refl _)] at this; rw [this])
        go_wp2_with fail
        go_ret
        exact ⟨by rw [HV.out, HE.out]; rfl, M, HM.out⟩
end Go.Proofs.Ytpflopenjbealaa.Play
