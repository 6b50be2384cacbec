/- Here is proved: what the reference's Do of layer 18 does to its lists. Conditions: none. -/
import Derived.Test.YtpflopenjbealaaPlay1
namespace Go.Proofs.Ytpflopenjbealaa.Play
open Go Go.Proofs Go.RowKit Go.Proofs.Ytpflopenjbealaa.PPropPlays Go.Proofs.YtpflopenjbealaaW.PrintWords

def hadIn (l : List S42) (x : Int) : Bool := l.any fun o => o.f1 == x
/-- what a vote does -/
def doR (n b : Int) (P T : List S42) (o : S42) : Bool × List S42 × List S42 :=
  if o.f2 ≠ b ∨ o.f1 < 0 ∨ o.f1 ≥ n then (false, P, T)
  else
    let P2 := if o.f0 = false ∧ phaseOf n P.length T.length = 1 ∧ hadIn P o.f1 = false then P ++ [o] else P
    let T2 := if o.f0 = true ∧ phaseOf n P.length T.length = 2 ∧ hadIn T o.f1 = false then T ++ [o] else T
    (phaseOf n P2.length T2.length != phaseOf n P.length T.length, P2, T2)

theorem had_loop (l : List S42) (x : Int) (hl : l.length ≤ 1000) (d : Nat) : ∀ (k i : Nat), i + d = l.length → d < k → annalistref18_had.l0 k l x (i : Int) = some (hadIn (l.drop i) x) := by
  induction d with
  | zero =>
    intro k i h hk
    obtain ⟨k, rfl⟩ : ∃ m, k = m + 1 := ⟨k - 1, by omega⟩
    simp only [annalistref18_had.l0]
    rw [if_neg (by omega), List.drop_of_length_le (by omega)]
    rfl
  | succ d ih =>
    intro k i h hk
    obtain ⟨k, rfl⟩ : ∃ m, k = m + 1 := ⟨k - 1, by omega⟩
    have hlt : i < l.length := by omega
    have e1 : rd_T42 l (i : Int) = l[i] := by
      unfold rd_T42
      rw [Int.toNat_natCast, List.getD_eq_getElem?_getD, List.getElem?_eq_getElem hlt, Option.getD_some]
    have e2 : wrap64 ((i : Int) + 1) = ((i + 1 : Nat) : Int) := by unfold wrap64; omega
    have e3 : hadIn (l.drop i) x = ((l[i].f1 == x) || hadIn (l.drop (i + 1)) x) := by
      unfold hadIn
      rw [List.drop_eq_getElem_cons hlt, List.any_cons]
    simp only [annalistref18_had.l0]
    rw [if_pos (by omega), if_pos (by omega), e1, e2, e3]
    by_cases hx : l[i].f1 = x
    · rw [if_pos hx, beq_iff_eq.2 hx, Bool.true_or]
    · rw [if_neg hx, beq_eq_false_iff_ne.2 hx, Bool.false_or]
      exact ih k (i + 1) (by omega) (by omega)
theorem had_f (l : List S42) (x : Int) (hl : l.length ≤ 1000) : annalistref18_had.f 1002 l x = some (hadIn l x) :=
  had_loop l x hl l.length 1002 0 (by omega) (by omega)
theorem had_c (A : Option Addr) (c : Nat) (l : List S42) (x : Int) (hl : l.length ≤ 1000) (w : World) (hr : Kd.C k42 w A l.length l) (hc : l.length ≤ c) (r : Bool) (h : hadIn l x = r) :
    Calls Try.prog 33 #[.slice A l.length c, .int .i64 x] w fun e w2 => e = .returned (.bool r) ∧ ∃ m, w2 = w.drewN m := by
  subst h
  exact (annalistref18_had.calls 1002 A c l x _ w hr hc (had_f l x hl)).mono fun _ _ ⟨he, hd⟩ => ⟨he, hd.out⟩

theorem info42 : (Try.prog.info? 42).map (fun i => (i.zero, i.size, i.bytes)) = some (some (.agg #[.bool false, .int .i64 0, .int .i64 0, .int .i64 0, .string ⟨#[]⟩]), 5, 48) := by kernel_rfl

/-- the reference's state: its block, and the two rows of votes, apart -/
structure Ref (base : Nat) (w : World) (g : Nat) (n b : Int) (own : ByteArray) (A3 : Option Addr) (q3 : Nat) (A4 : Option Addr) (q4 : Nat) (P T : List S42) : Prop where
  blk : RefAt w g n b own (.slice A3 P.length q3) (.slice A4 T.length q4)
  ge : base ≤ g
  rowP : w.ownsRow base 42 5 (.slice A3 P.length q3) P.length (opcs P)
  rowT : w.ownsRow base 42 5 (.slice A4 T.length q4) T.length (opcs T)
  apart : ∀ k, (Value.slice A3 P.length q3).ownBlock = some k → (Value.slice A4 T.length q4).ownBlock ≠ some k
abbrev opv (o : S42) : Value := .agg #[.bool o.f0, .int .i64 o.f1, .int .i64 o.f2, .int .i64 o.f3, .string o.f4]

def DoPost (base : Nat) (g : Nat) (n b : Int) (own : ByteArray) (w : World) (r : Bool × List S42 × List S42) (e : Ending) (w2 : World) : Prop :=
  e = .returned (.bool r.1) ∧ (∃ A5 q5 A6 q6, Ref base w2 g n b own A5 q5 A6 q6 r.2.1 r.2.2) ∧ Below base w w2 ∧
  (∀ (k t : Nat) (cs : Array Value), t ≠ 42 → t ≠ 52 → w.heap[k]? = some (Obj.cells cs t (0, 0)) → w2.heap[k]? = some (Obj.cells cs t (0, 0)))

theorem alloc_heap {w : World} {k : Nat} {o2 : Obj} (o : Obj) (h : w.heap[k]? = some o2) : (w.alloc o).heap[k]? = some o2 := (Below.heap_alloc _ _ _ (Array.getElem?_eq_some_iff.1 h).1).trans h
theorem wp_named {P : Program} {c : Code} {Q : Exit → Act → World → Prop} {a : Act} {U : World} (h : ∀ W5 : World, (∃ M, W5 = U.drewN M) → Code.wp P c Q a W5) (M : Nat) : Code.wp P c Q a (U.drewN M) := h _ ⟨M, rfl⟩
theorem own_heap {U V : World} {base e size : Nat} {v : Value} {n : Nat} {xs : List Value} (h : U.ownsRow base e size v n xs) (hV : V.heap = U.heap) : V.ownsRow base e size v n xs := by
  unfold World.ownsRow at h ⊢; rw [hV]; exact h
theorem ref_quiet {base g : Nat} {n b : Int} {own : ByteArray} {A3 : Option Addr} {q3 : Nat} {A4 : Option Addr} {q4 : Nat} {P T : List S42} {w : World} (h : Ref base w g n b own A3 q3 A4 q4 P T) (o : Obj) (m : Nat) : Ref base ((w.alloc o).drewN m) g n b own A3 q3 A4 q4 P T :=
  ⟨alloc_heap o h.blk, h.ge, h.rowP.alloc o, h.rowT.alloc o, h.apart⟩
theorem post_quiet {base g : Nat} {n b : Int} {own : ByteArray} {A3 : Option Addr} {q3 : Nat} {A4 : Option Addr} {q4 : Nat} {P T : List S42} {w : World} (h : Ref base w g n b own A3 q3 A4 q4 P T) (hbase : base ≤ w.heap.size) (o : Obj) (m : Nat) (r : Bool) (e : Ending) (he : e = .returned (.bool r)) :
    DoPost base g n b own w (r, P, T) e ((w.alloc o).drewN m) :=
  ⟨he, ⟨_, _, _, _, ref_quiet h o m⟩, let hb := (Below.refl base w).alloc hbase o; ⟨hb.os, hb.tape, hb.output, hb.size, hb.block⟩, fun _ _ _ _ _ hk => alloc_heap o hk⟩

set_option maxRecDepth 100000 in
set_option maxHeartbeats 4000000 in
theorem do_no1 (base g : Nat) (n b : Int) (own : ByteArray) (A3 : Option Addr) (q3 : Nat) (A4 : Option Addr) (q4 : Nat) (P T : List S42) (of0 : Bool) (of1 of2 of3 : Int) (of4 : ByteArray) (w : World) (hR : Ref base w g n b own A3 q3 A4 q4 P T)
    (hbase : base ≤ w.heap.size) (hP : P.length ≤ 900) (hT : T.length ≤ 900) (d1 : of2 ≠ b) :
    Calls Try.prog 27 #[.pointer (some ⟨g, 0, none⟩), opv ⟨of0, of1, of2, of3, of4⟩] w (DoPost base g n b own w ((false, P, T))) := by
  have hph := fun (W : World) (h : RefAt W g n b own (.slice A3 P.length q3) (.slice A4 T.length q4)) => phase_c g n b own A3 A4 P.length T.length q3 q4 (by omega) (by omega) W h
  have hbk : RefAt (w.alloc (.cells #[.bool of0, .int .i64 of1, .int .i64 of2, .int .i64 of3, .string of4] 42)) g n b own (.slice A3 P.length q3) (.slice A4 T.length q4) := alloc_heap _ hR.blk
  have HPH := Lib.hid hph
  have HK := Lib.hid hbk
  have HR := Lib.hid hR
  have k0 := hbk.c0
  have k1 := hbk.c1
  have k2 := hbk.c2
  have k3 := hbk.c3
  have k4 := hbk.c4
  clear hph hbk hR
  obtain ⟨ph, HP1⟩ : ∃ ph, Hid (phaseOf n P.length T.length = ph) := ⟨_, Lib.hid rfl⟩
  rw [HP1.out] at HPH
  have d1' : (of2 != b) = true := bne_iff_ne.2 d1
  clear d1
  go_enter Try.func27, Try.ntmps27
  go_wp2_with fail
  refine (HPH.out _ HK.out).mono ?_
  rintro e w2 ⟨rfl, m, rfl⟩
  go_wp2_with fail
  go_quiet (fail)
  go_wp2_with fail
  go_ret
  simp only [World.drewN_drewN]
  refine post_quiet HR.out hbase _ _ _ _ ?_
  rfl
set_option maxRecDepth 100000 in
set_option maxHeartbeats 4000000 in
theorem do_no2 (base g : Nat) (n b : Int) (own : ByteArray) (A3 : Option Addr) (q3 : Nat) (A4 : Option Addr) (q4 : Nat) (P T : List S42) (of0 : Bool) (of1 of3 : Int) (of4 : ByteArray) (w : World) (hR : Ref base w g n b own A3 q3 A4 q4 P T)
    (hbase : base ≤ w.heap.size) (hP : P.length ≤ 900) (hT : T.length ≤ 900) (d2 : of1 < 0) :
    Calls Try.prog 27 #[.pointer (some ⟨g, 0, none⟩), opv ⟨of0, of1, b, of3, of4⟩] w (DoPost base g n b own w ((false, P, T))) := by
  have hph := fun (W : World) (h : RefAt W g n b own (.slice A3 P.length q3) (.slice A4 T.length q4)) => phase_c g n b own A3 A4 P.length T.length q3 q4 (by omega) (by omega) W h
  have hbk : RefAt (w.alloc (.cells #[.bool of0, .int .i64 of1, .int .i64 b, .int .i64 of3, .string of4] 42)) g n b own (.slice A3 P.length q3) (.slice A4 T.length q4) := alloc_heap _ hR.blk
  have HPH := Lib.hid hph
  have HK := Lib.hid hbk
  have HR := Lib.hid hR
  have k0 := hbk.c0
  have k1 := hbk.c1
  have k2 := hbk.c2
  have k3 := hbk.c3
  have k4 := hbk.c4
  clear hph hbk hR
  obtain ⟨ph, HP1⟩ : ∃ ph, Hid (phaseOf n P.length T.length = ph) := ⟨_, Lib.hid rfl⟩
  rw [HP1.out] at HPH
  go_enter Try.func27, Try.ntmps27
  go_wp2_with fail
  refine (HPH.out _ HK.out).mono ?_
  rintro e w2 ⟨rfl, m, rfl⟩
  go_wp2_with fail
  go_quiet (fail)
  go_wp2_with fail
  go_ret
  simp only [World.drewN_drewN]
  refine post_quiet HR.out hbase _ _ _ _ ?_
  rfl
set_option maxRecDepth 100000 in
set_option maxHeartbeats 4000000 in
theorem do_no3 (base g : Nat) (n b : Int) (own : ByteArray) (A3 : Option Addr) (q3 : Nat) (A4 : Option Addr) (q4 : Nat) (P T : List S42) (of0 : Bool) (of1 of3 : Int) (of4 : ByteArray) (w : World) (hR : Ref base w g n b own A3 q3 A4 q4 P T)
    (hbase : base ≤ w.heap.size) (hP : P.length ≤ 900) (hT : T.length ≤ 900) (d2 : 0 ≤ of1) (d3 : n ≤ of1) :
    Calls Try.prog 27 #[.pointer (some ⟨g, 0, none⟩), opv ⟨of0, of1, b, of3, of4⟩] w (DoPost base g n b own w ((false, P, T))) := by
  have hph := fun (W : World) (h : RefAt W g n b own (.slice A3 P.length q3) (.slice A4 T.length q4)) => phase_c g n b own A3 A4 P.length T.length q3 q4 (by omega) (by omega) W h
  have hbk : RefAt (w.alloc (.cells #[.bool of0, .int .i64 of1, .int .i64 b, .int .i64 of3, .string of4] 42)) g n b own (.slice A3 P.length q3) (.slice A4 T.length q4) := alloc_heap _ hR.blk
  have HPH := Lib.hid hph
  have HK := Lib.hid hbk
  have HR := Lib.hid hR
  have k0 := hbk.c0
  have k1 := hbk.c1
  have k2 := hbk.c2
  have k3 := hbk.c3
  have k4 := hbk.c4
  clear hph hbk hR
  obtain ⟨ph, HP1⟩ : ∃ ph, Hid (phaseOf n P.length T.length = ph) := ⟨_, Lib.hid rfl⟩
  rw [HP1.out] at HPH
  have d2' : decide (of1 < 0) = false := decide_eq_false (by omega)
  go_enter Try.func27, Try.ntmps27
  go_wp2_with fail
  refine (HPH.out _ HK.out).mono ?_
  rintro e w2 ⟨rfl, m, rfl⟩
  go_wp2_with fail
  go_quiet (fail)
  go_wp2_with fail
  go_ret
  simp only [World.drewN_drewN]
  refine post_quiet HR.out hbase _ _ _ _ ?_
  rfl
set_option maxRecDepth 100000 in
set_option maxHeartbeats 4000000 in
theorem do_a2 (base g : Nat) (n b : Int) (own : ByteArray) (A3 : Option Addr) (q3 : Nat) (A4 : Option Addr) (q4 : Nat) (P T : List S42) (of1 of3 : Int) (of4 : ByteArray) (w : World) (hR : Ref base w g n b own A3 q3 A4 q4 P T)
    (hbase : base ≤ w.heap.size) (hP : P.length ≤ 900) (hT : T.length ≤ 900) (d2 : 0 ≤ of1) (d3 : of1 < n) (h1 : phaseOf n P.length T.length ≠ 2) :
    Calls Try.prog 27 #[.pointer (some ⟨g, 0, none⟩), opv ⟨true, of1, b, of3, of4⟩] w (DoPost base g n b own w ((false, P, T))) := by
  have hph := fun (W : World) (h : RefAt W g n b own (.slice A3 P.length q3) (.slice A4 T.length q4)) => phase_c g n b own A3 A4 P.length T.length q3 q4 (by omega) (by omega) W h
  have hbk : RefAt (w.alloc (.cells #[.bool true, .int .i64 of1, .int .i64 b, .int .i64 of3, .string of4] 42)) g n b own (.slice A3 P.length q3) (.slice A4 T.length q4) := alloc_heap _ hR.blk
  have HPH := Lib.hid hph
  have HK := Lib.hid hbk
  have HR := Lib.hid hR
  have k0 := hbk.c0
  have k1 := hbk.c1
  have k2 := hbk.c2
  have k3 := hbk.c3
  have k4 := hbk.c4
  clear hph hbk hR
  obtain ⟨ph, HP1⟩ : ∃ ph, Hid (phaseOf n P.length T.length = ph) := ⟨_, Lib.hid rfl⟩
  rw [HP1.out] at HPH
  have d2' : decide (of1 < 0) = false := decide_eq_false (by omega)
  have d3' : decide (n ≤ of1) = false := decide_eq_false (by omega)
  have hq : (ph == 2) = false := beq_eq_false_iff_ne.2 (by rw [← HP1.out]; exact h1)
  clear h1
  go_enter Try.func27, Try.ntmps27
  go_wp2_with fail
  refine (HPH.out _ HK.out).mono ?_
  rintro e w2 ⟨rfl, m, rfl⟩
  go_wp2_with fail
  go_quiet (fail)
  go_wp2_with fail
  go_quiet (fail)
  go_wp2_with fail
  go_quiet (fail)
  go_wp2_with fail
  refine (HPH.out _ (by exact HK.out)).mono ?_
  rintro e w2 ⟨rfl, m2, rfl⟩
  go_wp2_with fail
  go_ret
  refine post_quiet HR.out hbase _ _ _ _ ?_
  simp
set_option maxRecDepth 100000 in
set_option maxHeartbeats 4000000 in
theorem do_p2 (base g : Nat) (n b : Int) (own : ByteArray) (A3 : Option Addr) (q3 : Nat) (A4 : Option Addr) (q4 : Nat) (P T : List S42) (of1 of3 : Int) (of4 : ByteArray) (w : World) (hR : Ref base w g n b own A3 q3 A4 q4 P T)
    (hbase : base ≤ w.heap.size) (hP : P.length ≤ 900) (hT : T.length ≤ 900) (d2 : 0 ≤ of1) (d3 : of1 < n) (h1 : phaseOf n P.length T.length ≠ 1) :
    Calls Try.prog 27 #[.pointer (some ⟨g, 0, none⟩), opv ⟨false, of1, b, of3, of4⟩] w (DoPost base g n b own w ((false, P, T))) := by
  have hph := fun (W : World) (h : RefAt W g n b own (.slice A3 P.length q3) (.slice A4 T.length q4)) => phase_c g n b own A3 A4 P.length T.length q3 q4 (by omega) (by omega) W h
  have hbk : RefAt (w.alloc (.cells #[.bool false, .int .i64 of1, .int .i64 b, .int .i64 of3, .string of4] 42)) g n b own (.slice A3 P.length q3) (.slice A4 T.length q4) := alloc_heap _ hR.blk
  have HPH := Lib.hid hph
  have HK := Lib.hid hbk
  have HR := Lib.hid hR
  have k0 := hbk.c0
  have k1 := hbk.c1
  have k2 := hbk.c2
  have k3 := hbk.c3
  have k4 := hbk.c4
  clear hph hbk hR
  obtain ⟨ph, HP1⟩ : ∃ ph, Hid (phaseOf n P.length T.length = ph) := ⟨_, Lib.hid rfl⟩
  rw [HP1.out] at HPH
  have d2' : decide (of1 < 0) = false := decide_eq_false (by omega)
  have d3' : decide (n ≤ of1) = false := decide_eq_false (by omega)
  have hq : (ph == 1) = false := beq_eq_false_iff_ne.2 (by rw [← HP1.out]; exact h1)
  clear h1
  go_enter Try.func27, Try.ntmps27
  go_wp2_with fail
  refine (HPH.out _ HK.out).mono ?_
  rintro e w2 ⟨rfl, m, rfl⟩
  go_wp2_with fail
  go_quiet (fail)
  go_wp2_with fail
  go_quiet (fail)
  go_wp2_with fail
  go_quiet (fail)
  go_wp2_with fail
  refine (HPH.out _ (by exact HK.out)).mono ?_
  rintro e w2 ⟨rfl, m2, rfl⟩
  go_wp2_with fail
  go_ret
  refine post_quiet HR.out hbase _ _ _ _ ?_
  simp
set_option maxRecDepth 100000 in
set_option maxHeartbeats 4000000 in
theorem do_a1 (base g : Nat) (n b : Int) (own : ByteArray) (A3 : Option Addr) (q3 : Nat) (A4 : Option Addr) (q4 : Nat) (P T : List S42) (of1 of3 : Int) (of4 : ByteArray) (w : World) (hR : Ref base w g n b own A3 q3 A4 q4 P T)
    (hbase : base ≤ w.heap.size) (hP : P.length ≤ 900) (hT : T.length ≤ 900) (d2 : 0 ≤ of1) (d3 : of1 < n) (h1 : phaseOf n P.length T.length = 2) (h2 : hadIn T of1 = true) :
    Calls Try.prog 27 #[.pointer (some ⟨g, 0, none⟩), opv ⟨true, of1, b, of3, of4⟩] w (DoPost base g n b own w ((false, P, T))) := by
  have hph := fun (W : World) (h : RefAt W g n b own (.slice A3 P.length q3) (.slice A4 T.length q4)) => phase_c g n b own A3 A4 P.length T.length q3 q4 (by omega) (by omega) W h
  have hbk : RefAt (w.alloc (.cells #[.bool true, .int .i64 of1, .int .i64 b, .int .i64 of3, .string of4] 42)) g n b own (.slice A3 P.length q3) (.slice A4 T.length q4) := alloc_heap _ hR.blk
  have HPH := Lib.hid hph
  have HK := Lib.hid hbk
  have HR := Lib.hid hR
  have k0 := hbk.c0
  have k1 := hbk.c1
  have k2 := hbk.c2
  have k3 := hbk.c3
  have k4 := hbk.c4
  clear hph hbk hR
  obtain ⟨ph, HP1⟩ : ∃ ph, Hid (phaseOf n P.length T.length = ph) := ⟨_, Lib.hid rfl⟩
  rw [HP1.out] at HPH
  have d2' : decide (of1 < 0) = false := decide_eq_false (by omega)
  have d3' : decide (n ≤ of1) = false := decide_eq_false (by omega)
  have hhad : ∀ a x, Calls Try.prog 33 #[.slice A4 T.length q4, .int .i64 of1] ((w.alloc (.cells #[.bool true, .int .i64 of1, .int .i64 b, .int .i64 of3, .string of4] 42)).drewN (a + x)) fun e w2 => e = .returned (.bool true) ∧ ∃ m, w2 = (w.alloc (.cells #[.bool true, .int .i64 of1, .int .i64 b, .int .i64 of3, .string of4] 42)).drewN (a + m) := fun a x =>
    let hr := reads_of_own (w := (w.alloc (.cells #[.bool true, .int .i64 of1, .int .i64 b, .int .i64 of3, .string of4] 42)).drewN (a + x)) (HR.out.rowT.alloc _) (by omega)
    (had_c A4 q4 T of1 (by omega) _ hr.1 hr.2 true h2).mono fun _ _ ⟨he, m, hm⟩ => ⟨he, x + m, by rw [hm, World.drewN_drewN, Nat.add_assoc]⟩
  have HHAD := Lib.hid hhad
  have HP2 := Lib.hid (HP1.out.symm.trans h1)
  clear hhad h1 h2
  obtain rfl : ph = 2 := HP2.out
  go_enter Try.func27, Try.ntmps27
  go_wp2_with fail
  refine (HPH.out _ HK.out).mono ?_
  rintro e w2 ⟨rfl, m, rfl⟩
  go_wp2_with fail
  go_quiet (fail)
  go_wp2_with fail
  go_quiet (fail)
  go_wp2_with fail
  go_quiet ((go_at_call 33; exact HHAD.out _ _))
  go_wp2_with fail
  refine (HPH.out _ (by exact HK.out)).mono ?_
  rintro e w2 ⟨rfl, m2, rfl⟩
  go_wp2_with fail
  go_ret
  refine post_quiet HR.out hbase _ _ _ _ ?_
  simp
set_option maxRecDepth 100000 in
set_option maxHeartbeats 4000000 in
theorem do_p1 (base g : Nat) (n b : Int) (own : ByteArray) (A3 : Option Addr) (q3 : Nat) (A4 : Option Addr) (q4 : Nat) (P T : List S42) (of1 of3 : Int) (of4 : ByteArray) (w : World) (hR : Ref base w g n b own A3 q3 A4 q4 P T)
    (hbase : base ≤ w.heap.size) (hP : P.length ≤ 900) (hT : T.length ≤ 900) (d2 : 0 ≤ of1) (d3 : of1 < n) (h1 : phaseOf n P.length T.length = 1) (h2 : hadIn P of1 = true) :
    Calls Try.prog 27 #[.pointer (some ⟨g, 0, none⟩), opv ⟨false, of1, b, of3, of4⟩] w (DoPost base g n b own w ((false, P, T))) := by
  have hph := fun (W : World) (h : RefAt W g n b own (.slice A3 P.length q3) (.slice A4 T.length q4)) => phase_c g n b own A3 A4 P.length T.length q3 q4 (by omega) (by omega) W h
  have hbk : RefAt (w.alloc (.cells #[.bool false, .int .i64 of1, .int .i64 b, .int .i64 of3, .string of4] 42)) g n b own (.slice A3 P.length q3) (.slice A4 T.length q4) := alloc_heap _ hR.blk
  have HPH := Lib.hid hph
  have HK := Lib.hid hbk
  have HR := Lib.hid hR
  have k0 := hbk.c0
  have k1 := hbk.c1
  have k2 := hbk.c2
  have k3 := hbk.c3
  have k4 := hbk.c4
  clear hph hbk hR
  obtain ⟨ph, HP1⟩ : ∃ ph, Hid (phaseOf n P.length T.length = ph) := ⟨_, Lib.hid rfl⟩
  rw [HP1.out] at HPH
  have d2' : decide (of1 < 0) = false := decide_eq_false (by omega)
  have d3' : decide (n ≤ of1) = false := decide_eq_false (by omega)
  have hhad : ∀ a x, Calls Try.prog 33 #[.slice A3 P.length q3, .int .i64 of1] ((w.alloc (.cells #[.bool false, .int .i64 of1, .int .i64 b, .int .i64 of3, .string of4] 42)).drewN (a + x)) fun e w2 => e = .returned (.bool true) ∧ ∃ m, w2 = (w.alloc (.cells #[.bool false, .int .i64 of1, .int .i64 b, .int .i64 of3, .string of4] 42)).drewN (a + m) := fun a x =>
    let hr := reads_of_own (w := (w.alloc (.cells #[.bool false, .int .i64 of1, .int .i64 b, .int .i64 of3, .string of4] 42)).drewN (a + x)) (HR.out.rowP.alloc _) (by omega)
    (had_c A3 q3 P of1 (by omega) _ hr.1 hr.2 true h2).mono fun _ _ ⟨he, m, hm⟩ => ⟨he, x + m, by rw [hm, World.drewN_drewN, Nat.add_assoc]⟩
  have HHAD := Lib.hid hhad
  have HP2 := Lib.hid (HP1.out.symm.trans h1)
  clear hhad h1 h2
  obtain rfl : ph = 1 := HP2.out
  go_enter Try.func27, Try.ntmps27
  go_wp2_with fail
  refine (HPH.out _ HK.out).mono ?_
  rintro e w2 ⟨rfl, m, rfl⟩
  go_wp2_with fail
  go_quiet (fail)
  go_wp2_with fail
  go_quiet ((go_at_call 33; exact HHAD.out _ _))
  go_wp2_with fail
  go_quiet (fail)
  go_wp2_with fail
  refine (HPH.out _ (by exact HK.out)).mono ?_
  rintro e w2 ⟨rfl, m2, rfl⟩
  go_wp2_with fail
  go_ret
  refine post_quiet HR.out hbase _ _ _ _ ?_
  simp
end Go.Proofs.Ytpflopenjbealaa.Play
