/- Here is proved: what the reference's Phase of layer 18 tells, and how its votes lie in memory. Conditions: none. -/
import Derived.Test.YtpflopenjbealaaQPropPlaysx2
import Derived.Lib.Hide
import Derived.Deep.RegionHeld3
import Derived.Deep.AppendLies
namespace Go.Proofs.Ytpflopenjbealaa.Play
open Go Go.Proofs Go.RowKit Go.Proofs.Ytpflopenjbealaa.PPropPlays Go.Proofs.YtpflopenjbealaaW.PrintWords

/-- a vote's cells -/
def opc (o : S42) : List Value := [.bool o.f0, .int .i64 o.f1, .int .i64 o.f2, .int .i64 o.f3, .string o.f4]
def opcs (l : List S42) : List Value := l.flatMap opc
theorem opcs_snoc (l : List S42) (o : S42) : opcs (l ++ [o]) = opcs l ++ opc o := by simp [opcs]
theorem opcs_len (l : List S42) : (opcs l).length = l.length * 5 := by
  induction l with
  | nil => rfl
  | cons o l ih => have e : opcs (o :: l) = opc o ++ opcs l := rfl
                   rw [e, List.length_append, ih]; simp [opc]; omega
theorem opcs_at (l : List S42) (j : Nat) (p : S42) (h : l[j]? = some p) (i : Nat) (u : Value) (hu : (opc p)[i]? = some u) : (opcs l)[j * 5 + i]? = some u := by
  induction l generalizing j with
  | nil => simp at h
  | cons o l ih =>
    have e : opcs (o :: l) = opc o ++ opcs l := rfl
    have hi : i < 5 := (List.getElem?_eq_some_iff.1 hu).1
    match j, h with
    | 0, h =>
      obtain rfl : o = p := by simpa using h
      rw [e, List.getElem?_append_left (by simp [opc]; omega)]
      simpa using hu
    | j + 1, h =>
      rw [e, List.getElem?_append_right (by simp [opc]; omega), show (j + 1) * 5 + i - (opc o).length = j * 5 + i by simp [opc]; omega]
      exact ih j (by simpa using h)
/-- an owned row of votes is read as votes -/
theorem reads_of_own {w : World} {base : Nat} {A : Option Addr} {c : Nat} {l : List S42} (h : w.ownsRow base 42 5 (.slice A l.length c) l.length (opcs l)) (hl : l.length ≤ 1000) : Kd.C k42 w A l.length l ∧ l.length ≤ c := by
  rcases h.2 with ⟨e, h0⟩ | ⟨g, cap, cur, e, h1, h2, h3, h4⟩
  · have hn : l = [] := List.eq_nil_of_length_eq_zero h0
    subst hn
    exact ⟨⟨rfl, by simp, fun h => absurd h (by simp)⟩, Nat.zero_le _⟩
  · injection e with e1 e2 e3
    subst e1; subst e3
    refine ⟨⟨rfl, by omega, fun _ => ⟨_, rfl, fun j p hp => ⟨opc p, rfl, k42_mk w p, fun i u hu => ?_⟩⟩⟩, h3⟩
    exact h.cells rfl _ u (opcs_at l j p hp i u hu)

def phaseOf (n : Int) (p t : Nat) : Int := if 2 * (p : Int) ≤ n then 1 else if 2 * (t : Int) ≤ n then 2 else 3

/-- the reference's proposal lies in block g -/
def RefAt (w : World) (g : Nat) (n b : Int) (own : ByteArray) (vP vT : Value) : Prop := w.heap[g]? = some (.cells #[.int .i64 n, .int .i64 b, .string own, vP, vT] 52 (0, 0))
theorem RefAt.c0 {w : World} {g : Nat} {n b : Int} {own : ByteArray} {vP vT : Value} (h : RefAt w g n b own vP vT) : w.cell? ⟨g, 0, none⟩ = some (.int .i64 n) := (blk_cell h 0).trans rfl
theorem RefAt.c1 {w : World} {g : Nat} {n b : Int} {own : ByteArray} {vP vT : Value} (h : RefAt w g n b own vP vT) : w.cell? ⟨g, 1, none⟩ = some (.int .i64 b) := (blk_cell h 1).trans rfl
theorem RefAt.c2 {w : World} {g : Nat} {n b : Int} {own : ByteArray} {vP vT : Value} (h : RefAt w g n b own vP vT) : w.cell? ⟨g, 2, none⟩ = some (.string own) := (blk_cell h 2).trans rfl
theorem RefAt.c3 {w : World} {g : Nat} {n b : Int} {own : ByteArray} {vP vT : Value} (h : RefAt w g n b own vP vT) : w.cell? ⟨g, 3, none⟩ = some vP := (blk_cell h 3).trans rfl
theorem RefAt.c4 {w : World} {g : Nat} {n b : Int} {own : ByteArray} {vP vT : Value} (h : RefAt w g n b own vP vT) : w.cell? ⟨g, 4, none⟩ = some vT := (blk_cell h 4).trans rfl

set_option maxRecDepth 100000 in
set_option maxHeartbeats 2000000 in
theorem phase_c (g : Nat) (n b : Int) (own : ByteArray) (A3 A4 : Option Addr) (p t c3 c4 : Nat) (hp : p ≤ 1000) (ht : t ≤ 1000) (w : World) (h : RefAt w g n b own (.slice A3 p c3) (.slice A4 t c4)) :
    Calls Try.prog 28 #[.pointer (some ⟨g, 0, none⟩)] w fun e w2 => e = .returned (.int .i64 (phaseOf n p t)) ∧ ∃ m, w2 = w.drewN m := by
  have h0 := h.c0
  have h3 := h.c3
  have h4 := h.c4
  clear h
  by_cases q1 : 2 * (p : Int) ≤ n
  · have HF := Lib.hid (show phaseOf n p t = 1 from if_pos q1)
    go_enter Try.func28, Try.ntmps28
    go_wp2
    go_quiet (fail)
    go_wp2
    go_ret
    exact ⟨by rw [HF.out]; rfl, _, rfl⟩
  · have q1' : n < 2 * (p : Int) := by omega
    by_cases q2 : 2 * (t : Int) ≤ n
    · have HF := Lib.hid (show phaseOf n p t = 2 by unfold phaseOf; rw [if_neg q1, if_pos q2])
      clear q1
      go_enter Try.func28, Try.ntmps28
      go_wp2
      go_quiet (fail)
      go_wp2
      go_quiet (fail)
      go_wp2
      go_ret
      exact ⟨by rw [HF.out]; rfl, _, World.drewN_drewN _ _ _⟩
    · have q2' : n < 2 * (t : Int) := by omega
      have HF := Lib.hid (show phaseOf n p t = 3 by unfold phaseOf; rw [if_neg q1, if_neg q2])
      clear q1 q2
      go_enter Try.func28, Try.ntmps28
      go_wp2
      go_quiet (fail)
      go_wp2
      go_quiet (fail)
      go_wp2
      go_ret
      exact ⟨by rw [HF.out]; rfl, _, World.drewN_drewN _ _ _⟩
end Go.Proofs.Ytpflopenjbealaa.Play
