/- Here is proved: what tile.Edge makes. Condition: tile.Width has its contract. -/
import Derived.Test.YtolapikiflodfaaTile3
namespace Go.Proofs.Ytolapikiflodfaa.Til
open Go Go.Proofs Go.RowKit Go.Shelf

def WidthC (wd : Int → Int → Int → Int) : Prop :=
  ∀ (n a b : Int) (w : World), Calls Try.prog 16 #[.int .i64 n, .agg #[.int .i64 a, .int .i64 b]] w fun e w2 => e = .returned (.int .i64 (wd n a b)) ∧ Below w.heap.size w w2
def fullB (wd : Int → Int → Int → Int) (n : Int) (x : Int × Int) : Bool := wd n x.1 x.2 == 4

theorem edge1_c (wd : Int → Int → Int → Int) (HW : WidthC wd) (B : Nat) (n : Int) : PredC B n (fullB wd n) := by
  intro W x hB
  have HX := Lib.hid (show fullB wd n x = (wd n x.1 x.2 == 4) from rfl)
  have HWH := Lib.hid HW
  have BB := Lib.hid hB
  have hc := hB.cell
  clear HW hB
  have hlt := BB.out.lt
  have hcn : (W.alloc (.cells #[.int .i64 x.1, .int .i64 x.2] 26)).cell? ⟨B, 0, none⟩ = some (.int .i64 n) := (BB.out.alloc _).cell
  go_enter Try.func64, Try.ntmps64
  go_wp2_with fail
  refine (HWH.out n x.1 x.2 _).mono ?_
  rintro e w2 ⟨rfl, hb2⟩
  have HB2 := Lib.hid hb2
  clear hb2
  go_wp2_with fail
  go_ret
  exact ⟨by rw [HX.out]; rfl, ((Below.refl _ W).alloc (Nat.le_refl _) _).trans (HB2.out.mono (by simp))⟩

theorem ix_nil (f : Value) (w : World) : Calls Try.prog 97 #[.slice none 0 0, f] w fun e w2 => e = .returned (.int .i64 (-1)) ∧ w2 = w := by
  go_enter Try.func97, Try.ntmps97
  go_wp2
  go_loop [8] (fun s8 => s8 = .int .i64 0) (fun _ => 0)
  case atStart => rfl
  case round =>
    subst hrel
    go_wp2
    go_ret
    exact ⟨rfl, rfl⟩
theorem del_nil (f : Value) (w : World) : Calls Try.prog 63 #[.slice none 0 0, f] w fun e w2 => e = .returned (.slice none 0 0) ∧ w2 = w := by
  go_enter Try.func63, Try.ntmps63
  go_wp2_with fail
  refine (ix_nil f w).mono ?_
  rintro e w2 ⟨rfl, rfl⟩
  go_wp2
  go_ret
  exact ⟨rfl, rfl⟩

def edgeF (wd : Int → Int → Int → Int) (n : Int) : List (Int × Int) := (planF n).filter fun x => !fullB wd n x
theorem planF_len (n : Int) : (planF n).length ≤ 64 := by
  unfold planF
  split
  · have h := planL_len (lvs n (ln n))
    rw [lvs_len] at h
    have := ln_le n
    omega
  · simp
set_option maxHeartbeats 1000000 in
theorem edge_c (wd : Int → Int → Int → Int) (HW : WidthC wd) (n : Int) (w : World) : Calls Try.prog 24 #[.int .i64 n] w fun e w2 => ∃ v, e = .returned v ∧ w2.ownsRow w.heap.size 26 2 v (edgeF wd n).length (idc (edgeF wd n)) ∧ Below w.heap.size w w2 := by
  have HP := Lib.hid (plan_c n)
  have HWH := Lib.hid HW
  clear HW
  go_enter Try.func24, Try.ntmps24
  go_wp2_with fail
  refine (HP.out _).mono ?_
  rintro e w2 ⟨v, rfl, ho, hb⟩
  have hBx := Boxed.new w 3 (.int .i64 n)
  have HB := Lib.hid ((hb.block _ hBx.lt).trans hBx : Boxed w2 w.heap.size 3 (.int .i64 n))
  have HW2 := Lib.hid (((Below.refl _ w).alloc (Nat.le_refl _) _).trans (hb.mono (by simp)) : Below w.heap.size w w2)
  have hl := planF_len n
  have HO := Lib.hid ho
  clear ho hb hBx
  rcases HO.out.2 with ⟨rfl, h0⟩ | ⟨g, cap, cur, rfl, hg, hgb, hN, hcap, hsz, hcur⟩
  · have hnil : planF n = [] := List.eq_nil_of_length_eq_zero h0
    have HN := Lib.hid hnil
    clear hnil h0
    go_wp2_with fail
    refine (del_nil _ _).mono ?_
    rintro e w3 ⟨rfl, rfl⟩
    go_wp2
    go_ret
    refine ⟨_, rfl, ?_, HW2.out⟩
    have he : edgeF wd n = [] := by unfold edgeF; rw [HN.out]; rfl
    rw [he]; exact World.ownsRow_nil _ _ _ _
  · have hg2 : w.heap.size + 1 ≤ g := by simpa using hg
    have hd := del_c w.heap.size g w.heap.size n (fullB wd n) (edge1_c wd HWH.out w.heap.size n) (planF n) cap cur w2 HB.out hgb (by omega) (by omega) (by omega) hcap hN hsz hcur
    have HD := Lib.hid hd
    clear hd hg hgb hsz hcur hN hcap
    go_wp2_with fail
    refine HD.out.mono ?_
    rintro e w3 ⟨v, rfl, ho3, hb3⟩
    have HO3 := Lib.hid ho3
    have HB3 := Lib.hid hb3
    clear ho3 hb3
    go_wp2
    go_ret
    exact ⟨_, rfl, HO3.out, HW2.out.trans HB3.out⟩
end Go.Proofs.Ytolapikiflodfaa.Til
