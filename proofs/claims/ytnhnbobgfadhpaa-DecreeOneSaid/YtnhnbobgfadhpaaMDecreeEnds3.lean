/- Plain laws on the bits of 64-bit numbers: counting them, joining, masking. No program is named here. -/
import Derived.Test.YtnhnbobgfadhpaaMDecreeEnds1
import Derived.Test.YtnhnbobgfadhpaaMDecreeEnds2
import Derived.Laws.BitsLemmas
import Derived.WalkKit
namespace Go.Proofs.YtnhnbobgfadhpaaBits
open Go.RowKit

theorem u64_wrap (n : Int) : IntKind.u64.wrap n = n % 18446744073709551616 := by simp [IntKind.wrap, IntKind.bits, IntKind.signed]
theorem u64_in (n : Int) (h0 : 0 ≤ n) (h1 : n < 18446744073709551616) : IntKind.u64.wrap n = n := by rw [u64_wrap]; omega
theorem u64_of (n : Int) (h0 : 0 ≤ n) (h1 : n < 2 ^ 64) : IntKind.u64.wrap n = n := u64_in n h0 (by omega)

theorem and_u64 (a b : Nat) (ha : a < 2 ^ 64) (hb : b < 2 ^ 64) : bits .and .u64 a b = ((a &&& b : Nat) : Int) :=
  (bits_nat .u64 64 (by decide) u64_of a b ha hb).1
theorem or_u64 (a b : Nat) (ha : a < 2 ^ 64) (hb : b < 2 ^ 64) : bits .or .u64 a b = ((a ||| b : Nat) : Int) :=
  (bits_nat .u64 64 (by decide) u64_of a b ha hb).2
theorem andNot_top (a : Nat) (ha : a < 2 ^ 64) : bits .andNot .u64 a 9223372036854775808 = ((a % 2 ^ 63 : Nat) : Int) := by
  have h : (BitVec.ofInt 64 (a : Int) &&& ~~~(BitVec.ofInt 64 9223372036854775808)).toNat = a % 2 ^ 63 := by
    rw [BitVec.ofInt_natCast]
    rw [BitVec.toNat_and, BitVec.toNat_ofNat, Nat.mod_eq_of_lt ha]
    rw [show (~~~(BitVec.ofInt 64 9223372036854775808)).toNat = 2 ^ 63 - 1 from by decide, Nat.and_two_pow_sub_one_eq_mod]
  show IntKind.u64.wrap ((BitVec.ofInt 64 (a : Int) &&& ~~~(BitVec.ofInt 64 9223372036854775808)).toNat : Int) = _
  rw [h, u64_in _ (by omega) (by omega)]

/-- how many of the first n bits are one -/
def cnt (x : Nat) : Nat → Nat
  | 0 => 0
  | n + 1 => cnt x n + (x.testBit n).toNat

theorem cnt_le (x n : Nat) : cnt x n ≤ n := by
  induction n with
  | zero => simp [cnt]
  | succ n ih => have := Bool.toNat_le (x.testBit n); simp only [cnt]; omega

theorem cnt_congr (x y n : Nat) (h : ∀ i, i < n → x.testBit i = y.testBit i) : cnt x n = cnt y n := by
  induction n with
  | zero => rfl
  | succ n ih => simp only [cnt]; rw [ih (fun i hi => h i (by omega)), h n (by omega)]

theorem cnt_split (c y n : Nat) (hc : c < 256) : cnt (c + 256 * y) (8 + n) = cnt c 8 + cnt y n := by
  have hb : ∀ j, (c + 256 * y).testBit j = if j < 8 then c.testBit j else y.testBit (j - 8) := fun j => by
    rw [Nat.add_comm c]; exact Nat.testBit_two_pow_mul_add y (i := 8) hc j
  induction n with
  | zero =>
    have h : cnt (c + 256 * y) 8 = cnt c 8 := cnt_congr (c + 256 * y) c 8 fun i hi => by rw [hb, if_pos hi]
    rw [Nat.add_zero, h]; simp only [cnt, Nat.add_zero]
  | succ n ih =>
    show cnt _ (8 + n) + ((c + 256 * y).testBit (8 + n)).toNat = _
    rw [ih, hb, if_neg (by omega), show 8 + n - 8 = n from by omega]
    simp only [cnt]; omega

/-- byte by byte -/
def mp (f : Nat → Nat) : Nat → Nat → Nat
  | 0, _ => 0
  | n + 1, x => f (x % 256) + 256 * mp f n (x / 256)
def rep (m : Nat) : Nat → Nat
  | 0 => 0
  | n + 1 => m + 256 * rep m n
def sm (f : Nat → Nat) : Nat → Nat → Nat
  | 0, _ => 0
  | n + 1, x => f (x % 256) + sm f n (x / 256)

theorem cnt_sm (n : Nat) : ∀ x, cnt x (8 * n) = sm (fun c => cnt c 8) n x := by
  induction n with
  | zero => intro x; rfl
  | succ n ih =>
    intro x
    have h := cnt_split (x % 256) (x / 256) (8 * n) (Nat.mod_lt _ (by decide))
    rw [Nat.mod_add_div] at h
    rw [show 8 * (n + 1) = 8 + 8 * n from by omega, h, ih]; rfl

theorem and_byte (c m x y : Nat) (hc : c < 256) (hm : m < 256) : (c + 256 * x) &&& (m + 256 * y) = (c &&& m) + 256 * (x &&& y) := by
  apply Nat.eq_of_testBit_eq
  intro j
  have h1 : (c + 256 * x).testBit j = if j < 8 then c.testBit j else x.testBit (j - 8) := by
    rw [Nat.add_comm c]; exact Nat.testBit_two_pow_mul_add x (i := 8) hc j
  have h2 : (m + 256 * y).testBit j = if j < 8 then m.testBit j else y.testBit (j - 8) := by
    rw [Nat.add_comm m]; exact Nat.testBit_two_pow_mul_add y (i := 8) hm j
  have h3 : ((c &&& m) + 256 * (x &&& y)).testBit j = if j < 8 then (c &&& m).testBit j else (x &&& y).testBit (j - 8) := by
    rw [Nat.add_comm (c &&& m)]; exact Nat.testBit_two_pow_mul_add (x &&& y) (i := 8) (Nat.lt_of_le_of_lt Nat.and_le_left hc) j
  rw [Nat.testBit_and, h1, h2, h3]
  split <;> rw [Nat.testBit_and]

theorem mask0 (m : Nat) (hm : m < 256) (n : Nat) : ∀ x, x &&& rep m n = mp (fun c => c &&& m) n x := by
  induction n with
  | zero => intro x; simp [rep, mp]
  | succ n ih =>
    intro x
    have h := and_byte (x % 256) m (x / 256) (rep m n) (Nat.mod_lt _ (by decide)) hm
    rw [Nat.mod_add_div] at h
    show x &&& (m + 256 * rep m n) = _
    rw [h, ih]; rfl

theorem mask1 (n : Nat) : ∀ x, x / 2 &&& rep 85 n = mp (fun c => c / 2 &&& 85) n x := by
  induction n with
  | zero => intro x; simp [rep, mp]
  | succ n ih =>
    intro x
    have h := and_byte (x % 256 / 2 + 128 * (x / 256 % 2)) 85 (x / 256 / 2) (rep 85 n) (by omega) (by decide)
    rw [show x % 256 / 2 + 128 * (x / 256 % 2) + 256 * (x / 256 / 2) = x / 2 from by omega] at h
    have h2 : ∀ c : Fin 256, ∀ b : Fin 2, (c.val / 2 + 128 * b.val) &&& 85 = c.val / 2 &&& 85 := by decide +kernel
    have h3 := h2 ⟨x % 256, Nat.mod_lt _ (by decide)⟩ ⟨x / 256 % 2, Nat.mod_lt _ (by decide)⟩
    show x / 2 &&& (85 + 256 * rep 85 n) = _
    rw [h, ih, h3]; rfl

theorem mask2 (n : Nat) : ∀ x, x / 4 &&& rep 51 n = mp (fun c => c / 4 &&& 51) n x := by
  induction n with
  | zero => intro x; simp [rep, mp]
  | succ n ih =>
    intro x
    have h := and_byte (x % 256 / 4 + 64 * (x / 256 % 4)) 51 (x / 256 / 4) (rep 51 n) (by omega) (by decide)
    rw [show x % 256 / 4 + 64 * (x / 256 % 4) + 256 * (x / 256 / 4) = x / 4 from by omega] at h
    have h2 : ∀ c : Fin 256, ∀ b : Fin 4, (c.val / 4 + 64 * b.val) &&& 51 = c.val / 4 &&& 51 := by decide +kernel
    have h3 := h2 ⟨x % 256, Nat.mod_lt _ (by decide)⟩ ⟨x / 256 % 4, Nat.mod_lt _ (by decide)⟩
    show x / 4 &&& (51 + 256 * rep 51 n) = _
    rw [h, ih, h3]; rfl

theorem mp_add (f g : Nat → Nat) (n : Nat) : ∀ x, mp f n x + mp g n x = mp (fun c => f c + g c) n x := by
  induction n with
  | zero => intro x; rfl
  | succ n ih => intro x; simp only [mp]; have := ih (x / 256); omega

theorem mp_mp (f g : Nat → Nat) (hg : ∀ c, c < 256 → g c < 256) (n : Nat) : ∀ x, mp f n (mp g n x) = mp (fun c => f (g c)) n x := by
  induction n with
  | zero => intro x; rfl
  | succ n ih =>
    intro x
    have h := hg (x % 256) (Nat.mod_lt _ (by decide))
    simp only [mp]
    rw [show (g (x % 256) + 256 * mp g n (x / 256)) % 256 = g (x % 256) from by omega, show (g (x % 256) + 256 * mp g n (x / 256)) / 256 = mp g n (x / 256) from by omega, ih]

theorem mp_congr (f g : Nat → Nat) (h : ∀ c, c < 256 → f c = g c) (n : Nat) : ∀ x, mp f n x = mp g n x := by
  induction n with
  | zero => intro x; rfl
  | succ n ih => intro x; simp only [mp]; rw [ih, h _ (Nat.mod_lt _ (by decide))]

theorem mp_lt (f : Nat → Nat) (h : ∀ c, c < 256 → f c < 256) (n : Nat) : ∀ x, mp f n x < 256 ^ n := by
  induction n with
  | zero => intro x; simp [mp]
  | succ n ih => intro x; simp only [mp]; have := ih (x / 256); have := h (x % 256) (Nat.mod_lt _ (by decide)); rw [Nat.pow_succ]; omega

theorem third (q : Nat → Nat) (hq : ∀ c, c < 256 → q c % 16 ≤ 4 ∧ q c / 16 ≤ 4) (n : Nat) : ∀ x, (mp q n x / 16 + mp q n x) &&& rep 15 n = mp (fun c => q c / 16 + q c % 16) n x := by
  induction n with
  | zero => intro x; simp [rep, mp]
  | succ n ih =>
    intro x
    have hd := hq (x % 256) (Nat.mod_lt _ (by decide))
    have hv : mp q n (x / 256) % 16 ≤ 4 := by
      cases n with
      | zero => simp [mp]
      | succ n => have := hq (x / 256 % 256) (Nat.mod_lt _ (by decide)); simp only [mp]; omega
    have h := and_byte (q (x % 256) / 16 + 16 * (mp q n (x / 256) % 16) + q (x % 256)) 15 (mp q n (x / 256) / 16 + mp q n (x / 256)) (rep 15 n) (by omega) (by decide)
    rw [ih] at h
    have hm : ∀ z : Nat, z &&& 15 = z % 16 := fun z => Nat.and_two_pow_sub_one_eq_mod z 4
    rw [hm] at h
    simp only [mp, rep]
    rw [show (q (x % 256) + 256 * mp q n (x / 256)) / 16 + (q (x % 256) + 256 * mp q n (x / 256)) = (q (x % 256) / 16 + 16 * (mp q n (x / 256) % 16) + q (x % 256)) + 256 * (mp q n (x / 256) / 16 + mp q n (x / 256)) from by omega, h]
    rw [show (q (x % 256) / 16 + 16 * (mp q n (x / 256) % 16) + q (x % 256)) % 16 = q (x % 256) / 16 + q (x % 256) % 16 from by omega]

/-- the steps of the library's count -/
def s1 (a : Int) : Int := IntKind.u64.wrap ((bits .and .u64 (a / 2) 6148914691236517205) + (bits .and .u64 a 6148914691236517205))
def s2 (a : Int) : Int := IntKind.u64.wrap ((bits .and .u64 (a / 4) 3689348814741910323) + (bits .and .u64 a 3689348814741910323))
def s3 (a : Int) : Int := bits .and .u64 (IntKind.u64.wrap ((a / 16) + a)) 1085102592571150095
def s4 (a : Int) : Int := IntKind.u64.wrap (a + (a / 256))
def s5 (a : Int) : Int := IntKind.u64.wrap (a + (a / 65536))
def s6 (a : Int) : Int := IntKind.u64.wrap (a + (a / 4294967296))
def ones (a : Int) : Int := bits .and .i64 (wrap64 (s6 (s5 (s4 (s3 (s2 (s1 a))))))) 127

def q1 (c : Nat) : Nat := (c / 2 &&& 85) + (c &&& 85)
def q2 (c : Nat) : Nat := (c / 4 &&& 51) + (c &&& 51)
theorem q1_lt (c : Nat) (h : c < 256) : q1 c < 256 := by
  have h2 : ∀ c : Fin 256, q1 c.val < 256 := by decide +kernel
  exact h2 ⟨c, h⟩
theorem q2_in (c : Nat) (h : c < 256) : q2 (q1 c) % 16 ≤ 4 ∧ q2 (q1 c) / 16 ≤ 4 ∧ q2 (q1 c) / 16 + q2 (q1 c) % 16 = cnt c 8 := by
  have h2 : ∀ c : Fin 256, q2 (q1 c.val) % 16 ≤ 4 ∧ q2 (q1 c.val) / 16 ≤ 4 ∧ q2 (q1 c.val) / 16 + q2 (q1 c.val) % 16 = cnt c.val 8 := by decide +kernel
  exact h2 ⟨c, h⟩

theorem s1_nat (x : Nat) (hx : x < 2 ^ 64) : s1 x = ((mp q1 8 x : Nat) : Int) := by
  have hm : (6148914691236517205 : Int) = ((rep 85 8 : Nat) : Int) := by decide
  have hr : rep 85 8 < 2 ^ 64 := by decide
  have hl : mp q1 8 x < 2 ^ 64 := mp_lt q1 q1_lt 8 x
  unfold s1
  rw [hm, show ((x : Int) / 2) = ((x / 2 : Nat) : Int) from by omega, and_u64 _ _ (by omega) hr, and_u64 _ _ hx hr, mask1, mask0 85 (by decide), ← Int.natCast_add, mp_add]
  exact u64_in _ (by omega) (by have : mp (fun c => (c / 2 &&& 85) + (c &&& 85)) 8 x < 2 ^ 64 := hl; omega)

theorem s2_nat (x : Nat) : s2 (mp q1 8 x : Nat) = ((mp (fun c => q2 (q1 c)) 8 x : Nat) : Int) := by
  have hm : (3689348814741910323 : Int) = ((rep 51 8 : Nat) : Int) := by decide
  have hr : rep 51 8 < 2 ^ 64 := by decide
  have hl : mp q1 8 x < 2 ^ 64 := mp_lt q1 q1_lt 8 x
  have hl2 : mp (fun c => q2 (q1 c)) 8 x < 2 ^ 64 := mp_lt _ (fun c hc => by have := q2_in c hc; omega) 8 x
  rw [← mp_mp q2 q1 q1_lt] at hl2 ⊢
  generalize mp q1 8 x = y at *
  unfold s2
  rw [hm, show ((y : Int) / 4) = ((y / 4 : Nat) : Int) from by omega, and_u64 _ _ (by omega) hr, and_u64 _ _ hl hr, mask2, mask0 51 (by decide), ← Int.natCast_add, mp_add]
  exact u64_in _ (by omega) (by have : mp (fun c => (c / 4 &&& 51) + (c &&& 51)) 8 y < 2 ^ 64 := hl2; omega)

theorem s3_nat (x : Nat) : s3 (mp (fun c => q2 (q1 c)) 8 x : Nat) = ((mp (fun c => cnt c 8) 8 x : Nat) : Int) := by
  have hm : (1085102592571150095 : Int) = ((rep 15 8 : Nat) : Int) := by decide
  have hr : rep 15 8 < 2 ^ 64 := by decide
  have ht := third (fun c => q2 (q1 c)) (fun c hc => ⟨(q2_in c hc).1, (q2_in c hc).2.1⟩) 8 x
  have hh : ∀ n x, mp (fun c => q2 (q1 c)) (n + 1) x < 69 * 256 ^ n := by
    intro n
    induction n with
    | zero => intro x; simp only [mp]; have := q2_in (x % 256) (Nat.mod_lt _ (by decide)); omega
    | succ n ih => intro x; rw [mp]; have := ih (x / 256); have := q2_in (x % 256) (Nat.mod_lt _ (by decide)); rw [Nat.pow_succ]; omega
  have hl2 : mp (fun c => q2 (q1 c)) 8 x < 69 * 256 ^ 7 := hh 7 x
  unfold s3
  rw [hm, show ((mp (fun c => q2 (q1 c)) 8 x : Nat) : Int) / 16 + ((mp (fun c => q2 (q1 c)) 8 x : Nat) : Int) = ((mp (fun c => q2 (q1 c)) 8 x / 16 + mp (fun c => q2 (q1 c)) 8 x : Nat) : Int) from by omega]
  rw [u64_in _ (by omega) (by omega), and_u64 _ _ (by omega) hr, ht]
  exact congrArg _ (mp_congr _ _ (fun c hc => (q2_in c hc).2.2) 8 x)

theorem and127 (n : Nat) : (bits .and .i64 (n : Int) 127) = ((n % 128 : Nat) : Int) := by
  have h : (BitVec.ofInt 64 (n : Int) &&& BitVec.ofInt 64 127).toNat = n % 128 := by
    rw [BitVec.ofInt_natCast, BitVec.toNat_and, BitVec.toNat_ofNat]
    rw [show (BitVec.ofInt 64 127).toNat = 2 ^ 7 - 1 from by decide, Nat.and_two_pow_sub_one_eq_mod]
    omega
  show IntKind.i64.wrap ((BitVec.ofInt 64 (n : Int) &&& BitVec.ofInt 64 127).toNat : Int) = _
  rw [h, IntKind.wrap_i64]; omega

theorem ones_nat (x : Nat) (hx : x < 2 ^ 64) : ones x = ((cnt x 64 : Nat) : Int) := by
  unfold ones
  rw [s1_nat x hx, s2_nat x, s3_nat x, show (64 : Nat) = 8 * 8 from rfl, cnt_sm 8 x]
  have hb : ∀ c : Nat, cnt c 8 ≤ 8 := fun c => cnt_le c 8
  simp only [mp, sm]
  generalize x / 256 = x1
  generalize x1 / 256 = x2
  generalize x2 / 256 = x3
  generalize x3 / 256 = x4
  generalize x4 / 256 = x5
  generalize x5 / 256 = x6
  generalize x6 / 256 = x7
  have h0 := hb (x % 256); have h1 := hb (x1 % 256); have h2 := hb (x2 % 256); have h3 := hb (x3 % 256)
  have h4 := hb (x4 % 256); have h5 := hb (x5 % 256); have h6 := hb (x6 % 256); have h7 := hb (x7 % 256)
  generalize cnt (x % 256) 8 = p0 at *; generalize cnt (x1 % 256) 8 = p1 at *; generalize cnt (x2 % 256) 8 = p2 at *; generalize cnt (x3 % 256) 8 = p3 at *
  generalize cnt (x4 % 256) 8 = p4 at *; generalize cnt (x5 % 256) 8 = p5 at *; generalize cnt (x6 % 256) 8 = p6 at *; generalize cnt (x7 % 256) 8 = p7 at *
  clear hx hb
  obtain ⟨y, hy⟩ : ∃ y : Nat, p0 + 256 * (p1 + 256 * (p2 + 256 * (p3 + 256 * (p4 + 256 * (p5 + 256 * (p6 + 256 * (p7 + 256 * 0))))))) = y := ⟨_, rfl⟩
  rw [hy]
  have e4 : s4 (y : Int) = ((y + y / 256 : Nat) : Int) := by unfold s4; rw [u64_in _ (by omega) (by omega)]; omega
  obtain ⟨z, hz⟩ : ∃ z : Nat, y + y / 256 = z := ⟨_, rfl⟩
  have e5 : s5 (z : Int) = ((z + z / 65536 : Nat) : Int) := by unfold s5; rw [u64_in _ (by omega) (by omega)]; omega
  obtain ⟨u, hu⟩ : ∃ u : Nat, z + z / 65536 = u := ⟨_, rfl⟩
  have e6 : s6 (u : Int) = ((u + u / 4294967296 : Nat) : Int) := by unfold s6; rw [u64_in _ (by omega) (by omega)]; omega
  have e7 : wrap64 ((u + u / 4294967296 : Nat) : Int) = ((u + u / 4294967296 : Nat) : Int) := by unfold wrap64; omega
  rw [e4, hz, e5, hu, e6, e7, and127]
  clear e4 e5 e6 e7
  have hy1 : y / 256 = p1 + 256 * (p2 + 256 * (p3 + 256 * (p4 + 256 * (p5 + 256 * (p6 + 256 * p7))))) := by omega
  have hz1 : z = (p0 + p1) + 256 * ((p1 + p2) + 256 * ((p2 + p3) + 256 * ((p3 + p4) + 256 * ((p4 + p5) + 256 * ((p5 + p6) + 256 * ((p6 + p7) + 256 * p7)))))) := by omega
  clear hy hy1 hz
  have hz2 : z / 65536 = (p2 + p3) + 256 * ((p3 + p4) + 256 * ((p4 + p5) + 256 * ((p5 + p6) + 256 * ((p6 + p7) + 256 * p7)))) := by omega
  have hu1 : u = (p0 + p1 + p2 + p3) + 256 * ((p1 + p2 + p3 + p4) + 256 * ((p2 + p3 + p4 + p5) + 256 * ((p3 + p4 + p5 + p6) + 256 * ((p4 + p5 + p6 + p7) + 256 * ((p5 + p6 + p7) + 256 * ((p6 + p7) + 256 * p7)))))) := by omega
  clear hz1 hz2 hu
  have hu2 : u / 4294967296 = (p4 + p5 + p6 + p7) + 256 * ((p5 + p6 + p7) + 256 * ((p6 + p7) + 256 * p7)) := by omega
  exact congrArg _ (by omega)

/-! the sets of nodes -/
theorem has_bit (s i : Nat) (hs : s < 2 ^ 64) : (bits .and .u64 ((s : Int) / 2 ^ i) 1 == 1) = s.testBit i := by
  have h2 : ((2 : Int) ^ i) = ((2 ^ i : Nat) : Int) := by simp
  rw [h2, ← Int.natCast_ediv, show (1 : Int) = ((1 : Nat) : Int) from rfl, and_u64 _ _ (Nat.lt_of_le_of_lt (Nat.div_le_self _ _) hs) (by decide), Nat.testBit_eq_decide_div_mod_eq, show (s / 2 ^ i &&& 1) = s / 2 ^ i % 2 from Nat.and_two_pow_sub_one_eq_mod _ 1]
  rw [Bool.eq_iff_iff]; simp only [beq_iff_eq, decide_eq_true_eq]; omega

theorem pow_lt64 {i : Nat} (hi : i ≤ 62) : 2 ^ i < 2 ^ 64 := Nat.pow_lt_pow_right (by decide) (by omega)

theorem with_bit (s i : Nat) (hs : s < 2 ^ 64) (hi : i ≤ 62) : bits .or .u64 s (IntKind.u64.wrap (1 * 2 ^ min i 64)) = ((s ||| 2 ^ i : Nat) : Int) := by
  have h2 : ((2 : Int) ^ i) = ((2 ^ i : Nat) : Int) := by simp
  have hp := pow_lt64 hi
  rw [Nat.min_eq_left (by omega), Int.one_mul, h2, u64_of _ (Int.natCast_nonneg _) (by exact_mod_cast hp), or_u64 _ _ hs hp]

theorem or_lt (s i : Nat) (hs : s < 2 ^ 64) (hi : i ≤ 62) : s ||| 2 ^ i < 2 ^ 64 := Nat.or_lt_two_pow hs (pow_lt64 hi)

theorem or_bit (s i j : Nat) : (s ||| 2 ^ i).testBit j = (s.testBit j || decide (i = j)) := by
  rw [Nat.testBit_or, Nat.testBit_two_pow]

theorem cnt_or (s i n : Nat) : cnt (s ||| 2 ^ i) n = cnt s n + (if i < n ∧ s.testBit i = false then 1 else 0) := by
  induction n with
  | zero => simp [cnt]
  | succ n ih =>
    simp only [cnt]
    rw [ih, or_bit]
    by_cases h : i = n
    · subst h
      cases hb : s.testBit i <;> simp
    · rw [decide_eq_false h, Bool.or_false]
      by_cases h2 : i < n
      · by_cases h3 : s.testBit i = false
        · rw [if_pos ⟨h2, h3⟩, if_pos ⟨by omega, h3⟩]; omega
        · rw [if_neg (fun hh => h3 hh.2), if_neg (fun hh => h3 hh.2)]; omega
      · rw [if_neg (fun hh => h2 hh.1), if_neg (fun hh => by omega)]; omega

theorem cnt_mod (s m n : Nat) (h : n ≤ m) : cnt (s % 2 ^ m) n = cnt s n :=
  cnt_congr _ _ n fun i hi => by rw [Nat.testBit_mod_two_pow, decide_eq_true (by omega), Bool.true_and]

/-- more bits, all of them naught -/
theorem cnt_stay (x m : Nat) (hx : x < 2 ^ m) : ∀ d, cnt x (m + d) = cnt x m
  | 0 => rfl
  | d + 1 => by
    show cnt x (m + d) + (x.testBit (m + d)).toNat = _
    rw [cnt_stay x m hx d, Nat.testBit_lt_two_pow (Nat.lt_of_lt_of_le hx (Nat.pow_le_pow_right (by decide) (Nat.le_add_right m d)))]; rfl

theorem len_bits (s : Nat) (hs : s < 2 ^ 64) : ones (bits .andNot .u64 s 9223372036854775808) = ((cnt s 63 : Nat) : Int) := by
  rw [andNot_top s hs, ones_nat _ (by omega)]
  have h := cnt_stay (s % 2 ^ 63) 63 (Nat.mod_lt _ (by decide)) 1
  rw [show (64 : Nat) = 63 + 1 from rfl, h, cnt_mod s 63 63 (Nat.le_refl _)]

theorem within_bits (s n : Nat) (hs : s < 2 ^ 64) (hn : n ≤ 62) : bits .and .u64 s (IntKind.u64.wrap (IntKind.u64.wrap (1 * 2 ^ min n 64) - 1)) = ((s % 2 ^ n : Nat) : Int) := by
  have h2 : ((2 : Int) ^ n) = ((2 ^ n : Nat) : Int) := by simp
  have hp := pow_lt64 hn
  have hq : 0 < 2 ^ n := Nat.two_pow_pos n
  have e : ∀ z : Nat, s &&& (2 ^ n - 1) = z → s % 2 ^ n = z := fun z h => by rw [← h, Nat.and_two_pow_sub_one_eq_mod]
  rw [Nat.min_eq_left (by omega), Int.one_mul, h2]
  have e2 := e _ rfl
  rw [e2]
  generalize 2 ^ n = z at *
  rw [u64_in (z : Int) (by omega) (by omega), u64_in _ (by omega) (by omega), show ((z : Int) - 1) = ((z - 1 : Nat) : Int) from by omega, and_u64 _ _ hs (by omega)]

theorem cnt_below (s n m : Nat) (h : n ≤ m) : cnt (s % 2 ^ n) m = cnt s n := by
  have h1 := cnt_stay (s % 2 ^ n) n (Nat.mod_lt _ (Nat.two_pow_pos n)) (m - n)
  rw [show n + (m - n) = m from by omega] at h1
  rw [h1, cnt_mod s n n (Nat.le_refl _)]

theorem xor_max (s : Nat) (hs : s < 2 ^ 64) : bits .xor .u64 IntKind.u64.max s = ((2 ^ 64 - 1 - s : Nat) : Int) := by
  have h : (BitVec.ofInt 64 IntKind.u64.max ^^^ BitVec.ofInt 64 (s : Int)).toNat = 2 ^ 64 - 1 - s := by
    have e : BitVec.ofInt 64 IntKind.u64.max = BitVec.allOnes 64 := by decide
    rw [e, BitVec.allOnes_xor, BitVec.toNat_not, BitVec.ofInt_natCast, BitVec.toNat_ofNat, Nat.mod_eq_of_lt hs]
  show IntKind.u64.wrap ((BitVec.ofInt 64 IntKind.u64.max ^^^ BitVec.ofInt 64 (s : Int)).toNat : Int) = _
  rw [h, u64_in _ (by omega) (by omega)]

theorem cnt_not (s : Nat) (hs : s < 2 ^ 64) (n : Nat) (hn : n ≤ 64) : cnt s n + cnt (2 ^ 64 - 1 - s) n = n := by
  induction n with
  | zero => rfl
  | succ n ih =>
    have h := ih (by omega)
    have hb : (2 ^ 64 - 1 - s).testBit n = !s.testBit n := by
      rw [show 2 ^ 64 - 1 - s = 2 ^ 64 - (s + 1) from by omega, Nat.testBit_two_pow_sub_succ hs, decide_eq_true (by omega), Bool.true_and]
    simp only [cnt]
    rw [hb]
    generalize cnt (2 ^ 64 - 1 - s) n = u at *
    generalize cnt s n = v at *
    cases s.testBit n <;> simp only [Bool.not_true, Bool.not_false, Bool.toNat_true, Bool.toNat_false] <;> omega

end Go.Proofs.YtnhnbobgfadhpaaBits
namespace Go.Proofs.Ytnhnbobgfadhpaa.SetsDecreeStill
open Go.RowKit Go.Proofs.Ytnhnbobgfadhpaa.PDecreeStill Go.Proofs.YtnhnbobgfadhpaaW.PrintWords Go.Proofs.YtnhnbobgfadhpaaW.PrintLast Go.Proofs.YtnhnbobgfadhpaaW.PrintMore Go.Proofs.YtnhnbobgfadhpaaBits

def inn (i : Int) : Prop := 0 ≤ i ∧ i ≤ 62
instance (i : Int) : Decidable (inn i) := inferInstanceAs (Decidable (_ ∧ _))

theorem has_f (s : Nat) (i : Int) (hs : s < 2 ^ 64) : vote_Set_Has.f s i = some (decide (inn i) && s.testBit i.toNat) := by
  unfold vote_Set_Has.f
  by_cases h0 : 0 ≤ i
  · by_cases h1 : i ≤ 62
    · obtain ⟨n, rfl⟩ := Int.eq_ofNat_of_zero_le h0
      rw [if_pos h0, if_pos h1, if_pos h0]
      unfold shr
      rw [show min (n : Int).toNat IntKind.u64.bits = n from Nat.min_eq_left (by show n ≤ 64; omega), has_bit s n hs, decide_eq_true (show inn (n : Int) from ⟨h0, h1⟩)]
      simp
    · rw [if_pos h0, if_neg h1, decide_eq_false (fun h : inn i => h1 h.2)]; simp
  · rw [if_neg h0, decide_eq_false (fun h : inn i => h0 h.1)]; simp

def put (s : Nat) (i : Int) : Nat := if inn i then s ||| 2 ^ i.toNat else s
theorem put_lt (s : Nat) (i : Int) (hs : s < 2 ^ 64) : put s i < 2 ^ 64 := by
  unfold put
  split
  · rename_i h; exact or_lt s _ hs (by have := h.1; have := h.2; omega)
  · exact hs

theorem with_f (s : Nat) (i : Int) (hs : s < 2 ^ 64) : vote_Set_With.f s i = some ((put s i : Nat) : Int) := by
  unfold vote_Set_With.f put
  by_cases h0 : i < 0
  · rw [if_pos h0, if_neg (fun h : inn i => by have := h.1; omega)]
  · rw [if_neg h0]
    by_cases h1 : 62 < i
    · rw [if_pos h1, if_neg (fun h : inn i => by have := h.2; omega)]
    · obtain ⟨n, rfl⟩ := Int.eq_ofNat_of_zero_le (show 0 ≤ i by omega)
      rw [if_neg h1, if_pos (by omega), if_pos (show inn (n : Int) from ⟨by omega, by omega⟩)]
      unfold shl
      rw [show IntKind.u64.bits = 64 from rfl]
      rw [with_bit s (n : Int).toNat hs (by omega)]

theorem len_f (s : Nat) (hs : s < 2 ^ 64) : vote_Set_Len.f s = some ((cnt s 63 : Nat) : Int) := by
  have h := len_bits s hs
  unfold vote_Set_Len.f
  have e : ∀ a : Int, bits_OnesCount64.f a = some (ones a) := fun a => rfl
  rw [e, h]; rfl

theorem cnt_put (s : Nat) (i : Int) : cnt (put s i) 63 = cnt s 63 + (if inn i ∧ s.testBit i.toNat = false then 1 else 0) := by
  unfold put
  by_cases h : inn i
  · rw [if_pos h, cnt_or]
    have := h.1; have := h.2
    by_cases h2 : s.testBit i.toNat = false
    · rw [if_pos ⟨by omega, h2⟩, if_pos ⟨h, h2⟩]
    · rw [if_neg (fun x => h2 x.2), if_neg (fun x => h2 x.2)]
  · rw [if_neg h, if_neg (fun x => h x.1)]; rfl

theorem maj_f (n : Int) (h : n ≤ 9223372036854775807) : vote_Majority.f n = some ((max n 0) / 2 + 1) := by
  unfold vote_Majority.f
  have e : mx n 0 = max n 0 := by unfold mx; omega
  rw [e]
  have e1 : wrap64 ((max n 0) / 2) = (max n 0) / 2 := by unfold wrap64; omega
  rw [e1]
  have e2 : wrap64 ((max n 0) / 2 + 1) = (max n 0) / 2 + 1 := by unfold wrap64; omega
  rw [e2]

end Go.Proofs.Ytnhnbobgfadhpaa.SetsDecreeStill
namespace Go.Proofs.Ytnhnbobgfadhpaa.SetsDecreeStill
open Go.RowKit Go.Proofs.Ytnhnbobgfadhpaa.PDecreeStill Go.Proofs.YtnhnbobgfadhpaaW.PrintWords Go.Proofs.YtnhnbobgfadhpaaW.PrintLast Go.Proofs.YtnhnbobgfadhpaaW.PrintMore Go.Proofs.YtnhnbobgfadhpaaBits

def below (s : Nat) (n : Int) : Nat := if n < 1 then 0 else if n > 62 then s else s % 2 ^ n.toNat
theorem below_lt (s : Nat) (n : Int) (hs : s < 2 ^ 64) : below s n < 2 ^ 64 := by
  unfold below
  split
  · decide
  · split
    · exact hs
    · exact Nat.lt_of_le_of_lt (Nat.mod_le _ _) hs

theorem within_f (s : Nat) (n : Int) (hs : s < 2 ^ 64) : vote_Set_Within.f s n = some ((below s n : Nat) : Int) := by
  unfold vote_Set_Within.f below
  by_cases h0 : n < 1
  · rw [if_pos h0, if_pos h0]; rfl
  · rw [if_neg h0, if_neg h0]
    by_cases h1 : 62 < n
    · rw [if_pos h1, if_pos h1]
    · rw [if_neg h1, if_neg h1, if_pos (by omega)]
      obtain ⟨m, rfl⟩ := Int.eq_ofNat_of_zero_le (show 0 ≤ n by omega)
      unfold shl
      rw [show IntKind.u64.bits = 64 from rfl, Int.toNat_natCast, within_bits s m hs (by omega)]

/-- how many of those below n -/
def lives (s : Nat) (n : Int) : Nat := cnt s (min (max n 0).toNat 63)
theorem cnt_below63 (s : Nat) (n : Int) : cnt (below s n) 63 = lives s n := by
  unfold below lives
  by_cases h0 : n < 1
  · rw [if_pos h0, show min (max n 0).toNat 63 = 0 from by omega]
    exact cnt_stay 0 0 (by decide) 63
  · rw [if_neg h0]
    by_cases h1 : n > 62
    · rw [if_pos h1, show min (max n 0).toNat 63 = 63 from by omega]
    · rw [if_neg h1, show min (max n 0).toNat 63 = n.toNat from by omega, cnt_below s n.toNat 63 (by omega)]

theorem enough_f (s : Nat) (n : Int) (hs : s < 2 ^ 64) (hn : n ≤ 9223372036854775807) :
    vote_Enough.f s n = some (decide ((lives s n : Int) ≥ (max n 0) / 2 + 1)) := by
  unfold vote_Enough.f
  rw [within_f s n hs, Option.bind_some, len_f _ (below_lt s n hs), Option.bind_some, maj_f n hn, Option.bind_some, cnt_below63]

end Go.Proofs.Ytnhnbobgfadhpaa.SetsDecreeStill
namespace Go.Proofs.Ytnhnbobgfadhpaa.SetsDecreeStill
open Go.RowKit Go.Proofs.Ytnhnbobgfadhpaa.PDecreeStill Go.Proofs.YtnhnbobgfadhpaaW.PrintWords Go.Proofs.YtnhnbobgfadhpaaW.PrintLast Go.Proofs.YtnhnbobgfadhpaaW.PrintMore Go.Proofs.YtnhnbobgfadhpaaBits

/-- a proposal -/
structure PS where
  n : Int
  b : Int
  ph : Int
  v : ByteArray
  best : Int
  fd : ByteArray
  pr : Nat
  tk : Nat

/-- does a vote count? -/
def counts (want : Int) (s : PS) (node ballot : Int) (had : Nat) : Bool :=
  decide (s.ph = want) && (decide (ballot = s.b) && (decide (0 ≤ node) && (decide (node < s.n) && !(decide (inn node) && had.testBit node.toNat))))

theorem counts_f (want : Int) (s : PS) (node ballot : Int) (had : Nat) (hh : had < 2 ^ 64) :
    prop_Prop_counts.f s.n s.b s.ph s.v s.best s.fd s.pr s.tk want node ballot had = some (counts want s node ballot had, s.n, s.b, s.ph, s.v, s.best, s.fd, (s.pr : Int), (s.tk : Int)) := by
  unfold prop_Prop_counts.f counts
  by_cases h1 : s.ph = want
  · rw [if_pos h1, decide_eq_true h1, Bool.true_and]
    by_cases h2 : ballot = s.b
    · rw [if_pos h2, decide_eq_true h2, Bool.true_and]
      by_cases h3 : 0 ≤ node
      · rw [if_pos h3, decide_eq_true h3, Bool.true_and]
        by_cases h4 : node < s.n
        · rw [if_pos h4, decide_eq_true h4, Bool.true_and, has_f had node hh, Option.bind_some]
        · rw [if_neg h4, decide_eq_false h4, Bool.false_and]
      · rw [if_neg h3, decide_eq_false h3, Bool.false_and]
    · rw [if_neg h2, decide_eq_false h2, Bool.false_and]
  · rw [if_neg h1, decide_eq_false h1, Bool.false_and]

def best' (s : PS) (acc : Int) : Int := if acc > s.best then acc else s.best
def fd' (s : PS) (acc : Int) (val : ByteArray) : ByteArray := if acc > s.best then val else s.fd
def enough (t : Nat) (n : Int) : Bool := decide ((lives t n : Int) ≥ (max n 0) / 2 + 1)
/-- a promise -/
def promise (s : PS) (node ballot acc : Int) (val : ByteArray) : Bool × PS :=
  if counts 1 s node ballot s.pr = true then
    if enough (put s.pr node) s.n = true then
      (true, { s with ph := 2, v := if best' s acc > 0 then fd' s acc val else s.v, best := best' s acc, fd := fd' s acc val, pr := put s.pr node })
    else (false, { s with best := best' s acc, fd := fd' s acc val, pr := put s.pr node })
  else (false, s)
def accepting (s : PS) (node ballot : Int) : Bool × PS :=
  if counts 2 s node ballot s.tk = true then
    if enough (put s.tk node) s.n = true then (true, { s with ph := 3, tk := put s.tk node })
    else (false, { s with tk := put s.tk node })
  else (false, s)
def out (r : Bool × PS) : Bool × Int × Int × Int × ByteArray × Int × ByteArray × Int × Int := (r.1, r.2.n, r.2.b, r.2.ph, r.2.v, r.2.best, r.2.fd, (r.2.pr : Int), (r.2.tk : Int))

theorem promised_j (k : Nat) (n b ph best : Int) (v fd : ByteArray) (pr tk : Nat) (hpr : pr < 2 ^ 64) (hn : n ≤ 9223372036854775807) :
    prop_Prop_Promised.j0 (k + 1) n b ph v best fd pr tk = some (if enough pr n = true then (true, n, b, 2, (if best > 0 then fd else v), best, fd, (pr : Int), (tk : Int)) else (false, n, b, ph, v, best, fd, (pr : Int), (tk : Int))) := by
  simp only [prop_Prop_Promised.j0]
  rw [enough_f pr n hpr hn, Option.bind_some]
  unfold enough
  by_cases h : (lives pr n : Int) ≥ (max n 0) / 2 + 1
  · rw [decide_eq_true h, if_pos rfl, if_pos rfl]
    by_cases h2 : best > 0
    · rw [if_pos h2, if_pos h2]
    · rw [if_neg h2, if_neg h2]
  · rw [decide_eq_false h, if_neg Bool.false_ne_true, if_neg Bool.false_ne_true]

theorem promised_f (k : Nat) (s : PS) (node ballot acc : Int) (val : ByteArray) (hpr : s.pr < 2 ^ 64) (hn : s.n ≤ 9223372036854775807) :
    prop_Prop_Promised.f (k + 1) s.n s.b s.ph s.v s.best s.fd s.pr s.tk node ballot acc val = some (out (promise s node ballot acc val)) := by
  unfold prop_Prop_Promised.f promise
  rw [counts_f 1 s node ballot s.pr hpr, Option.bind_some]
  cases counts 1 s node ballot s.pr with
  | false => rw [if_neg Bool.false_ne_true, if_neg Bool.false_ne_true]; rfl
  | true =>
    have hp := put_lt s.pr node hpr
    rw [if_pos rfl, if_pos rfl, with_f s.pr node hpr, Option.bind_some]
    unfold best' fd'
    by_cases h : acc > s.best
    · rw [if_pos h, if_pos h, if_pos h, promised_j k _ _ _ _ _ _ _ _ hp hn]
      cases enough (put s.pr node) s.n with
      | true => rw [if_pos rfl, if_pos rfl]; rfl
      | false => rw [if_neg Bool.false_ne_true, if_neg Bool.false_ne_true]; rfl
    · rw [if_neg h, if_neg h, if_neg h, promised_j k _ _ _ _ _ _ _ _ hp hn]
      cases enough (put s.pr node) s.n with
      | true => rw [if_pos rfl, if_pos rfl]; rfl
      | false => rw [if_neg Bool.false_ne_true, if_neg Bool.false_ne_true]; rfl

theorem accepted_f (s : PS) (node ballot : Int) (htk : s.tk < 2 ^ 64) (hn : s.n ≤ 9223372036854775807) :
    prop_Prop_Accepted.f s.n s.b s.ph s.v s.best s.fd s.pr s.tk node ballot = some (out (accepting s node ballot)) := by
  unfold prop_Prop_Accepted.f accepting
  rw [counts_f 2 s node ballot s.tk htk, Option.bind_some]
  cases counts 2 s node ballot s.tk with
  | false => rw [if_neg Bool.false_ne_true, if_neg Bool.false_ne_true]; rfl
  | true =>
    have hp := put_lt s.tk node htk
    rw [if_pos rfl, if_pos rfl, with_f s.tk node htk, Option.bind_some, enough_f _ s.n hp hn, Option.bind_some]
    unfold enough
    by_cases h : (lives (put s.tk node) s.n : Int) ≥ (max s.n 0) / 2 + 1
    · rw [decide_eq_true h, if_pos rfl, if_pos rfl]; rfl
    · rw [decide_eq_false h, if_neg Bool.false_ne_true, if_neg Bool.false_ne_true]; rfl

def fresh (n b : Int) (v : ByteArray) : PS := ⟨min (max n 1) 63, b, 1, v, 0, ⟨#[]⟩, 0, 0⟩
theorem new_f (n b : Int) (v : ByteArray) : prop_New.f n b v = some ((fresh n b v).n, (fresh n b v).b, (fresh n b v).ph, (fresh n b v).v, (fresh n b v).best, (fresh n b v).fd, ((fresh n b v).pr : Int), ((fresh n b v).tk : Int)) := by
  unfold prop_New.f fresh
  have e : mn (mx n 1) 63 = min (max n 1) 63 := by unfold mn mx; (repeat' split) <;> omega
  rw [e]; rfl

/-- well kept -/
def PS.ok (s : PS) : Prop := 1 ≤ s.n ∧ s.n ≤ 63 ∧ s.pr < 2 ^ 64 ∧ s.tk < 2 ^ 64
theorem fresh_ok (n b : Int) (v : ByteArray) : (fresh n b v).ok := by
  refine ⟨?_, ?_, (by decide : 0 < 2 ^ 64), (by decide : 0 < 2 ^ 64)⟩
  · show 1 ≤ min (max n 1) 63; omega
  · show min (max n 1) 63 ≤ 63; omega
theorem PS.ok.big {s : PS} (h : s.ok) : s.n ≤ 9223372036854775807 := by have := h.2.1; omega
theorem promise_ok (s : PS) (node ballot acc : Int) (val : ByteArray) (h : s.ok) : (promise s node ballot acc val).2.ok := by
  unfold promise
  split
  · split
    · exact ⟨h.1, h.2.1, put_lt _ _ h.2.2.1, h.2.2.2⟩
    · exact ⟨h.1, h.2.1, put_lt _ _ h.2.2.1, h.2.2.2⟩
  · exact h
theorem accepting_ok (s : PS) (node ballot : Int) (h : s.ok) : (accepting s node ballot).2.ok := by
  unfold accepting
  split
  · split
    · exact ⟨h.1, h.2.1, h.2.2.1, put_lt _ _ h.2.2.2⟩
    · exact ⟨h.1, h.2.1, h.2.2.1, put_lt _ _ h.2.2.2⟩
  · exact h

end Go.Proofs.Ytnhnbobgfadhpaa.SetsDecreeStill
namespace Go.Proofs.Ytnhnbobgfadhpaa.Dec
open Go Go.RowKit Go.Proofs.YtnhnbobgfadhpaaW.PrintWords Go.Proofs.Ytnhnbobgfadhpaa.Mp
set_option linter.unusedVariables false
/-- elements of which each cell is told -/
def flat {α : Type} (sz : Nat) (enc : α → List Value) (hl : ∀ x, (enc x).length = sz) (h1 : ∀ x, ∀ u ∈ enc x, u.oneCell' = true) : Kd α where
  sz := sz
  E := []
  K := fun _ x cs => cs = enc x
  M := fun _ _ _ x cs => cs = enc x
  K_len := fun {_ x _} h => by rw [h]; exact hl x
  K_one := fun {_ x _} h => by rw [h]; exact h1 x
  K_below := fun _ h => h
  K_of_M := fun h => h
  M_mono := fun _ h => h
  M_bound := fun h => h
  M_move := fun _ h => h
  M_lower := fun _ h => h
def encL (x : Lt) : List Value := [.int .i64 x.kd, .int .i64 x.fr, .int .i64 x.dst, .int .i64 x.bal, .int .i64 x.acc, .string x.val]
def encS (x : Sl) : List Value := [.int .i64 x.pr, .int .i64 x.bal, .string x.val]
def KL : Kd Lt := flat 6 encL (fun _ => rfl) (fun x u hu => by simp [encL] at hu; rcases hu with rfl | rfl | rfl | rfl | rfl | rfl <;> rfl)
def KS : Kd Sl := flat 3 encS (fun _ => rfl) (fun x u hu => by simp [encS] at hu; rcases hu with rfl | rfl | rfl <;> rfl)
/-- a proposal's cells -/
def ppc (n : Nat) (p : Pp) : Array Value := #[.int .i64 n, .int .i64 p.b, .int .i64 p.ph, .string p.v, .int .i64 p.best, .string p.fd, .int .u64 p.pr, .int .u64 p.tk]
def slc (l : List Sl) : List Value := l.flatMap encS
/-- where its parts lie -/
structure Lay where
  gs : Nat
  gp : Nat
  gt : Nat
  vl : Value
  vb : Value
  vc : Value
  pl : Int → Option Nat
def kInt (b : Int) : Value := .int .i64 b
def ptr (q : Nat) : Value := .pointer (some ⟨q, 0, none⟩)
def ppC (pl : Int → Option Nat) : Cont := fun v => match v with | .int .i64 b => (pl b).map ptr | _ => none
def held (z : Nat × ByteArray) : Value := .agg #[.int .u64 z.1, .string z.2]
def tkC (f : Int → Option (Nat × ByteArray)) : Cont := fun v => match v with | .int .i64 b => (f b).map held | _ => none
/-- the block's cells -/
def dcs (L : Lay) (n : Nat) : Array Value := #[.slice (some ⟨L.gs, 0, none⟩) n n, .map (some L.gp), L.vl, L.vb, L.vc, .map (some L.gt)]
/-- the blocks that are its own -/
def Foot (L : Lay) (g : Nat) (k : Nat) : Prop := k = g ∨ k = L.gs ∨ k = L.gp ∨ k = L.gt ∨ L.vl.ownBlock = some k ∨ L.vb.ownBlock = some k ∨ L.vc.ownBlock = some k ∨ ∃ b, L.pl b = some k
structure IsD (base : Nat) (W : World) (g : Nat) (L : Lay) (d : D) : Prop where
  blk : W.heap[g]? = some (.cells (dcs L d.sl.length) 44 (0, 0))
  sl : W.heap[L.gs]? = some (.cells (slc d.sl).toArray 36 (0, 0))
  lt : KL.R 49 W base (fun _ => True) L.vl d.lt
  bg : Kd.string.R 9 W base (fun _ => True) L.vb d.bg
  ch : Kd.string.R 9 W base (fun _ => True) L.vc d.ch
  ap : ∀ k, L.vb.ownBlock = some k → L.vc.ownBlock ≠ some k
  pp : IMap W Try.prog 3 L.gp (ppC L.pl)
  tk : IMap W Try.prog 3 L.gt (tkC d.tk)
  ne : L.gp ≠ L.gt
  prs : ∀ b p, d.pp b = some p → ∃ q, L.pl b = some q ∧ base ≤ q ∧ W.heap[q]? = some (.cells (ppc d.sl.length p) 72 (0, 0))
  prn : ∀ b, d.pp b = none → L.pl b = none
  inj : ∀ b b' q, L.pl b = some q → L.pl b' = some q → b = b'
  ge : base ≤ g ∧ base ≤ L.gs ∧ base ≤ L.gp ∧ base ≤ L.gt
  sm : d.sl.length ≤ 5
/-- what a call may turn: blocks of F and new ones; then its own blocks are those of F', old or new -/
structure Turn (W W' : World) (F F' : Nat → Prop) : Prop where
  os : W'.os = W.os
  tape : W'.tape = W.tape
  output : W'.output = W.output
  size : W.heap.size ≤ W'.heap.size
  keep : ∀ k, k < W.heap.size → ¬ F k → W'.heap[k]? = W.heap[k]?
  foot : ∀ k, F' k → F k ∨ W.heap.size ≤ k
variable {base g n : Nat} {W W1 W2 : World} {L L' L'' : Lay} {d d' : D} {F F' F'' : Nat → Prop}
theorem Turn.below (h : Below W.heap.size W W1) : Turn W W1 F F := ⟨h.os, h.tape, h.output, h.size, fun k hk _ => h.block k hk, fun _ h => .inl h⟩
theorem Turn.refl (W : World) (F : Nat → Prop) : Turn W W F F := ⟨rfl, rfl, rfl, Nat.le_refl _, fun _ _ _ => rfl, fun _ h => .inl h⟩
theorem Turn.trans (h : Turn W W1 F F') (k : Turn W1 W2 F' F'') : Turn W W2 F F'' := by
  refine ⟨k.os.trans h.os, k.tape.trans h.tape, k.output.trans h.output, Nat.le_trans h.size k.size, fun j hj hf => ?_, fun j hj => ?_⟩
  · refine (k.keep j (Nat.lt_of_lt_of_le hj h.size) (fun hf' => ?_)).trans (h.keep j hj hf)
    rcases h.foot j hf' with q | q
    · exact hf q
    · exact absurd hj (Nat.not_lt.2 q)
  · rcases k.foot j hj with q | q
    · exact h.foot j q
    · exact .inr (Nat.le_trans h.size q)
theorem Turn.grown {row : Option Nat} (h : W.grownBy W1 row) (hF : ∀ k, row = some k → F k) (hf : ∀ k, F' k → F k ∨ W.heap.size ≤ k) : Turn W W1 F F' :=
  ⟨h.os, h.tape, h.output, h.size, fun k hk hn => h.block k hk (fun e => hn (hF k e.symm)), hf⟩
/-- blocks below base are untouched -/
theorem Turn.to_below {B : Nat} (h : Turn W W1 F F') (hF : ∀ k, F k → B ≤ k) (hB : B ≤ W.heap.size) : Below B W W1 :=
  ⟨h.os, h.tape, h.output, h.size, fun k hk => h.keep k (Nat.lt_of_lt_of_le hk hB) (fun hf => absurd (hF k hf) (Nat.not_le.2 hk))⟩
theorem IsD.foot_ge (h : IsD base W g L d) (k : Nat) (hk : Foot L g k) : base ≤ k := by
  obtain ⟨h1, h2, h3, h4⟩ := h.ge
  rcases hk with rfl | rfl | rfl | rfl | e | e | e | ⟨b, e⟩
  · exact h1
  · exact h2
  · exact h3
  · exact h4
  · exact Kd.R_base h.lt k e
  · exact Kd.R_base h.bg k e
  · exact Kd.R_base h.ch k e
  · cases hp : d.pp b with
    | none => rw [h.prn b hp] at e; cases e
    | some p => obtain ⟨q, hq, hb, _⟩ := h.prs b p hp; rw [e] at hq; cases hq; exact hb
/-- carried to a world where its blocks are as they were -/
theorem IsD.keep (h : IsD base W g L d) (hk : ∀ k, k < W.heap.size → Foot L g k → W1.heap[k]? = W.heap[k]?) : IsD base W1 g L d where
  blk := (hk g (blk_lt h.blk) (.inl rfl)).trans h.blk
  sl := (hk L.gs (blk_lt h.sl) (.inr (.inl rfl))).trans h.sl
  lt := Kd.R_mono (Kd.R_step (ok := fun k => L.vl.ownBlock = some k) ⟨fun k hk => hk, h.lt.2.imp_ (fun _ _ hp => hp)⟩ (fun k ho hlt => hk k hlt (.inr (.inr (.inr (.inr (.inl ho))))))) (fun _ _ => trivial)
  bg := Kd.R_mono (Kd.R_step (ok := fun k => L.vb.ownBlock = some k) ⟨fun k hk => hk, h.bg.2.imp_ (fun _ _ hp => hp)⟩ (fun k ho hlt => hk k hlt (.inr (.inr (.inr (.inr (.inr (.inl ho)))))))) (fun _ _ => trivial)
  ch := Kd.R_mono (Kd.R_step (ok := fun k => L.vc.ownBlock = some k) ⟨fun k hk => hk, h.ch.2.imp_ (fun _ _ hp => hp)⟩ (fun k ho hlt => hk k hlt (.inr (.inr (.inr (.inr (.inr (.inr (.inl ho))))))))) (fun _ _ => trivial)
  ap := h.ap
  pp := h.pp.block (hk L.gp h.pp.lt (.inr (.inr (.inl rfl))))
  tk := h.tk.block (hk L.gt h.tk.lt (.inr (.inr (.inr (.inl rfl)))))
  ne := h.ne
  prs := fun b p hp => by
    obtain ⟨q, h1, h2, h3⟩ := h.prs b p hp
    exact ⟨q, h1, h2, (hk q (blk_lt h3) (.inr (.inr (.inr (.inr (.inr (.inr (.inr ⟨b, h1⟩)))))))).trans h3⟩
  prn := h.prn
  inj := h.inj
  ge := h.ge
  sm := h.sm
theorem IsD.below (h : IsD base W g L d) (hB : Below W.heap.size W W1) : IsD base W1 g L d := h.keep (fun k hk _ => hB.block k hk)
end Go.Proofs.Ytnhnbobgfadhpaa.Dec
namespace Go.Proofs.Ytnhnbobgfadhpaa.Dec
open Go Go.RowKit Go.Proofs.YtnhnbobgfadhpaaW.PrintWords Go.Proofs.Ytnhnbobgfadhpaa.Mp
set_option linter.unusedVariables false
/-- what kind of block it is -/
def tag (W : World) (k : Nat) : Option Nat := match W.heap[k]? with | some (.cells _ t _) => some t | some (.map _ _) => some 1000000 | _ => none
theorem tag_cells {W : World} {k t : Nat} {cs : Array Value} {fr : Nat × Nat} (h : W.heap[k]? = some (.cells cs t fr)) : tag W k = some t := by unfold tag; rw [h]
theorem ne_tag {W : World} {a b s t : Nat} (ha : tag W a = some s) (hb : tag W b = some t) (h : s ≠ t) : a ≠ b := fun e => by
  subst e; rw [ha] at hb; exact h (Option.some.inj hb)
theorem tag_map {W : World} {P : Program} {k : TypeId} {b : Nat} {f : Cont} (h : IMap W P k b f) : tag W b = some 1000000 := by
  obtain ⟨es, clock, hb, _⟩ := h
  unfold tag; rw [hb]
theorem tag_row {α : Type} {kd : Kd α} {e base : Nat} {ok : Nat → Prop} {W : World} {v : Value} {xs : List α} (h : kd.R e W base ok v xs) (k : Nat) (hk : v.ownBlock = some k) : tag W k = some e := by
  obtain ⟨inner, ho⟩ := Kd.R_own h
  obtain ⟨cells, hc⟩ := own_typed ho k hk
  exact tag_cells hc
theorem blk_lt_of_row {α : Type} {kd : Kd α} {e base : Nat} {ok : Nat → Prop} {W : World} {v : Value} {xs : List α} (h : kd.R e W base ok v xs) (k : Nat) (hk : v.ownBlock = some k) : k < W.heap.size := by
  obtain ⟨inner, ho⟩ := Kd.R_own h
  exact own_lt ho k hk
variable {base g n : Nat} {W W1 W2 : World} {L L' L'' : Lay} {d d' : D} {F F' F'' : Nat → Prop}
theorem only_L {e : Nat} {ok : Nat → Prop} {v : Value} {xs : List Lt} (h : KL.R e W base ok v xs) : KL.R e W base (fun k => v.ownBlock = some k) v xs := ⟨fun k hk => hk, h.2.imp_ (fun _ _ hp => hp)⟩
theorem only_s {e : Nat} {ok : Nat → Prop} {v : Value} {xs : List ByteArray} (h : Kd.string.R e W base ok v xs) : Kd.string.R e W base (fun k => v.ownBlock = some k) v xs := ⟨fun k hk => hk, h.2.imp_ (fun _ _ hp => hp)⟩
theorem IsD.tg (h : IsD base W g L d) : tag W g = some 44 := tag_cells h.blk
theorem IsD.ts (h : IsD base W g L d) : tag W L.gs = some 36 := tag_cells h.sl
theorem IsD.tp (h : IsD base W g L d) {b : Int} {q : Nat} (e : L.pl b = some q) : tag W q = some 72 := by
  cases hp : d.pp b with
  | none => rw [h.prn b hp] at e; cases e
  | some p => obtain ⟨q', h1, _, h2⟩ := h.prs b p hp; rw [e] at h1; cases h1; exact tag_cells h2
/-- rebuilt in another world from its parts: what is not told anew lies in blocks that are as they were -/
theorem IsD.set (h : IsD base W g L d) (i : Nat) (v1 : Value) {K : Nat → Prop} (hblk : W1.heap[g]? = W.heap[g]?) (hkeep : ∀ k, k < W.heap.size → Foot L g k → k ≠ g → ¬ K k → W1.heap[k]? = W.heap[k]?) :
    (W1.setCell ⟨g, i, none⟩ v1).heap[g]? = some (.cells ((dcs L d.sl.length).setIfInBounds i v1) 44 (0, 0)) ∧
    ∀ k, k < W.heap.size → Foot L g k → k ≠ g → ¬ K k → (W1.setCell ⟨g, i, none⟩ v1).heap[k]? = W.heap[k]? :=
  ⟨blk_put (hblk.trans h.blk) i v1 rfl, fun k h1 h2 h3 h4 => (Below.heap_setCell _ _ _ k h3).trans (hkeep k h1 h2 h3 h4)⟩
theorem turn_set {row : Option Nat} {i : Nat} {v1 : Value} (hg : W.grownBy W1 row) (hF : ∀ k, row = some k → F k) (hgF : F g) (hf : ∀ k, F' k → F k ∨ W.heap.size ≤ k) : Turn W (W1.setCell ⟨g, i, none⟩ v1) F F' := by
  refine ⟨hg.os, hg.tape, hg.output, by rw [show (W1.setCell ⟨g, i, none⟩ v1).heap.size = W1.heap.size by simp]; exact hg.size, fun k hk hn => ?_, hf⟩
  exact (Below.heap_setCell _ _ _ k (fun (e : k = g) => hn (e ▸ hgF))).trans (hg.block k hk (fun e => hn (hF k e.symm)))
/-- the row lt is otherwise -/
theorem IsD.app_lt (h : IsD base W g L d) {v1 : Value} {xs : List Lt} (hr : KL.R 49 W1 base (fun _ => True) v1 xs) (hg : W.grownBy W1 L.vl.ownBlock) (hat : v1.ownBlock = L.vl.ownBlock ∨ ∃ b, v1.ownBlock = some b ∧ W.heap.size ≤ b) :
    IsD base (W1.setCell ⟨g, 2, none⟩ v1) g { L with vl := v1 } { d with lt := xs } ∧ Turn W (W1.setCell ⟨g, 2, none⟩ v1) (Foot L g) (Foot { L with vl := v1 } g) := by
  have hrow : ∀ k, L.vl.ownBlock = some k → tag W k = some 49 := fun k hk => tag_row h.lt k hk
  have hoth : ∀ k t, k < W.heap.size → tag W k = some t → t ≠ 49 → W1.heap[k]? = W.heap[k]? := fun k t hk ht hne => hg.block k hk (fun e => ne_tag ht (hrow k e.symm) hne rfl)
  have hgk : W1.heap[g]? = W.heap[g]? := hoth g _ (blk_lt h.blk) h.tg (by decide)
  have hset : ∀ k t, k < W.heap.size → tag W k = some t → t ≠ 49 → t ≠ 44 → (W1.setCell ⟨g, 2, none⟩ v1).heap[k]? = W.heap[k]? := fun k t hk ht h1 h2 => (Below.heap_setCell _ _ _ k (ne_tag ht h.tg h2)).trans (hoth k t hk ht h1)
  have hgb : (W1.setCell ⟨g, 2, none⟩ v1).heap[g]? = some (.cells (dcs { L with vl := v1 } d.sl.length) 44 (0, 0)) := blk_put (hgk.trans h.blk) 2 v1 rfl
  have hr2 : KL.R 49 (W1.setCell ⟨g, 2, none⟩ v1) base (fun _ => True) v1 xs := Kd.R_set hr (hgk.trans h.blk) (fun q hq => by rcases List.mem_cons.1 hq with rfl | hq <;> first | decide | cases hq) 2 v1
  have hap : ∀ k, L.vb.ownBlock = some k → L.vc.ownBlock ≠ some k := h.ap
  refine ⟨⟨hgb, (hset L.gs _ (blk_lt h.sl) h.ts (by decide) (by decide)).trans h.sl, hr2, Kd.R_mono (Kd.R_step (only_s h.bg) (fun k ho hlt => hset k _ hlt (tag_row h.bg k ho) (by decide) (by decide))) (fun _ _ => trivial), Kd.R_mono (Kd.R_step (only_s h.ch) (fun k ho hlt => hset k _ hlt (tag_row h.ch k ho) (by decide) (by decide))) (fun _ _ => trivial), hap, h.pp.block (hset L.gp _ h.pp.lt (tag_map h.pp) (by decide) (by decide)), h.tk.block (hset L.gt _ h.tk.lt (tag_map h.tk) (by decide) (by decide)), h.ne, fun b p hp => ?_, h.prn, h.inj, h.ge, h.sm⟩, turn_set hg (fun k hk => ?_) (.inl rfl) (fun k hk => ?_)⟩
  · obtain ⟨q, h1, h2, h3⟩ := h.prs b p hp
    exact ⟨q, h1, h2, (hset q _ (blk_lt h3) (tag_cells h3) (by decide) (by decide)).trans h3⟩
  · exact .inr (.inr (.inr (.inr (.inl hk))))
  · rcases hk with e | e | e | e | e | e | e | e
    · exact .inl (.inl e)
    · exact .inl (.inr (.inl e))
    · exact .inl (.inr (.inr (.inl e)))
    · exact .inl (.inr (.inr (.inr (.inl e))))
    · rcases hat with q | ⟨b, q, hb⟩
      · exact .inl (.inr (.inr (.inr (.inr (.inl (q ▸ e))))))
      · have e : v1.ownBlock = some k := e
        rw [q] at e
        cases e; exact .inr hb
    · exact .inl (.inr (.inr (.inr (.inr (.inr (.inl e))))))
    · exact .inl (.inr (.inr (.inr (.inr (.inr (.inr (.inl e)))))))
    · exact .inl (.inr (.inr (.inr (.inr (.inr (.inr (.inr e)))))))
/-- the row bg is otherwise -/
theorem IsD.app_bg (h : IsD base W g L d) {v1 : Value} {xs : List ByteArray} (hr : Kd.string.R 9 W1 base (fun _ => True) v1 xs) (hg : W.grownBy W1 L.vb.ownBlock) (hat : v1.ownBlock = L.vb.ownBlock ∨ ∃ b, v1.ownBlock = some b ∧ W.heap.size ≤ b) :
    IsD base (W1.setCell ⟨g, 3, none⟩ v1) g { L with vb := v1 } { d with bg := xs } ∧ Turn W (W1.setCell ⟨g, 3, none⟩ v1) (Foot L g) (Foot { L with vb := v1 } g) := by
  have hrow : ∀ k, L.vb.ownBlock = some k → tag W k = some 9 := fun k hk => tag_row h.bg k hk
  have hoth : ∀ k t, k < W.heap.size → tag W k = some t → t ≠ 9 → W1.heap[k]? = W.heap[k]? := fun k t hk ht hne => hg.block k hk (fun e => ne_tag ht (hrow k e.symm) hne rfl)
  have hgk : W1.heap[g]? = W.heap[g]? := hoth g _ (blk_lt h.blk) h.tg (by decide)
  have hset : ∀ k t, k < W.heap.size → tag W k = some t → t ≠ 9 → t ≠ 44 → (W1.setCell ⟨g, 3, none⟩ v1).heap[k]? = W.heap[k]? := fun k t hk ht h1 h2 => (Below.heap_setCell _ _ _ k (ne_tag ht h.tg h2)).trans (hoth k t hk ht h1)
  have hgb : (W1.setCell ⟨g, 3, none⟩ v1).heap[g]? = some (.cells (dcs { L with vb := v1 } d.sl.length) 44 (0, 0)) := blk_put (hgk.trans h.blk) 3 v1 rfl
  have hr2 : Kd.string.R 9 (W1.setCell ⟨g, 3, none⟩ v1) base (fun _ => True) v1 xs := Kd.R_set hr (hgk.trans h.blk) (fun q hq => by rcases List.mem_cons.1 hq with rfl | hq <;> first | decide | cases hq) 3 v1
  have hap : ∀ k, v1.ownBlock = some k → L.vc.ownBlock ≠ some k := fun k hk hc => by
    rcases hat with e | ⟨b, e, hb⟩
    · exact h.ap k (e ▸ hk) hc
    · have hk : v1.ownBlock = some k := hk
      rw [e] at hk
      have := blk_lt_of_row h.ch k hc
      cases hk; omega
  refine ⟨⟨hgb, (hset L.gs _ (blk_lt h.sl) h.ts (by decide) (by decide)).trans h.sl, Kd.R_mono (Kd.R_step (only_L h.lt) (fun k ho hlt => hset k _ hlt (tag_row h.lt k ho) (by decide) (by decide))) (fun _ _ => trivial), hr2, Kd.R_mono (Kd.R_step (only_s h.ch) (fun k ho hlt => (Below.heap_setCell _ _ _ k (ne_tag (tag_row h.ch k ho) h.tg (by decide))).trans (hg.block k hlt (fun e => h.ap k e.symm ho)))) (fun _ _ => trivial), hap, h.pp.block (hset L.gp _ h.pp.lt (tag_map h.pp) (by decide) (by decide)), h.tk.block (hset L.gt _ h.tk.lt (tag_map h.tk) (by decide) (by decide)), h.ne, fun b p hp => ?_, h.prn, h.inj, h.ge, h.sm⟩, turn_set hg (fun k hk => ?_) (.inl rfl) (fun k hk => ?_)⟩
  · obtain ⟨q, h1, h2, h3⟩ := h.prs b p hp
    exact ⟨q, h1, h2, (hset q _ (blk_lt h3) (tag_cells h3) (by decide) (by decide)).trans h3⟩
  · exact .inr (.inr (.inr (.inr (.inr (.inl hk)))))
  · rcases hk with e | e | e | e | e | e | e | e
    · exact .inl (.inl e)
    · exact .inl (.inr (.inl e))
    · exact .inl (.inr (.inr (.inl e)))
    · exact .inl (.inr (.inr (.inr (.inl e))))
    · exact .inl (.inr (.inr (.inr (.inr (.inl e)))))
    · rcases hat with q | ⟨b, q, hb⟩
      · exact .inl (.inr (.inr (.inr (.inr (.inr (.inl (q ▸ e)))))))
      · have e : v1.ownBlock = some k := e
        rw [q] at e
        cases e; exact .inr hb
    · exact .inl (.inr (.inr (.inr (.inr (.inr (.inr (.inl e)))))))
    · exact .inl (.inr (.inr (.inr (.inr (.inr (.inr (.inr e)))))))
/-- the row ch is otherwise -/
theorem IsD.app_ch (h : IsD base W g L d) {v1 : Value} {xs : List ByteArray} (hr : Kd.string.R 9 W1 base (fun _ => True) v1 xs) (hg : W.grownBy W1 L.vc.ownBlock) (hat : v1.ownBlock = L.vc.ownBlock ∨ ∃ b, v1.ownBlock = some b ∧ W.heap.size ≤ b) :
    IsD base (W1.setCell ⟨g, 4, none⟩ v1) g { L with vc := v1 } { d with ch := xs } ∧ Turn W (W1.setCell ⟨g, 4, none⟩ v1) (Foot L g) (Foot { L with vc := v1 } g) := by
  have hrow : ∀ k, L.vc.ownBlock = some k → tag W k = some 9 := fun k hk => tag_row h.ch k hk
  have hoth : ∀ k t, k < W.heap.size → tag W k = some t → t ≠ 9 → W1.heap[k]? = W.heap[k]? := fun k t hk ht hne => hg.block k hk (fun e => ne_tag ht (hrow k e.symm) hne rfl)
  have hgk : W1.heap[g]? = W.heap[g]? := hoth g _ (blk_lt h.blk) h.tg (by decide)
  have hset : ∀ k t, k < W.heap.size → tag W k = some t → t ≠ 9 → t ≠ 44 → (W1.setCell ⟨g, 4, none⟩ v1).heap[k]? = W.heap[k]? := fun k t hk ht h1 h2 => (Below.heap_setCell _ _ _ k (ne_tag ht h.tg h2)).trans (hoth k t hk ht h1)
  have hgb : (W1.setCell ⟨g, 4, none⟩ v1).heap[g]? = some (.cells (dcs { L with vc := v1 } d.sl.length) 44 (0, 0)) := blk_put (hgk.trans h.blk) 4 v1 rfl
  have hr2 : Kd.string.R 9 (W1.setCell ⟨g, 4, none⟩ v1) base (fun _ => True) v1 xs := Kd.R_set hr (hgk.trans h.blk) (fun q hq => by rcases List.mem_cons.1 hq with rfl | hq <;> first | decide | cases hq) 4 v1
  have hap : ∀ k, L.vb.ownBlock = some k → v1.ownBlock ≠ some k := fun k hk hc => by
    rcases hat with e | ⟨b, e, hb⟩
    · exact h.ap k hk (e ▸ hc)
    · have hc : v1.ownBlock = some k := hc
      rw [e] at hc
      have := blk_lt_of_row h.bg k hk
      cases hc; omega
  refine ⟨⟨hgb, (hset L.gs _ (blk_lt h.sl) h.ts (by decide) (by decide)).trans h.sl, Kd.R_mono (Kd.R_step (only_L h.lt) (fun k ho hlt => hset k _ hlt (tag_row h.lt k ho) (by decide) (by decide))) (fun _ _ => trivial), Kd.R_mono (Kd.R_step (only_s h.bg) (fun k ho hlt => (Below.heap_setCell _ _ _ k (ne_tag (tag_row h.bg k ho) h.tg (by decide))).trans (hg.block k hlt (fun e => h.ap k ho e.symm)))) (fun _ _ => trivial), hr2, hap, h.pp.block (hset L.gp _ h.pp.lt (tag_map h.pp) (by decide) (by decide)), h.tk.block (hset L.gt _ h.tk.lt (tag_map h.tk) (by decide) (by decide)), h.ne, fun b p hp => ?_, h.prn, h.inj, h.ge, h.sm⟩, turn_set hg (fun k hk => ?_) (.inl rfl) (fun k hk => ?_)⟩
  · obtain ⟨q, h1, h2, h3⟩ := h.prs b p hp
    exact ⟨q, h1, h2, (hset q _ (blk_lt h3) (tag_cells h3) (by decide) (by decide)).trans h3⟩
  · exact .inr (.inr (.inr (.inr (.inr (.inr (.inl hk))))))
  · rcases hk with e | e | e | e | e | e | e | e
    · exact .inl (.inl e)
    · exact .inl (.inr (.inl e))
    · exact .inl (.inr (.inr (.inl e)))
    · exact .inl (.inr (.inr (.inr (.inl e))))
    · exact .inl (.inr (.inr (.inr (.inr (.inl e)))))
    · exact .inl (.inr (.inr (.inr (.inr (.inr (.inl e))))))
    · rcases hat with q | ⟨b, q, hb⟩
      · exact .inl (.inr (.inr (.inr (.inr (.inr (.inr (.inl (q ▸ e))))))))
      · have e : v1.ownBlock = some k := e
        rw [q] at e
        cases e; exact .inr hb
    · exact .inl (.inr (.inr (.inr (.inr (.inr (.inr (.inr e)))))))
end Go.Proofs.Ytnhnbobgfadhpaa.Dec
namespace Go.Proofs.Ytnhnbobgfadhpaa.Dec
open Go Go.RowKit Go.Proofs.YtnhnbobgfadhpaaW.PrintWords Go.Proofs.YtnhnbobgfadhpaaW.PrintLast Go.Proofs.YtnhnbobgfadhpaaW.PrintMore Go.Proofs.Ytnhnbobgfadhpaa.Mp
set_option linter.unusedVariables false
set_option linter.unusedSimpArgs false
theorem info_L : (Try.prog.info? 49).map (fun i => (i.zero, i.size, i.bytes)) = some (some (.agg #[.int .i64 0, .int .i64 0, .int .i64 0, .int .i64 0, .int .i64 0, .string ⟨#[]⟩]), 6, 56) := by kernel_rfl
theorem allTo_succ (k : Nat) (x : Lt) : allTo (k + 1) x = allTo k x ++ [{ x with dst := (k : Int) }] := by
  unfold allTo
  rw [List.range_succ, List.map_append]; rfl
variable {base g : Nat} {L L' : Lay} {d : D} {W W1 : World} {F F' : Nat → Prop}
theorem IsD.off (h : IsD base W g L d) {k t : Nat} (ht : tag W k = some t) (hv : L.vl.ownBlock ≠ some k) (h1 : t ≠ 44) (h2 : t ≠ 36) (h3 : t ≠ 1000000) (h4 : t ≠ 9) (h5 : t ≠ 72) : ¬ Foot L g k := by
  rintro (e | e | e | e | e | e | e | ⟨b, e⟩)
  · exact ne_tag ht h.tg h1 e
  · exact ne_tag ht h.ts h2 e
  · exact ne_tag ht (tag_map h.pp) h3 e
  · exact ne_tag ht (tag_map h.tk) h3 e
  · exact hv e
  · exact ne_tag ht (tag_row h.bg k e) h4 rfl
  · exact ne_tag ht (tag_row h.ch k e) h4 rfl
  · exact ne_tag ht (h.tp e) h5 rfl
theorem IsD.setOff (h : IsD base W g L d) {p : Addr} (hp : ¬ Foot L g p.block) (v : Value) : IsD base (W.setCell p v) g L d := h.keep (fun k _ hf => Below.heap_setCell _ _ _ k (fun (e : k = p.block) => hp (e ▸ hf)))
theorem Turn.setNew (h : Turn W W1 F F') {p : Addr} (hp : W.heap.size ≤ p.block) (v : Value) : Turn W (W1.setCell p v) F F' :=
  ⟨h.os, h.tape, h.output, by rw [show (W1.setCell p v).heap.size = W1.heap.size by simp]; exact h.size, fun k hk hn => (Below.heap_setCell _ _ _ k (Nat.ne_of_lt (Nat.lt_of_lt_of_le hk hp))).trans (h.keep k hk hn), h.foot⟩
theorem IsD.drew (h : IsD base W g L d) : IsD base W.drew g L d := h.keep (fun _ _ _ => rfl)
theorem Turn.drew (h : Turn W W1 F F') : Turn W W1.drew F F' := ⟨h.os, h.tape, h.output, h.size, h.keep, h.foot⟩
theorem R_sl {α : Type} {kd : Kd α} {e : Nat} {ok : Nat → Prop} {v : Value} {xs : List α} (h : kd.R e W base ok v xs) : ∃ A m c, v = .slice A m c := by
  obtain ⟨A, c, h⟩ := Kd.R_slice h
  exact ⟨A, _, c, h⟩
theorem IsD.blk_lt_ (h : IsD base W g L d) (hg : W.grownBy W1 L.vl.ownBlock) : W1.heap[g]? = some (.cells (dcs L d.sl.length) 44 (0, 0)) := (hg.block g (blk_lt h.blk) (fun e => ne_tag h.tg (tag_row h.lt g e.symm) (by decide) rfl)).trans h.blk
theorem IsD.blk_bg (h : IsD base W g L d) (hg : W.grownBy W1 L.vb.ownBlock) : W1.heap[g]? = some (.cells (dcs L d.sl.length) 44 (0, 0)) := (hg.block g (blk_lt h.blk) (fun e => ne_tag h.tg (tag_row h.bg g e.symm) (by decide) rfl)).trans h.blk
theorem IsD.blk_ch (h : IsD base W g L d) (hg : W.grownBy W1 L.vc.ownBlock) : W1.heap[g]? = some (.cells (dcs L d.sl.length) 44 (0, 0)) := (hg.block g (blk_lt h.blk) (fun e => ne_tag h.tg (tag_row h.ch g e.symm) (by decide) rfl)).trans h.blk
/-- after k letters -/
structure AllRel (base : Nat) (w : World) (g : Nat) (L : Lay) (d : D) (x : Lt) (gX : Nat) (k : Nat) (wr : World) : Prop where
  ex : ∃ (L' : Lay) (t2 : Int), IsD base wr g L' { d with lt := d.lt ++ allTo k x } ∧ Turn w wr (Foot L g) (Foot L' g) ∧ L'.vl.ownBlock ≠ some gX ∧ wr.heap[gX]? = some (.cells (encL { x with dst := t2 }).toArray 49 (0, 0))
set_option maxRecDepth 100000 in
set_option maxHeartbeats 8000000 in
theorem all_c (x : Lt) (w : World) (h : IsD base w g L d) (hl : d.lt.length ≤ 1000000) (hbase : base ≤ w.heap.size) :
    Calls Try.prog 25 #[.pointer (some ⟨g, 0, none⟩), .agg (encL x).toArray] w fun e w' => e = .returned (.tuple #[]) ∧
      ∃ L', IsD base w' g L' { d with lt := d.lt ++ allTo d.sl.length x } ∧ Turn w w' (Foot L g) (Foot L' g) := by
  have OW := Aside0.mk (Mem.Own.nil w)
  have HD := Aside0.mk h
  have HL := Aside0.mk hl
  have HB := Aside0.mk hbase
  obtain ⟨n, hn⟩ : ∃ n, d.sl.length = n := ⟨_, rfl⟩
  have hn5 : (n : Int) ≤ 5 := by have := h.sm; omega
  have c0 : w.cell? ⟨g, 0, none⟩ = some (.slice (some ⟨L.gs, 0, none⟩) n n) := by rw [← hn]; exact (blk_cell h.blk 0).trans rfl
  obtain ⟨x0, x1, x2, x3, x4, x5⟩ := x
  clear h hl hbase
  go_enter Try.func25, Try.ntmps25
  go_wp2_with (first
    | ((with_reducible refine gate_dst (N := 3) rfl ?_); refine box_event ?hg (N := 3) ?hd (cs := #[.int .i64 x0, .int .i64 x1, .int .i64 x2, .int .i64 x3, .int .i64 x4, .string x5]) (t := 49) ?hr ?_; (case hd => rfl); (case hg => rfl); (case hr => first | (go_simp; done) | (go_simp; rfl)); intro gX hg W_ hb hbb; have cc0 := (hbb.cell (World.block_lt_of_cell? _ _ c0)).trans c0; clear c0; have c0 := cc0; clear cc0; have HB1 := Aside0.mk hbb; have HG1 := Aside0.mk hg; have n_ : Aside0 (Mem.Own w W_ [(gX, #[.int .i64 x0, .int .i64 x1, .int .i64 x2, .int .i64 x3, .int .i64 x4, .string x5], 49)]) := ⟨OW.out.new hg hb hbb⟩; clear OW hb hbb hg; have OW := n_; clear n_))
  have HR0 : Aside0 (AllRel base w g L d ⟨x0, x1, x2, x3, x4, x5⟩ gX 0 W_) := ⟨⟨L, x2, by rw [show allTo 0 (⟨x0, x1, x2, x3, x4, x5⟩ : Lt) = [] from rfl, List.append_nil]; exact HD.out.below HB1.out, Turn.below HB1.out, fun e => by have := blk_lt_of_row HD.out.lt gX e; have := HG1.out; omega, OW.out.blk 0 rfl⟩⟩
  have HGE := Aside0.mk (show w.heap.size ≤ gX by rw [HG1.out]; exact Nat.le_refl _)
  have HD2 := Aside0.mk HD.out.blk
  clear OW HB1 HG1 c0
  go_loopw [4, 10] (fun _ s10 wr => ∃ k : Nat, k ≤ n ∧ s10 = .int .i64 k ∧ Aside0 (AllRel base w g L d ⟨x0, x1, x2, x3, x4, x5⟩ gX k wr)) (fun _ s10 _ => n - (intOf s10).toNat)
  case atStart => exact ⟨0, Nat.zero_le _, rfl, HR0⟩
  case round =>
    clear HR0
    obtain ⟨k, hk, rfl, HK⟩ := hrel
    by_cases hkn : k < n
    · have hki : (k : Int) < (n : Int) := by omega
      obtain ⟨⟨L1, t2, hI, hT, hne, hx⟩⟩ := HK.out
      have HI := Aside0.mk hI
      have HT := Aside0.mk hT
      have HNE := Aside0.mk hne
      have HX := Aside0.mk hx
      have y2 := blk_frozen hx 2
      have z2 : wr.cell? ⟨gX, 2, none⟩ = some (.int .i64 t2) := (blk_cell hx 2).trans rfl
      clear hI hT hne hx HK
      go_wp2_with fail
      generalize hws : wr.setCell ⟨gX, 2, none⟩ (.int .i64 (k : Int)) = ws
      have hoff : ¬ Foot L1 g gX := HI.out.off (tag_cells HX.out) HNE.out (by decide) (by decide) (by decide) (by decide) (by decide)
      have I2 : Aside0 (IsD base ws.drew g L1 { d with lt := d.lt ++ allTo k ⟨x0, x1, x2, x3, x4, x5⟩ }) := ⟨by rw [← hws]; exact (HI.out.setOff (p := ⟨gX, 2, none⟩) hoff _).drew⟩
      have T2 : Aside0 (Turn w ws.drew (Foot L g) (Foot L1 g)) := ⟨by rw [← hws]; exact (HT.out.setNew (p := ⟨gX, 2, none⟩) HGE.out _).drew⟩
      have X2 : Aside0 (ws.drew.heap[gX]? = some (.cells (encL ⟨x0, x1, k, x3, x4, x5⟩).toArray 49 (0, 0))) := ⟨by rw [← hws]; exact blk_put HX.out 2 (.int .i64 (k : Int)) rfl⟩
      have cL : ws.drew.cell? ⟨g, 2, none⟩ = some L1.vl := (blk_cell I2.out.blk 2).trans rfl
      have e0 : ws.drew.cell? ⟨gX, 0, none⟩ = some (.int .i64 x0) := (blk_cell X2.out 0).trans rfl
      have e1 : ws.drew.cell? ⟨gX, 1, none⟩ = some (.int .i64 x1) := (blk_cell X2.out 1).trans rfl
      have e2 : ws.drew.cell? ⟨gX, 2, none⟩ = some (.int .i64 (k : Int)) := (blk_cell X2.out 2).trans rfl
      have e3 : ws.drew.cell? ⟨gX, 3, none⟩ = some (.int .i64 x3) := (blk_cell X2.out 3).trans rfl
      have e4 : ws.drew.cell? ⟨gX, 4, none⟩ = some (.int .i64 x4) := (blk_cell X2.out 4).trans rfl
      have e5 : ws.drew.cell? ⟨gX, 5, none⟩ = some (.string x5) := (blk_cell X2.out 5).trans rfl
      clear hws HI HT HX y2 z2
      refine start_ (n := 11) (S := fun w' => Below (ws).drew.heap.size (ws).drew w') (ds := [7, 10]) #[false, false, false, false, false, false, false, false, false, false, false] (by kernel_rfl) rfl rfl (Below.refl _ _) (fun hHeld => ?_)
      generalize (ws).drew = W0 at *
      refine pure_ (i := 0) (N := (some 15)) (v := ?_) (a' := ?_) #[true, false, false, false, false, false, false, false, false, false, false] rfl rfl (by kernel_rfl) (fun _ _ _ h => h) (Or.inl ⟨by rfl, ?_⟩) ?_ ?_
      rotate_left
      · intro w'
        go_simp
        first | done | with_reducible rfl
      rotate_left
      · simp only [Act.put, List.setIfInBounds_toArray, List.set_cons_zero, List.set_cons_succ, i64_w, i32_w]
        rfl
      refine pure_ (i := 1) (N := (some 16)) (v := ?_) (a' := ?_) #[true, true, false, false, false, false, false, false, false, false, false] rfl rfl (by kernel_rfl) (fun _ _ _ h => h) (Or.inl ⟨by rfl, ?_⟩) ?_ ?_
      rotate_left
      · intro w'
        go_simp
        first | done | with_reducible rfl
      rotate_left
      · simp only [Act.put, List.setIfInBounds_toArray, List.set_cons_zero, List.set_cons_succ, i64_w, i32_w]
        rfl
      refine pure_ (i := 2) (N := (some 17)) (v := ?_) (a' := ?_) #[true, true, true, false, false, false, false, false, false, false, false] rfl rfl (by kernel_rfl) (fun _ _ _ h => h) (Or.inl ⟨by rfl, ?_⟩) ?_ ?_
      rotate_left
      · intro w'
        skip
        go_simp
        first | done | with_reducible rfl
      rotate_left
      · simp only [Act.put, List.setIfInBounds_toArray, List.set_cons_zero, List.set_cons_succ, i64_w, i32_w]
        rfl
      refine pure_ (i := 3) (N := (some 18)) (v := ?_) (a' := ?_) #[true, true, true, true, false, false, false, false, false, false, false] rfl rfl (by kernel_rfl) (fun _ _ _ h => h) (Or.inl ⟨by rfl, ?_⟩) ?_ ?_
      rotate_left
      · intro w'
        go_simp
        first | done | with_reducible rfl
      rotate_left
      · simp only [Act.put, List.setIfInBounds_toArray, List.set_cons_zero, List.set_cons_succ, i64_w, i32_w]
        rfl
      refine take_ (i := 4) (N := (some 19)) (v := ?_) (a' := ?_) #[true, true, true, true, true, false, false, false, false, false, false] rfl rfl (by kernel_rfl) (fun _ _ _ h => h) (Or.inl ⟨by rfl, ?_⟩) hHeld ?_ ?_
      rotate_left
      · intro w' hS
        have s0 := pw_cell_below hS cL
        go_simp
        first | done | with_reducible rfl
      rotate_left
      · simp only [Act.put, List.setIfInBounds_toArray, List.set_cons_zero, List.set_cons_succ, i64_w, i32_w]
        rfl
      refine take_ (i := 5) (N := (some 20)) (v := ?_) (a' := ?_) #[true, true, true, true, true, true, false, false, false, false, false] rfl rfl (by kernel_rfl) (fun _ _ _ h => h) (Or.inl ⟨by rfl, ?_⟩) hHeld ?_ ?_
      rotate_left
      · intro w' hS
        have s0 := pw_cell_below hS e0
        have s1 := pw_cell_below hS e1
        have s2 := pw_cell_below hS e2
        have s3 := pw_cell_below hS e3
        have s4 := pw_cell_below hS e4
        have s5 := pw_cell_below hS e5
        go_simp
        first | done | with_reducible rfl
      rotate_left
      · simp only [Act.put, List.setIfInBounds_toArray, List.set_cons_zero, List.set_cons_succ, i64_w, i32_w]
        rfl
      refine one_ (i := 6) (N := (some 21)) #[true, true, true, true, true, true, true, false, false, false, false] rfl rfl (by kernel_rfl) (by decide) (fun K hK => ?_)
      refine value_ (v := .slice (some ⟨W0.heap.size, 0, none⟩) 1 1) (w1 := W0.alloc (.cells (encL ⟨x0, x1, k, x3, x4, x5⟩).toArray 49)) (by rfl) rfl (by first | (go_simp; done) | (go_simp; rfl)) ?_
      have hS2 : Below W0.heap.size W0 (W0.alloc (.cells (encL ⟨x0, x1, k, x3, x4, x5⟩).toArray 49)) := below_alloc (Below.refl _ _) _
      refine hK.out _ _ hS2 (fun hHeld => ?_)
      clear hK K
      refine norm_ (a' := ?_) ?_ ?_
      rotate_left
      · show Act.put _ (some 21) _ = _
        simp only [Act.put, List.setIfInBounds_toArray, List.set_cons_zero, List.set_cons_succ, i64_w, i32_w]
        rfl
      refine last_ (i := 7) (N := (some 22)) #[true, true, true, true, true, true, true, true, false, false, false] rfl rfl (by kernel_rfl) (by decide) (fun K hK => ?_)
      refine Kd.R_append_step (P := Try.prog) KL (w0 := W0) (W := W0) base (by rfl) (.tmp 19) (.tmp 21) 42 49 (.agg #[.int .i64 0, .int .i64 0, .int .i64 0, .int .i64 0, .int .i64 0, .string ⟨#[]⟩]) 56 rfl Try.underlying42 info_L rfl (by decide) (by decide) L1.vl (d.lt ++ allTo k ⟨x0, x1, x2, x3, x4, x5⟩) ⟨x0, x1, k, x3, x4, x5⟩ (encL ⟨x0, x1, k, x3, x4, x5⟩) (fun _ => True) (fun _ => False) rfl rfl rfl (fun _ h => h.elim) (fun _ _ => trivial) I2.out.lt (Below.refl _ _) (by have := HB.out; have := T2.out.size; omega) (by have := HL.out; rw [List.length_append, allTo_len]; omega) ?_
      intro v1 w1 hr1 hb1 hg1 hat1
      have hgb := I2.out.blk_lt_ hg1
      have z2 := (blk_cell hgb 2).trans rfl
      have y2 := blk_frozen hgb 2
      have HA := Aside0.mk (I2.out.app_lt hr1 hg1 hat1)
      have HXN := Aside0.mk (show w1.heap[gX]? = some (.cells (encL ⟨x0, x1, k, x3, x4, x5⟩).toArray 49 (0, 0)) from (hg1.block gX (blk_lt X2.out) (fun e => HNE.out e.symm)).trans X2.out)
      have HNE1 : Aside0 (v1.ownBlock ≠ some gX) := ⟨fun e => by
        rcases hat1 with q | ⟨b, q, hq⟩
        · exact HNE.out (q ▸ e)
        · rw [q] at e
          cases e
          have := blk_lt X2.out
          omega⟩
      obtain ⟨A1, m1, c1, ev1⟩ := R_sl hr1
      clear hr1 hb1 hg1 hat1 hgb
      subst ev1
      refine hK.out _ _ ?_
      clear hK K
      refine norm_ (a' := ?_) ?_ ?_
      rotate_left
      · show Act.put _ (some 22) _ = _
        simp only [Act.put, List.setIfInBounds_toArray, List.set_cons_zero, List.set_cons_succ, i64_w, i32_w]
        rfl
      refine pure_ (i := 8) (N := (some 23)) (v := ?_) (a' := ?_) #[true, true, true, true, true, true, true, true, true, false, false] rfl rfl (by kernel_rfl) (fun _ _ _ h => h) (Or.inl ⟨by rfl, ?_⟩) ?_ ?_
      rotate_left
      · intro w'
        skip
        go_simp
        first | done | with_reducible rfl
      rotate_left
      · simp only [Act.put, List.setIfInBounds_toArray, List.set_cons_zero, List.set_cons_succ, i64_w, i32_w]
        rfl
      refine pure_ (i := 9) (N := (some 24)) (v := ?_) (a' := ?_) #[true, true, true, true, true, true, true, true, true, true, false] rfl rfl (by kernel_rfl) (fun _ _ _ h => h) (Or.inl ⟨by rfl, ?_⟩) ?_ ?_
      rotate_left
      · intro w'
        go_simp
        first | done | with_reducible rfl
      rotate_left
      · simp only [Act.put, List.setIfInBounds_toArray, List.set_cons_zero, List.set_cons_succ, i64_w, i32_w]
        rfl
      refine last_ (i := 10) (N := none) #[true, true, true, true, true, true, true, true, true, true, true] rfl rfl (by kernel_rfl) (by decide) (fun K hK => ?_)
      refine skip_ (by rfl) rfl (by first | (go_simp; done) | (go_simp; rfl)) ?_
      refine hK.out _ _ ?_
      clear hK K
      refine done_ (by kernel_rfl) ?_
      have HN : Aside0 (AllRel base w g L d ⟨x0, x1, x2, x3, x4, x5⟩ gX (k + 1) (w1.setCell ⟨g, 2, none⟩ (.slice A1 m1 c1))) := ⟨⟨{ L1 with vl := .slice A1 m1 c1 }, k, by
        rw [allTo_succ, ← List.append_assoc]; exact HA.out.1, T2.out.trans HA.out.2, HNE1.out, (Below.heap_setCell _ _ _ gX (ne_tag (tag_cells X2.out) I2.out.tg (by decide))).trans HXN.out⟩⟩
      clear z2 y2 cL e0 e1 e2 e3 e4 e5 hHeld
      generalize w1.setCell ⟨g, 2, none⟩ (.slice A1 m1 c1) = wn at *
      go_wp2_with fail
      go_roundw
      case rel => exact ⟨k + 1, by omega, by go_num, HN⟩
      case measure => simp [intOf]; omega
    · obtain rfl : k = n := by omega
      go_wp2_with fail
      go_end0
      obtain ⟨⟨L1, _, hI, hT, _, _⟩⟩ := HK.out
      exact ⟨rfl, L1, by rw [hn]; exact hI, hT⟩
end Go.Proofs.Ytnhnbobgfadhpaa.Dec
namespace Go.Proofs.Ytnhnbobgfadhpaa.Dec
set_option linter.unusedVariables false
variable {n : Nat} {d d' : D}
theorem bput_lt {s i : Nat} (hs : s < 2 ^ 64) (hi : i < 64) : bput s i < 2 ^ 64 := by
  unfold bput
  exact Nat.or_lt_two_pow hs (Nat.pow_lt_pow_right (by decide) hi)
structure LtW (n : Nat) (x : Lt) : Prop where
  f0 : 0 ≤ x.fr
  f1 : x.fr < n
  t0 : 0 ≤ x.dst
  t1 : x.dst < n
  b0 : 0 ≤ x.bal
  b1 : x.bal < 4294967296
structure Wf (n : Nat) (d : D) : Prop where
  n0 : d.sl.length = n
  lt : ∀ x, x ∈ d.lt → LtW n x
  pp : ∀ b p, d.pp b = some p → p.pr < 2 ^ 64 ∧ p.tk < 2 ^ 64
  tk : ∀ b z, d.tk b = some z → z.1 < 2 ^ 64
theorem Wf.new (n : Nat) : Wf n (newD n) := ⟨List.length_replicate, fun x h => (by cases h), fun b p h => (by cases h), fun b z h => (by cases h)⟩
theorem Wf.letters (h : Wf n d) (l : List Lt) (hl : ∀ x, x ∈ l → x ∈ d.lt) : Wf n { d with lt := l } := ⟨h.n0, fun x hx => h.lt x (hl x hx), h.pp, h.tk⟩
theorem Wf.begin (h : Wf n d) (who : Int) (v : ByteArray) (h0 : 0 ≤ who) (h1 : who < n) (hn : n ≤ 8) : Wf n (beginD d who v) := by
  unfold beginD
  split
  · exact h
  · rename_i hlen
    refine ⟨h.n0, fun x hx => ?_, fun b p hp => ?_, h.tk⟩
    · rcases List.mem_append.1 hx with k | k
      · exact h.lt x k
      · obtain ⟨i, hi, rfl⟩ := allTo_mem k
        rw [h.n0] at hi
        exact ⟨h0, h1, Int.natCast_nonneg i, (by show (i : Int) < n; omega), (by show 0 ≤ nextB d who; unfold nextB; omega), (by show nextB d who < _; unfold nextB; omega)⟩
    · have hp : upd d.pp (nextB d who) (some (fresh (nextB d who) v)) b = some p := hp
      by_cases hb : b = nextB d who
      · subst hb
        rw [upd_self] at hp; cases hp
        exact ⟨(by decide : (0 : Nat) < 2 ^ 64), (by decide : (0 : Nat) < 2 ^ 64)⟩
      · rw [upd_ne _ _ hb] at hp; exact h.pp b p hp
theorem Wf.prom (h : Wf n d) (x : Lt) (hx : LtW n x) : Wf n (promD d x) := by
  unfold promD
  split
  · refine ⟨by show (d.sl.set _ _).length = n; rw [List.length_set]; exact h.n0, fun y hy => ?_, h.pp, h.tk⟩
    rcases List.mem_append.1 hy with k | k
    · exact h.lt y k
    · rw [List.mem_singleton.1 k]; exact ⟨hx.t0, hx.t1, hx.f0, hx.f1, hx.b0, hx.b1⟩
  · exact h
theorem Wf.acc (h : Wf n d) (x : Lt) (hx : LtW n x) (hn : n ≤ 8) : Wf n (accD d x) := by
  unfold accD
  split
  · refine ⟨by show (d.sl.set _ _).length = n; rw [List.length_set]; exact h.n0, fun y hy => ?_, h.pp, fun b z hz => ?_⟩
    · rcases List.mem_append.1 hy with k | k
      · exact h.lt y k
      · rw [List.mem_singleton.1 k]; exact ⟨hx.t0, hx.t1, hx.f0, hx.f1, hx.b0, hx.b1⟩
    · have hz : upd d.tk x.bal _ b = some z := hz
      by_cases hb : b = x.bal
      · subst hb
        rw [upd_self] at hz; cases hz
        refine bput_lt ?_ (by have := hx.t1; have := hx.t0; omega)
        unfold whoOf
        cases ht : d.tk x.bal with
        | none => exact (by decide : (0 : Nat) < 2 ^ 64)
        | some y => exact h.tk _ y ht
      · rw [upd_ne _ _ hb] at hz; exact h.tk b z hz
  · exact h
theorem promP_w {p : Pp} {fr bal acc : Int} {val : ByteArray} (h : p.pr < 2 ^ 64 ∧ p.tk < 2 ^ 64) (hn : n ≤ 8) : (promP n p fr bal acc val).2.pr < 2 ^ 64 ∧ (promP n p fr bal acc val).2.tk < 2 ^ 64 := by
  unfold promP
  split
  · rename_i hc
    have hb : bput p.pr fr.toNat < 2 ^ 64 := bput_lt h.1 (by have := hc.2.2.1; have := hc.2.2.2.1; omega)
    split <;> exact ⟨hb, h.2⟩
  · exact h
theorem accP_w {p : Pp} {fr bal : Int} (h : p.pr < 2 ^ 64 ∧ p.tk < 2 ^ 64) (hn : n ≤ 8) : (accP n p fr bal).2.pr < 2 ^ 64 ∧ (accP n p fr bal).2.tk < 2 ^ 64 := by
  unfold accP
  split
  · rename_i hc
    have hb : bput p.tk fr.toNat < 2 ^ 64 := bput_lt h.2 (by have := hc.2.2.1; have := hc.2.2.2.1; omega)
    split <;> exact ⟨h.1, hb⟩
  · exact h
theorem Wf.tell (h : Wf n d) (x : Lt) (hx : LtW n x) (hn : n ≤ 8) : Wf n (tellD d x) := by
  unfold tellD
  cases hp : d.pp x.bal with
  | none => exact h
  | some p =>
    have hw := h.pp _ p hp
    show Wf n (if x.kd = 1 then _ else _)
    rw [h.n0]
    split
    · refine ⟨h.n0, fun y hy => ?_, fun b q hq => ?_, h.tk⟩
      · rcases List.mem_append.1 hy with k | k
        · exact h.lt y k
        · split at k
          · obtain ⟨i, hi, rfl⟩ := allTo_mem k
            exact ⟨hx.t0, hx.t1, Int.natCast_nonneg i, (by show (i : Int) < n; omega), hx.b0, hx.b1⟩
          · cases k
      · have hq : upd d.pp x.bal _ b = some q := hq
        by_cases hb : b = x.bal
        · subst hb
          rw [upd_self] at hq; cases hq
          exact promP_w hw hn
        · rw [upd_ne _ _ hb] at hq; exact h.pp b q hq
    · refine ⟨h.n0, h.lt, fun b q hq => ?_, h.tk⟩
      have hq : upd d.pp x.bal _ b = some q := hq
      by_cases hb : b = x.bal
      · subst hb
        rw [upd_self] at hq; cases hq
        exact accP_w hw hn
      · rw [upd_ne _ _ hb] at hq; exact h.pp b q hq
theorem Wf.forget (h : Wf n d) (who : Int) : Wf n (forgD d who) := by
  refine ⟨h.n0, h.lt, fun b p hp => ?_, h.tk⟩
  have k : (match d.pp b with | none => none | some p => if Int.tmod b 8 = who ∧ p.ph ≠ 3 then none else some p) = some p := hp
  cases hq : d.pp b with
  | none => rw [hq] at k; cases k
  | some q =>
    rw [hq] at k
    have k : (if Int.tmod b 8 = who ∧ q.ph ≠ 3 then none else some q) = some p := k
    split at k
    · cases k
    · have hh := h.pp b _ hq
      cases k; exact hh
theorem Wf.step (h : Wf n d) (hn0 : 0 < n) (hn : n ≤ 8) (s : St) : Wf n (doD d s) := by
  unfold doD
  have hw := md_in s.who d.sl.length (by rw [h.n0]; exact hn0)
  split
  · rw [h.n0] at hw ⊢
    exact h.begin _ _ hw.1 hw.2 hn
  · split
    · exact h.forget _
    · split
      · cases hx : d.lt[(md s.n d.lt.length).toNat]? with
        | none => exact h
        | some x =>
          have hm : x ∈ d.lt := List.mem_of_getElem? hx
          have hE := h.letters (d.lt.eraseIdx (md s.n d.lt.length).toNat) (fun y hy => List.mem_of_mem_eraseIdx hy)
          show Wf n (if s.kd = 3 then _ else if s.kd = 1 then _ else _)
          split
          · exact h.letters _ (fun y hy => by
              rcases List.mem_append.1 hy with k | k
              · exact k
              · rw [List.mem_singleton.1 k]; exact hm)
          · split
            · unfold readD
              split
              · exact hE.prom x (h.lt x hm)
              · split
                · exact hE.acc x (h.lt x hm) hn
                · exact hE.tell x (h.lt x hm) hn
            · exact hE
      · exact h
end Go.Proofs.Ytnhnbobgfadhpaa.Dec
namespace Go.Proofs.Ytnhnbobgfadhpaa.Dec
open Go Go.RowKit Go.Proofs.Ytnhnbobgfadhpaa.PDecreeStill Go.Proofs.YtnhnbobgfadhpaaBits Go.Proofs.YtnhnbobgfadhpaaW.PrintWords
open Go.Proofs.Ytnhnbobgfadhpaa.SetsDecreeStill (PS PS.ok inn put lives enough counts promise accepting promised_f accepted_f new_f with_f enough_f)
set_option linter.unusedVariables false
theorem cnt_cn (x : Nat) : ∀ n, cnt x n = cn x n
  | 0 => rfl
  | n + 1 => by unfold cnt cn; rw [cnt_cn x n]
theorem lives_cn (x n : Nat) (h : n ≤ 63) : lives x (n : Int) = cn x n := by
  unfold lives
  rw [cnt_cn, show min (max (n : Int) 0).toNat 63 = n by omega]
theorem enough_enb (x n : Nat) (h : n ≤ 63) : enough x (n : Int) = enb x n := by
  unfold enough enb
  rw [lives_cn x n h]
  by_cases hc : n / 2 + 1 ≤ cn x n
  · rw [decide_eq_true hc]; exact decide_eq_true (by omega)
  · rw [decide_eq_false hc]; exact decide_eq_false (by omega)
theorem put_bput (s : Nat) (i : Int) (h0 : 0 ≤ i) (h1 : i ≤ 62) : put s i = bput s i.toNat := by
  unfold put bput
  rw [if_pos (show inn i from ⟨h0, h1⟩)]
def toPS (n : Nat) (p : Pp) : PS := ⟨n, p.b, p.ph, p.v, p.best, p.fd, p.pr, p.tk⟩
theorem counts_cnts (n : Nat) (ph : Int) (p : Pp) (fr bal : Int) (had : Nat) (hn : n ≤ 63) : counts ph (toPS n p) fr bal had = decide (cnts n ph p fr bal had) := by
  unfold counts cnts toPS
  by_cases h1 : p.ph = ph
  · by_cases h2 : bal = p.b
    · by_cases h3 : 0 ≤ fr
      · by_cases h4 : fr < n
        · have hin : inn fr := ⟨h3, by omega⟩
          simp only [h1, h2, h3, h4, hin, decide_true, Bool.true_and, true_and]
          cases had.testBit fr.toNat <;> simp
        · simp [h4]
      · simp [h3]
    · simp [h2]
  · simp [h1]
theorem promise_promP (n : Nat) (p : Pp) (fr bal acc : Int) (val : ByteArray) (hn : n ≤ 63) : promise (toPS n p) fr bal acc val = ((promP n p fr bal acc val).1, toPS n (promP n p fr bal acc val).2) := by
  unfold promise promP
  have hc := counts_cnts n 1 p fr bal p.pr hn
  rw [show (toPS n p).pr = p.pr from rfl, hc]
  by_cases h : cnts n 1 p fr bal p.pr
  · rw [decide_eq_true h, if_pos rfl, if_pos h]
    rw [put_bput _ _ h.2.2.1 (by have := h.2.2.2.1; omega), show (toPS n p).n = (n : Int) from rfl, enough_enb _ _ hn]
    by_cases he : enb (bput p.pr fr.toNat) n = true
    · rw [if_pos he, if_pos he]; rfl
    · rw [if_neg he, if_neg he]; rfl
  · rw [decide_eq_false h, if_neg Bool.false_ne_true, if_neg h]
theorem accepting_accP (n : Nat) (p : Pp) (fr bal : Int) (hn : n ≤ 63) : accepting (toPS n p) fr bal = ((accP n p fr bal).1, toPS n (accP n p fr bal).2) := by
  unfold accepting accP
  have hc := counts_cnts n 2 p fr bal p.tk hn
  rw [show (toPS n p).tk = p.tk from rfl, hc]
  by_cases h : cnts n 2 p fr bal p.tk
  · rw [decide_eq_true h, if_pos rfl, if_pos h]
    rw [put_bput _ _ h.2.2.1 (by have := h.2.2.2.1; omega), show (toPS n p).n = (n : Int) from rfl, enough_enb _ _ hn]
    by_cases he : enb (bput p.tk fr.toNat) n = true
    · rw [if_pos he, if_pos he]; rfl
    · rw [if_neg he, if_neg he]; rfl
  · rw [decide_eq_false h, if_neg Bool.false_ne_true, if_neg h]
/-- slot.Promise -/
theorem slot_prom (s : Sl) (b : Int) : slot_Slot_Promise.f s.pr s.bal s.val b = some (if isB b ∧ s.pr < b then (b, s.bal, s.val, true) else (s.pr, s.bal, s.val, false)) := by
  unfold slot_Slot_Promise.f slot_is.f
  by_cases h1 : b ≥ 1
  · rw [if_pos h1, Option.bind_some]
    by_cases h2 : b ≤ 2147483647
    · rw [decide_eq_true h2, if_pos rfl]
      by_cases h3 : b ≤ s.pr
      · rw [if_pos h3, if_neg (fun k => by have := k.2; omega)]
      · rw [if_neg h3, if_pos ⟨⟨h1, h2⟩, by omega⟩]
    · rw [decide_eq_false h2, if_neg Bool.false_ne_true, if_neg (fun k => h2 k.1.2)]
  · rw [if_neg h1, Option.bind_some, if_neg Bool.false_ne_true, if_neg (fun k => h1 k.1.1)]
/-- slot.Accept -/
theorem slot_acc (s : Sl) (b : Int) (v : ByteArray) : slot_Slot_Accept.f s.pr s.bal s.val b v = some (if isB b ∧ s.pr ≤ b then (b, b, v, true) else (s.pr, s.bal, s.val, false)) := by
  unfold slot_Slot_Accept.f slot_is.f
  by_cases h1 : b ≥ 1
  · rw [if_pos h1, Option.bind_some]
    by_cases h2 : b ≤ 2147483647
    · rw [decide_eq_true h2, if_pos rfl]
      by_cases h3 : b < s.pr
      · rw [if_pos h3, if_neg (fun k => by have := k.2; omega)]
      · rw [if_neg h3, if_pos ⟨⟨h1, h2⟩, by omega⟩]
    · rw [decide_eq_false h2, if_neg Bool.false_ne_true, if_neg (fun k => h2 k.1.2)]
  · rw [if_neg h1, Option.bind_some, if_neg Bool.false_ne_true, if_neg (fun k => h1 k.1.1)]
theorem modulo_md (x : Int) (m : Nat) (h0 : 0 < m) (h1 : m ≤ 1000000000) : decree_modulo.f x m = some (md x m) := by
  unfold decree_modulo.f md
  rw [if_neg (by omega)]
  have h1 : -(m : Int) < Int.tmod x m := by
    have := Int.tmod_lt_of_pos (-x) (show (0 : Int) < m by omega)
    rw [Int.neg_tmod] at this; omega
  have h2 := Int.tmod_lt_of_pos x (show (0 : Int) < m by omega)
  have h3 : wrap64 (Int.tmod x m + m) = Int.tmod x m + m := by unfold wrap64; omega
  rw [h3]
end Go.Proofs.Ytnhnbobgfadhpaa.Dec
namespace Go.Proofs.Ytnhnbobgfadhpaa.Dec
open Go Go.RowKit Go.Proofs.YtnhnbobgfadhpaaW.PrintWords Go.Proofs.YtnhnbobgfadhpaaW.PrintLast Go.Proofs.YtnhnbobgfadhpaaW.PrintMore Go.Proofs.Ytnhnbobgfadhpaa.Mp Go.Proofs.Ytnhnbobgfadhpaa.PDecreeStill
set_option linter.unusedVariables false
set_option linter.unusedSimpArgs false
variable {base g : Nat} {L L' : Lay} {d : D} {W W1 : World} {F F' : Nat → Prop}
theorem slc_cons (s : Sl) (l : List Sl) : slc (s :: l) = encS s ++ slc l := rfl
theorem slc_len : ∀ l : List Sl, (slc l).length = 3 * l.length
  | [] => rfl
  | s :: l => by rw [slc_cons, List.length_append, slc_len l, List.length_cons]; show 3 + _ = _; omega
theorem slc_get : ∀ (l : List Sl) (i j : Nat) (s : Sl), l[i]? = some s → j < 3 → (slc l)[i * 3 + j]? = (encS s)[j]?
  | [], i, j, s, h, _ => by simp at h
  | x :: l, 0, j, s, h, hj => by
    have h : some x = some s := h
    cases h
    rw [slc_cons, Nat.zero_mul, Nat.zero_add, List.getElem?_append_left hj]
  | x :: l, i + 1, j, s, h, hj => by
    rw [slc_cons, List.getElem?_append_right (by show 3 ≤ _; omega), show (i + 1) * 3 + j - (encS x).length = i * 3 + j by show _ - 3 = _; omega]
    exact slc_get l i j s h hj
theorem slc_set : ∀ (l : List Sl) (i : Nat) (s : Sl), i < l.length → (((slc l).set (i * 3) (.int .i64 s.pr)).set (i * 3 + 1) (.int .i64 s.bal)).set (i * 3 + 2) (.string s.val) = slc (l.set i s)
  | [], i, s, h => by simp at h
  | x :: l, 0, s, h => rfl
  | x :: l, i + 1, s, h => by
    have ih := slc_set l i s (by simpa using h)
    rw [List.set_cons_succ, slc_cons, slc_cons, ← ih]
    rw [show (i + 1) * 3 = (encS x).length + i * 3 by show _ = 3 + _; omega, show (encS x).length + i * 3 + 1 = (encS x).length + (i * 3 + 1) by omega, show (encS x).length + i * 3 + 2 = (encS x).length + (i * 3 + 2) by omega]
    rw [List.set_append_right _ _ (by omega), List.set_append_right _ _ (by omega), List.set_append_right _ _ (by omega)]
    simp only [Nat.add_sub_cancel_left]
theorem IsD.slot_cell (h : IsD base W g L d) (i j : Nat) (s : Sl) (hs : d.sl[i]? = some s) (hj : j < 3) : W.cell? ⟨L.gs, i * 3 + j, none⟩ = (encS s)[j]? := by
  rw [blk_cell h.sl, List.getElem?_toArray]
  exact slc_get d.sl i j s hs hj
theorem IsD.slot_frozen (h : IsD base W g L d) (o : Nat) : W.frozen? ⟨L.gs, o, none⟩ = false := blk_frozen h.sl o
/-- a slot is stored -/
theorem IsD.put_sl (h : IsD base W g L d) (i : Nat) (s : Sl) (hi : i < d.sl.length) :
    IsD base (((W.setCell ⟨L.gs, i * 3, none⟩ (.int .i64 s.pr)).setCell ⟨L.gs, i * 3 + 1, none⟩ (.int .i64 s.bal)).setCell ⟨L.gs, i * 3 + 2, none⟩ (.string s.val)) g L { d with sl := d.sl.set i s } ∧
    Turn W (((W.setCell ⟨L.gs, i * 3, none⟩ (.int .i64 s.pr)).setCell ⟨L.gs, i * 3 + 1, none⟩ (.int .i64 s.bal)).setCell ⟨L.gs, i * 3 + 2, none⟩ (.string s.val)) (Foot L g) (Foot L g) := by
  have b1 := blk_put h.sl (i * 3) (.int .i64 s.pr) rfl
  have b2 := blk_put b1 (i * 3 + 1) (.int .i64 s.bal) rfl
  have b3 := blk_put b2 (i * 3 + 2) (.string s.val) rfl
  simp only [List.setIfInBounds_toArray] at b3
  rw [slc_set d.sl i s hi] at b3
  have hfar : ∀ k, k ≠ L.gs → (((W.setCell ⟨L.gs, i * 3, none⟩ (.int .i64 s.pr)).setCell ⟨L.gs, i * 3 + 1, none⟩ (.int .i64 s.bal)).setCell ⟨L.gs, i * 3 + 2, none⟩ (.string s.val)).heap[k]? = W.heap[k]? := fun k hk =>
    (Below.heap_setCell _ _ _ k hk).trans ((Below.heap_setCell _ _ _ k hk).trans (Below.heap_setCell _ _ _ k hk))
  generalize hW2 : ((W.setCell ⟨L.gs, i * 3, none⟩ (.int .i64 s.pr)).setCell ⟨L.gs, i * 3 + 1, none⟩ (.int .i64 s.bal)).setCell ⟨L.gs, i * 3 + 2, none⟩ (.string s.val) = W2 at *
  have hn : ∀ k t, tag W k = some t → t ≠ 36 → W2.heap[k]? = W.heap[k]? := fun k t ht hne => hfar k (ne_tag ht h.ts hne)
  have hlen : (d.sl.set i s).length = d.sl.length := List.length_set
  refine ⟨⟨?_, b3, Kd.R_mono (Kd.R_step (only_L h.lt) (fun k ho hlt => hn k _ (tag_row h.lt k ho) (by decide))) (fun _ _ => trivial), Kd.R_mono (Kd.R_step (only_s h.bg) (fun k ho hlt => hn k _ (tag_row h.bg k ho) (by decide))) (fun _ _ => trivial),
    Kd.R_mono (Kd.R_step (only_s h.ch) (fun k ho hlt => hn k _ (tag_row h.ch k ho) (by decide))) (fun _ _ => trivial), h.ap, h.pp.block (hn _ _ (tag_map h.pp) (by decide)), h.tk.block (hn _ _ (tag_map h.tk) (by decide)), h.ne, fun b p hp => ?_, h.prn, h.inj, h.ge, ?_⟩, ?_⟩
  · show W2.heap[g]? = some (.cells (dcs L (d.sl.set i s).length) _ _)
    rw [hlen]; exact (hn g _ h.tg (by decide)).trans h.blk
  · obtain ⟨q, h1, h2, h3⟩ := h.prs b p hp
    refine ⟨q, h1, h2, ?_⟩
    show W2.heap[q]? = some (.cells (ppc (d.sl.set i s).length p) _ _)
    rw [hlen]; exact (hn q _ (tag_cells h3) (by decide)).trans h3
  · show (d.sl.set i s).length ≤ 5
    rw [hlen]; exact h.sm
  · rw [← hW2]
    exact ⟨rfl, rfl, rfl, by simp, fun k _ hf => by rw [hW2]; exact hfar k (fun e => hf (.inr (.inl e))), fun _ h => .inl h⟩
theorem IsD.foot_lt (h : IsD base W g L d) (k : Nat) (hk : Foot L g k) : k < W.heap.size := by
  rcases hk with rfl | rfl | rfl | rfl | e | e | e | ⟨b, e⟩
  · exact blk_lt h.blk
  · exact blk_lt h.sl
  · exact h.pp.lt
  · exact h.tk.lt
  · exact blk_lt_of_row h.lt k e
  · exact blk_lt_of_row h.bg k e
  · exact blk_lt_of_row h.ch k e
  · cases hp : d.pp b with
    | none => rw [h.prn b hp] at e; cases e
    | some p => obtain ⟨q, hq, _, hb⟩ := h.prs b p hp; rw [e] at hq; cases hq; exact blk_lt hb
theorem slot_at {d : D} {i : Int} {n : Nat} (hn : d.sl.length = n) (h0 : 0 ≤ i) (h1 : i < n) : d.sl[i.toNat]? = some (slot d i) := slot_get hn h0 h1
set_option maxRecDepth 100000 in
set_option maxHeartbeats 8000000 in
theorem prom_c (x : Lt) (w : World) (h : IsD base w g L d) (hx : LtW d.sl.length x) (hl : d.lt.length ≤ 1000000) (hbase : base ≤ w.heap.size) :
    Calls Try.prog 29 #[.pointer (some ⟨g, 0, none⟩), .agg (encL x).toArray] w fun e w' => e = .returned (.tuple #[]) ∧
      ∃ L', IsD base w' g L' (promD d x) ∧ Turn w w' (Foot L g) (Foot L' g) := by
  have OW := Aside0.mk (Mem.Own.nil w)
  have HD := Aside0.mk h
  have HL := Aside0.mk hl
  have HB := Aside0.mk hbase
  have HX := Aside0.mk hx
  obtain ⟨n, hn⟩ : ∃ n, d.sl.length = n := ⟨_, rfl⟩
  rw [hn] at HX hx
  have hn5 : (n : Int) ≤ 5 := by have := h.sm; omega
  obtain ⟨x0, x1, x2, x3, x4, x5⟩ := x
  obtain ⟨i, rfl⟩ : ∃ i : Nat, x2 = i := ⟨x2.toNat, by have : 0 ≤ x2 := hx.t0; omega⟩
  have hin : (i : Int) < (n : Int) := hx.t1
  have hsl := slot_at hn (Int.natCast_nonneg i) hin
  rw [Int.toNat_natCast] at hsl
  obtain ⟨s, hs⟩ : ∃ s, slot d (i : Int) = s := ⟨_, rfl⟩
  rw [hs] at hsl
  have HS := Aside0.mk hs
  have HSL := Aside0.mk hsl
  have HFT := Aside0.mk (fun k hk => h.foot_lt k hk)
  clear h hl hbase hx hsl hs
  go_enter Try.func29, Try.ntmps29
  go_wp2_with (first
    | ((with_reducible refine gate_dst (N := 3) rfl ?_); refine box_event ?hg (N := 3) ?hd (cs := #[.int .i64 x0, .int .i64 x1, .int .i64 (i : Int), .int .i64 x3, .int .i64 x4, .string x5]) (t := 49) ?hr ?_; (case hd => rfl); (case hg => rfl); (case hr => first | (go_simp; done) | (go_simp; rfl)); intro gX hg W_ hb hbb; have n2 := Aside0.mk (HD.out.below hbb); clear HD; have HD := n2; clear n2; have n_ : Aside0 (Mem.Own w W_ [(gX, #[.int .i64 x0, .int .i64 x1, .int .i64 (i : Int), .int .i64 x3, .int .i64 x4, .string x5], 49)]) := ⟨OW.out.new hg hb hbb⟩; clear OW hb hbb hg; have OW := n_; clear n_))
  have OD := Aside0.mk OW.out.drew
  have ID := Aside0.mk HD.out.drew
  have c0 : W_.drew.cell? ⟨g, 0, none⟩ = some (.slice (some ⟨L.gs, 0, none⟩) n n) := by rw [← hn]; exact (blk_cell ID.out.blk 0).trans rfl
  have e2 : W_.drew.cell? ⟨gX, 2, none⟩ = some (.int .i64 (i : Int)) := (OD.out.cell 0 rfl 2).trans rfl
  have r0 : W_.drew.cell? ⟨L.gs, i * 3, none⟩ = some (.int .i64 s.pr) := (ID.out.slot_cell i 0 s HSL.out (by decide)).trans rfl
  have r1 : W_.drew.cell? ⟨L.gs, i * 3 + 1, none⟩ = some (.int .i64 s.bal) := (ID.out.slot_cell i 1 s HSL.out (by decide)).trans rfl
  have r2 : W_.drew.cell? ⟨L.gs, i * 3 + 2, none⟩ = some (.string s.val) := (ID.out.slot_cell i 2 s HSL.out (by decide)).trans rfl
  clear OW HD
  refine start_ (n := 10) (S := fun w' => Below (W_).drew.heap.size (W_).drew w') (ds := [9]) #[false, false, false, false, false, false, false, false, false, false] (by kernel_rfl) rfl rfl (Below.refl _ _) (fun hHeld => ?_)
  generalize (W_).drew = W0 at *
  refine pure_ (i := 0) (N := (some 7)) (v := ?_) (a' := ?_) #[true, false, false, false, false, false, false, false, false, false] rfl rfl (by kernel_rfl) (fun _ _ _ h => h) (Or.inl ⟨by rfl, ?_⟩) ?_ ?_
  rotate_left
  · intro w'
    go_simp
    first | done | with_reducible rfl
  rotate_left
  · simp only [Act.put, List.setIfInBounds_toArray, List.set_cons_zero, List.set_cons_succ, i64_w, i32_w]
    rfl
  refine pure_ (i := 1) (N := (some 8)) (v := ?_) (a' := ?_) #[true, true, false, false, false, false, false, false, false, false] rfl rfl (by kernel_rfl) (fun _ _ _ h => h) (Or.inl ⟨by rfl, ?_⟩) ?_ ?_
  rotate_left
  · intro w'
    skip
    go_simp
    first | done | with_reducible rfl
  rotate_left
  · simp only [Act.put, List.setIfInBounds_toArray, List.set_cons_zero, List.set_cons_succ, i64_w, i32_w]
    rfl
  refine pure_ (i := 2) (N := (some 9)) (v := ?_) (a' := ?_) #[true, true, true, false, false, false, false, false, false, false] rfl rfl (by kernel_rfl) (fun _ _ _ h => h) (Or.inl ⟨by rfl, ?_⟩) ?_ ?_
  rotate_left
  · intro w'
    go_simp
    first | done | with_reducible rfl
  rotate_left
  · simp only [Act.put, List.setIfInBounds_toArray, List.set_cons_zero, List.set_cons_succ, i64_w, i32_w]
    rfl
  refine take_ (i := 3) (N := (some 10)) (v := ?_) (a' := ?_) #[true, true, true, true, false, false, false, false, false, false] rfl rfl (by kernel_rfl) (fun _ _ _ h => h) (Or.inl ⟨by rfl, ?_⟩) hHeld ?_ ?_
  rotate_left
  · intro w' hS
    have s0 := pw_cell_below hS c0
    go_simp
    first | done | with_reducible rfl
  rotate_left
  · simp only [Act.put, List.setIfInBounds_toArray, List.set_cons_zero, List.set_cons_succ, i64_w, i32_w]
    rfl
  refine pure_ (i := 4) (N := (some 11)) (v := ?_) (a' := ?_) #[true, true, true, true, true, false, false, false, false, false] rfl rfl (by kernel_rfl) (fun _ _ _ h => h) (Or.inl ⟨by rfl, ?_⟩) ?_ ?_
  rotate_left
  · intro w'
    go_simp
    first | done | with_reducible rfl
  rotate_left
  · simp only [Act.put, List.setIfInBounds_toArray, List.set_cons_zero, List.set_cons_succ, i64_w, i32_w]
    rfl
  refine take_ (i := 5) (N := (some 12)) (v := ?_) (a' := ?_) #[true, true, true, true, true, true, false, false, false, false] rfl rfl (by kernel_rfl) (fun _ _ _ h => h) (Or.inl ⟨by rfl, ?_⟩) hHeld ?_ ?_
  rotate_left
  · intro w' hS
    have s0 := pw_cell_below hS e2
    go_simp
    first | done | with_reducible rfl
  rotate_left
  · simp only [Act.put, List.setIfInBounds_toArray, List.set_cons_zero, List.set_cons_succ, i64_w, i32_w]
    rfl
  refine pure_ (i := 6) (N := (some 13)) (v := ?_) (a' := ?_) #[true, true, true, true, true, true, true, false, false, false] rfl rfl (by kernel_rfl) (fun _ _ _ h => h) (Or.inl ⟨by rfl, ?_⟩) ?_ ?_
  rotate_left
  · intro w'
    go_simp
    first | done | with_reducible rfl
  rotate_left
  · simp only [Act.put, List.setIfInBounds_toArray, List.set_cons_zero, List.set_cons_succ, i64_w, i32_w]
    rfl
  refine take_ (i := 7) (N := (some 14)) (v := ?_) (a' := ?_) #[true, true, true, true, true, true, true, true, false, false] rfl rfl (by kernel_rfl) (fun _ _ _ h => h) (Or.inl ⟨by rfl, ?_⟩) hHeld ?_ ?_
  rotate_left
  · intro w' hS
    have s0 := pw_cell_below hS r0
    have s1 := pw_cell_below hS r1
    have s2 := pw_cell_below hS r2
    go_simp
    first | done | with_reducible rfl
  rotate_left
  · simp only [Act.put, List.setIfInBounds_toArray, List.set_cons_zero, List.set_cons_succ, i64_w, i32_w]
    rfl
  refine one_ (i := 8) (N := (some 4)) #[true, true, true, true, true, true, true, true, true, false] rfl rfl (by kernel_rfl) (by decide) (fun K hK => ?_)
  refine box_step (by rfl) (N := 4) rfl (cs := #[.int .i64 0, .int .i64 0, .string ⟨#[]⟩]) (t := 36) (by first | (go_simp; done) | (go_simp; rfl)) ?_
  intro gA hg wa hb hbb
  have OA := Aside0.mk ((OD.out.step hHeld).new hg hb hbb)
  have hS2 : Below W0.heap.size W0 wa := below_step hHeld hbb
  have HBW := Aside0.mk hS2
  have HGA := Aside0.mk (show W0.heap.size ≤ gA by rw [hg]; exact hHeld.size)
  clear hb hbb hg hHeld
  refine hK.out _ _ hS2 (fun hHeld => ?_)
  clear hK K
  refine norm_ (a' := ?_) ?_ ?_
  rotate_left
  · show Act.put _ (some 4) _ = _
    simp only [Act.put, List.setIfInBounds_toArray, List.set_cons_zero, List.set_cons_succ, i64_w, i32_w]
    rfl
  refine last_ (i := 9) (N := none) #[true, true, true, true, true, true, true, true, true, true] rfl rfl (by kernel_rfl) (by decide) (fun K hK => ?_)
  have z0 := (OA.out.cell 1 rfl 0).trans rfl
  have z1 := (OA.out.cell 1 rfl 1).trans rfl
  have z2 := (OA.out.cell 1 rfl 2).trans rfl
  have y0 := OA.out.frozen 1 rfl 0
  have y1 := OA.out.frozen 1 rfl 1
  have y2 := OA.out.frozen 1 rfl 2
  refine skip_ (by rfl) rfl (by first | (go_simp; done) | (go_simp; rfl)) ?_
  refine hK.out _ _ ?_
  clear hK K
  refine done_ (by kernel_rfl) ?_
  have OP := Aside0.mk (((OA.out.put 1 rfl 0 (.int .i64 s.pr) rfl).put 1 rfl 1 (.int .i64 s.bal) rfl).put 1 rfl 2 (.string s.val) rfl)
  have HB6 := Aside0.mk (((HBW.out.setCell (p := ⟨gA, 0, none⟩) HGA.out (.int .i64 s.pr)).setCell (p := ⟨gA, 1, none⟩) HGA.out (.int .i64 s.bal)).setCell (p := ⟨gA, 2, none⟩) HGA.out (.string s.val))
  have I6 := Aside0.mk (ID.out.below HB6.out)
  have T6 := Aside0.mk (Turn.below (F := Foot L g) (show Below w.heap.size w _ from OP.out.below))
  clear OA HBW HGA HB6 ID OD c0 e2 r0 r1 r2 z0 z1 z2 y0 y1 y2 hHeld
  generalize ((wa.setCell ⟨gA, 0, none⟩ (.int .i64 s.pr)).setCell ⟨gA, 1, none⟩ (.int .i64 s.bal)).setCell ⟨gA, 2, none⟩ (.string s.val) = w6 at *
  have q0 := (OP.out.cell 1 rfl 0).trans rfl
  have q1 := (OP.out.cell 1 rfl 1).trans rfl
  have q2 := (OP.out.cell 1 rfl 2).trans rfl
  have e3 := (OP.out.cell 0 rfl 3).trans rfl
  have hsp := slot_prom s x3
  by_cases hc : isB x3 ∧ s.pr < x3
  · rw [if_pos hc] at hsp
    have HSP := Aside0.mk (fun W => slot_Slot_Promise.calls s.pr s.bal s.val x3 x3 s.bal s.val true W hsp)
    have HC := Aside0.mk hc
    clear hsp hc
    go_wp2_with (first
      | (go_at_call 38; (with_reducible refine (HSP.out _).mono ?_); rintro e wz ⟨rfl, hB⟩; have n_ := Aside0.mk (OP.out.step hB); have n2 := Aside0.mk (I6.out.below hB); clear OP I6 T6 hB q0 q1 q2 e3; have OW := n_; have I6 := n2; clear n_ n2)
      | ((with_reducible refine gate_dst (N := 5) rfl ?_); refine box_event ?hg (N := 5) ?hd (cs := #[.int .i64 0, .int .i64 0, .string ⟨#[]⟩]) (t := 36) ?hr ?_; (case hd => rfl); (case hg => rfl); (case hr => first | (go_simp; done) | (go_simp; rfl)); intro gB hg W_ hb hbb; have HBB := Aside0.mk hbb; have HGB := Aside0.mk (Nat.le_of_eq hg.symm); have z0 := (blk_cell hb 0).trans rfl; have z1 := (blk_cell hb 1).trans rfl; have z2 := (blk_cell hb 2).trans rfl; have y0 := blk_frozen hb 0; have y1 := blk_frozen hb 1; have y2 := blk_frozen hb 2; have n_ : Aside0 (Mem.Own w W_ [(gX, (encL ⟨x0, x1, i, x3, x4, x5⟩).toArray, 49), (gA, (encS s).toArray, 36), (gB, #[.int .i64 0, .int .i64 0, .string ⟨#[]⟩], 36)]) := ⟨OW.out.new hg hb hbb⟩; clear OW hb hbb hg; have OW := n_; clear n_))
    have s0' : isB x3 ∧ s.pr < x3 := HC.out
    have O7 := Aside0.mk (((OW.out.put 2 rfl 0 (.int .i64 x3) rfl).put 2 rfl 1 (.int .i64 s.bal) rfl).put 2 rfl 2 (.string s.val) rfl)
    have B7 := Aside0.mk (((HBB.out.setCell (p := ⟨gB, 0, none⟩) HGB.out (.int .i64 x3)).setCell (p := ⟨gB, 1, none⟩) HGB.out (.int .i64 s.bal)).setCell (p := ⟨gB, 2, none⟩) HGB.out (.string s.val))
    have I7 := Aside0.mk (I6.out.below B7.out)
    clear OW HBB HGB B7 I6 z0 z1 z2 y0 y1 y2 s0'
    generalize ((W_.setCell ⟨gB, 0, none⟩ (.int .i64 x3)).setCell ⟨gB, 1, none⟩ (.int .i64 s.bal)).setCell ⟨gB, 2, none⟩ (.string s.val) = w7 at *
    have OD := Aside0.mk O7.out.drew
    have ID := Aside0.mk I7.out.drew
    have c0 : w7.drew.cell? ⟨g, 0, none⟩ = some (.slice (some ⟨L.gs, 0, none⟩) n n) := by rw [← hn]; exact (blk_cell ID.out.blk 0).trans rfl
    have e2 : w7.drew.cell? ⟨gX, 2, none⟩ = some (.int .i64 (i : Int)) := (OD.out.cell 0 rfl 2).trans rfl
    have r0 : w7.drew.cell? ⟨gB, 0, none⟩ = some (.int .i64 x3) := (OD.out.cell 2 rfl 0).trans rfl
    have r1 : w7.drew.cell? ⟨gB, 1, none⟩ = some (.int .i64 s.bal) := (OD.out.cell 2 rfl 1).trans rfl
    have r2 : w7.drew.cell? ⟨gB, 2, none⟩ = some (.string s.val) := (OD.out.cell 2 rfl 2).trans rfl
    clear O7 I7
    refine start_ (n := 9) (S := fun w' => Below (w7).drew.heap.size (w7).drew w') (ds := [8]) #[false, false, false, false, false, false, false, false, false] (by kernel_rfl) rfl rfl (Below.refl _ _) (fun hHeld => ?_)
    generalize (w7).drew = W0 at *
    refine pure_ (i := 0) (N := (some 24)) (v := ?_) (a' := ?_) #[true, false, false, false, false, false, false, false, false] rfl rfl (by kernel_rfl) (fun _ _ _ h => h) (Or.inl ⟨by rfl, ?_⟩) ?_ ?_
    rotate_left
    · intro w'
      go_simp
      first | done | with_reducible rfl
    rotate_left
    · simp only [Act.put, List.setIfInBounds_toArray, List.set_cons_zero, List.set_cons_succ, i64_w, i32_w]
      rfl
    refine pure_ (i := 1) (N := (some 25)) (v := ?_) (a' := ?_) #[true, true, false, false, false, false, false, false, false] rfl rfl (by kernel_rfl) (fun _ _ _ h => h) (Or.inl ⟨by rfl, ?_⟩) ?_ ?_
    rotate_left
    · intro w'
      skip
      go_simp
      first | done | with_reducible rfl
    rotate_left
    · simp only [Act.put, List.setIfInBounds_toArray, List.set_cons_zero, List.set_cons_succ, i64_w, i32_w]
      rfl
    refine pure_ (i := 2) (N := (some 26)) (v := ?_) (a' := ?_) #[true, true, true, false, false, false, false, false, false] rfl rfl (by kernel_rfl) (fun _ _ _ h => h) (Or.inl ⟨by rfl, ?_⟩) ?_ ?_
    rotate_left
    · intro w'
      go_simp
      first | done | with_reducible rfl
    rotate_left
    · simp only [Act.put, List.setIfInBounds_toArray, List.set_cons_zero, List.set_cons_succ, i64_w, i32_w]
      rfl
    refine take_ (i := 3) (N := (some 27)) (v := ?_) (a' := ?_) #[true, true, true, true, false, false, false, false, false] rfl rfl (by kernel_rfl) (fun _ _ _ h => h) (Or.inl ⟨by rfl, ?_⟩) hHeld ?_ ?_
    rotate_left
    · intro w' hS
      have s0 := pw_cell_below hS c0
      go_simp
      first | done | with_reducible rfl
    rotate_left
    · simp only [Act.put, List.setIfInBounds_toArray, List.set_cons_zero, List.set_cons_succ, i64_w, i32_w]
      rfl
    refine pure_ (i := 4) (N := (some 28)) (v := ?_) (a' := ?_) #[true, true, true, true, true, false, false, false, false] rfl rfl (by kernel_rfl) (fun _ _ _ h => h) (Or.inl ⟨by rfl, ?_⟩) ?_ ?_
    rotate_left
    · intro w'
      go_simp
      first | done | with_reducible rfl
    rotate_left
    · simp only [Act.put, List.setIfInBounds_toArray, List.set_cons_zero, List.set_cons_succ, i64_w, i32_w]
      rfl
    refine take_ (i := 5) (N := (some 29)) (v := ?_) (a' := ?_) #[true, true, true, true, true, true, false, false, false] rfl rfl (by kernel_rfl) (fun _ _ _ h => h) (Or.inl ⟨by rfl, ?_⟩) hHeld ?_ ?_
    rotate_left
    · intro w' hS
      have s0 := pw_cell_below hS e2
      go_simp
      first | done | with_reducible rfl
    rotate_left
    · simp only [Act.put, List.setIfInBounds_toArray, List.set_cons_zero, List.set_cons_succ, i64_w, i32_w]
      rfl
    refine take_ (i := 6) (N := (some 30)) (v := ?_) (a' := ?_) #[true, true, true, true, true, true, true, false, false] rfl rfl (by kernel_rfl) (fun _ _ _ h => h) (Or.inl ⟨by rfl, ?_⟩) hHeld ?_ ?_
    rotate_left
    · intro w' hS
      have s0 := pw_cell_below hS r0
      have s1 := pw_cell_below hS r1
      have s2 := pw_cell_below hS r2
      go_simp
      first | done | with_reducible rfl
    rotate_left
    · simp only [Act.put, List.setIfInBounds_toArray, List.set_cons_zero, List.set_cons_succ, i64_w, i32_w]
      rfl
    refine pure_ (i := 7) (N := (some 31)) (v := ?_) (a' := ?_) #[true, true, true, true, true, true, true, true, false] rfl rfl (by kernel_rfl) (fun _ _ _ h => h) (Or.inl ⟨by rfl, ?_⟩) ?_ ?_
    rotate_left
    · intro w'
      go_simp
      first | done | with_reducible rfl
    rotate_left
    · simp only [Act.put, List.setIfInBounds_toArray, List.set_cons_zero, List.set_cons_succ, i64_w, i32_w]
      rfl
    refine last_ (i := 8) (N := none) #[true, true, true, true, true, true, true, true, true] rfl rfl (by kernel_rfl) (by decide) (fun K hK => ?_)
    have OE := Aside0.mk (OD.out.step hHeld)
    have IE := Aside0.mk (ID.out.below hHeld)
    have z0 := (IE.out.slot_cell i 0 s HSL.out (by decide)).trans (show (encS s)[0]? = some (Value.int .i64 s.pr) from rfl)
    have z1 := (IE.out.slot_cell i 1 s HSL.out (by decide)).trans (show (encS s)[1]? = some (Value.int .i64 s.bal) from rfl)
    have z2 := (IE.out.slot_cell i 2 s HSL.out (by decide)).trans (show (encS s)[2]? = some (Value.string s.val) from rfl)
    have y0 := IE.out.slot_frozen (i * 3)
    have y1 := IE.out.slot_frozen (i * 3 + 1)
    have y2 := IE.out.slot_frozen (i * 3 + 2)
    rw [Nat.add_zero] at z0
    refine skip_ (by rfl) rfl (by first | (go_simp; done) | (go_simp; rfl)) ?_
    refine hK.out _ _ ?_
    clear hK K
    refine done_ (by kernel_rfl) ?_
    have P8 : Aside0 (IsD base (((W0.setCell ⟨L.gs, i * 3, none⟩ (.int .i64 x3)).setCell ⟨L.gs, i * 3 + 1, none⟩ (.int .i64 s.bal)).setCell ⟨L.gs, i * 3 + 2, none⟩ (.string s.val)) g L { d with sl := d.sl.set i ⟨x3, s.bal, s.val⟩ } ∧
        Turn W0 (((W0.setCell ⟨L.gs, i * 3, none⟩ (.int .i64 x3)).setCell ⟨L.gs, i * 3 + 1, none⟩ (.int .i64 s.bal)).setCell ⟨L.gs, i * 3 + 2, none⟩ (.string s.val)) (Foot L g) (Foot L g)) := ⟨ID.out.put_sl i ⟨x3, s.bal, s.val⟩ (by rw [hn]; omega)⟩
    generalize ((W0.setCell ⟨L.gs, i * 3, none⟩ (.int .i64 x3)).setCell ⟨L.gs, i * 3 + 1, none⟩ (.int .i64 s.bal)).setCell ⟨L.gs, i * 3 + 2, none⟩ (.string s.val) = w8 at *
    have T8 := Aside0.mk ((Turn.below (F := Foot L g) (show Below w.heap.size w _ from OD.out.below)).trans P8.out.2)
    have X8 := Aside0.mk ((P8.out.2.keep gX (blk_lt (OD.out.blk 0 rfl)) (fun hf => by have := HFT.out gX hf; have := OD.out.new_le 0 rfl; omega)).trans (OD.out.blk 0 rfl))
    have A8 := Aside0.mk ((P8.out.2.keep gA (blk_lt (OD.out.blk 1 rfl)) (fun hf => by have := HFT.out gA hf; have := OD.out.new_le 1 rfl; omega)).trans (OD.out.blk 1 rfl))
    have I8 := Aside0.mk P8.out.1
    clear P8 OD ID z0 z1 z2 y0 y1 y2 c0 e2 r0 r1 r2 hHeld
    go_wp2_with fail
    have ID := Aside0.mk I8.out.drew
    have T9 := Aside0.mk T8.out.drew
    have cL : w8.drew.cell? ⟨g, 2, none⟩ = some L.vl := (blk_cell ID.out.blk 2).trans rfl
    have e1 : w8.drew.cell? ⟨gX, 1, none⟩ = some (.int .i64 x1) := (blk_cell X8.out 1).trans rfl
    have e2 : w8.drew.cell? ⟨gX, 2, none⟩ = some (.int .i64 (i : Int)) := (blk_cell X8.out 2).trans rfl
    have e3 : w8.drew.cell? ⟨gX, 3, none⟩ = some (.int .i64 x3) := (blk_cell X8.out 3).trans rfl
    have a1 : w8.drew.cell? ⟨gA, 1, none⟩ = some (.int .i64 s.bal) := (blk_cell A8.out 1).trans rfl
    have a2 : w8.drew.cell? ⟨gA, 2, none⟩ = some (.string s.val) := (blk_cell A8.out 2).trans rfl
    clear X8 A8 I8 T8
    refine start_ (n := 21) (S := fun w' => Below (w8).drew.heap.size (w8).drew w') (ds := [17, 20]) #[false, false, false, false, false, false, false, false, false, false, false, false, false, false, false, false, false, false, false, false, false] (by kernel_rfl) rfl rfl (Below.refl _ _) (fun hHeld => ?_)
    generalize (w8).drew = W0 at *
    refine pure_ (i := 0) (N := (some 32)) (v := ?_) (a' := ?_) #[true, false, false, false, false, false, false, false, false, false, false, false, false, false, false, false, false, false, false, false, false] rfl rfl (by kernel_rfl) (fun _ _ _ h => h) (Or.inl ⟨by rfl, ?_⟩) ?_ ?_
    rotate_left
    · intro w'
      go_simp
      first | done | with_reducible rfl
    rotate_left
    · simp only [Act.put, List.setIfInBounds_toArray, List.set_cons_zero, List.set_cons_succ, i64_w, i32_w]
      rfl
    refine pure_ (i := 1) (N := (some 33)) (v := ?_) (a' := ?_) #[true, true, false, false, false, false, false, false, false, false, false, false, false, false, false, false, false, false, false, false, false] rfl rfl (by kernel_rfl) (fun _ _ _ h => h) (Or.inl ⟨by rfl, ?_⟩) ?_ ?_
    rotate_left
    · intro w'
      go_simp
      first | done | with_reducible rfl
    rotate_left
    · simp only [Act.put, List.setIfInBounds_toArray, List.set_cons_zero, List.set_cons_succ, i64_w, i32_w]
      rfl
    refine pure_ (i := 2) (N := (some 34)) (v := ?_) (a' := ?_) #[true, true, true, false, false, false, false, false, false, false, false, false, false, false, false, false, false, false, false, false, false] rfl rfl (by kernel_rfl) (fun _ _ _ h => h) (Or.inl ⟨by rfl, ?_⟩) ?_ ?_
    rotate_left
    · intro w'
      skip
      go_simp
      first | done | with_reducible rfl
    rotate_left
    · simp only [Act.put, List.setIfInBounds_toArray, List.set_cons_zero, List.set_cons_succ, i64_w, i32_w]
      rfl
    refine pure_ (i := 3) (N := (some 35)) (v := ?_) (a' := ?_) #[true, true, true, true, false, false, false, false, false, false, false, false, false, false, false, false, false, false, false, false, false] rfl rfl (by kernel_rfl) (fun _ _ _ h => h) (Or.inl ⟨by rfl, ?_⟩) ?_ ?_
    rotate_left
    · intro w'
      go_simp
      first | done | with_reducible rfl
    rotate_left
    · simp only [Act.put, List.setIfInBounds_toArray, List.set_cons_zero, List.set_cons_succ, i64_w, i32_w]
      rfl
    refine take_ (i := 4) (N := (some 36)) (v := ?_) (a' := ?_) #[true, true, true, true, true, false, false, false, false, false, false, false, false, false, false, false, false, false, false, false, false] rfl rfl (by kernel_rfl) (fun _ _ _ h => h) (Or.inl ⟨by rfl, ?_⟩) hHeld ?_ ?_
    rotate_left
    · intro w' hS
      have s0 := pw_cell_below hS cL
      go_simp
      first | done | with_reducible rfl
    rotate_left
    · simp only [Act.put, List.setIfInBounds_toArray, List.set_cons_zero, List.set_cons_succ, i64_w, i32_w]
      rfl
    refine pure_ (i := 5) (N := (some 37)) (v := ?_) (a' := ?_) #[true, true, true, true, true, true, false, false, false, false, false, false, false, false, false, false, false, false, false, false, false] rfl rfl (by kernel_rfl) (fun _ _ _ h => h) (Or.inl ⟨by rfl, ?_⟩) ?_ ?_
    rotate_left
    · intro w'
      go_simp
      first | done | with_reducible rfl
    rotate_left
    · simp only [Act.put, List.setIfInBounds_toArray, List.set_cons_zero, List.set_cons_succ, i64_w, i32_w]
      rfl
    refine take_ (i := 6) (N := (some 38)) (v := ?_) (a' := ?_) #[true, true, true, true, true, true, true, false, false, false, false, false, false, false, false, false, false, false, false, false, false] rfl rfl (by kernel_rfl) (fun _ _ _ h => h) (Or.inl ⟨by rfl, ?_⟩) hHeld ?_ ?_
    rotate_left
    · intro w' hS
      have s0 := pw_cell_below hS e2
      go_simp
      first | done | with_reducible rfl
    rotate_left
    · simp only [Act.put, List.setIfInBounds_toArray, List.set_cons_zero, List.set_cons_succ, i64_w, i32_w]
      rfl
    refine pure_ (i := 7) (N := (some 39)) (v := ?_) (a' := ?_) #[true, true, true, true, true, true, true, true, false, false, false, false, false, false, false, false, false, false, false, false, false] rfl rfl (by kernel_rfl) (fun _ _ _ h => h) (Or.inl ⟨by rfl, ?_⟩) ?_ ?_
    rotate_left
    · intro w'
      go_simp
      first | done | with_reducible rfl
    rotate_left
    · simp only [Act.put, List.setIfInBounds_toArray, List.set_cons_zero, List.set_cons_succ, i64_w, i32_w]
      rfl
    refine take_ (i := 8) (N := (some 40)) (v := ?_) (a' := ?_) #[true, true, true, true, true, true, true, true, true, false, false, false, false, false, false, false, false, false, false, false, false] rfl rfl (by kernel_rfl) (fun _ _ _ h => h) (Or.inl ⟨by rfl, ?_⟩) hHeld ?_ ?_
    rotate_left
    · intro w' hS
      have s0 := pw_cell_below hS e1
      go_simp
      first | done | with_reducible rfl
    rotate_left
    · simp only [Act.put, List.setIfInBounds_toArray, List.set_cons_zero, List.set_cons_succ, i64_w, i32_w]
      rfl
    refine pure_ (i := 9) (N := (some 41)) (v := ?_) (a' := ?_) #[true, true, true, true, true, true, true, true, true, true, false, false, false, false, false, false, false, false, false, false, false] rfl rfl (by kernel_rfl) (fun _ _ _ h => h) (Or.inl ⟨by rfl, ?_⟩) ?_ ?_
    rotate_left
    · intro w'
      go_simp
      first | done | with_reducible rfl
    rotate_left
    · simp only [Act.put, List.setIfInBounds_toArray, List.set_cons_zero, List.set_cons_succ, i64_w, i32_w]
      rfl
    refine take_ (i := 10) (N := (some 42)) (v := ?_) (a' := ?_) #[true, true, true, true, true, true, true, true, true, true, true, false, false, false, false, false, false, false, false, false, false] rfl rfl (by kernel_rfl) (fun _ _ _ h => h) (Or.inl ⟨by rfl, ?_⟩) hHeld ?_ ?_
    rotate_left
    · intro w' hS
      have s0 := pw_cell_below hS e3
      go_simp
      first | done | with_reducible rfl
    rotate_left
    · simp only [Act.put, List.setIfInBounds_toArray, List.set_cons_zero, List.set_cons_succ, i64_w, i32_w]
      rfl
    refine pure_ (i := 11) (N := (some 43)) (v := ?_) (a' := ?_) #[true, true, true, true, true, true, true, true, true, true, true, true, false, false, false, false, false, false, false, false, false] rfl rfl (by kernel_rfl) (fun _ _ _ h => h) (Or.inl ⟨by rfl, ?_⟩) ?_ ?_
    rotate_left
    · intro w'
      go_simp
      first | done | with_reducible rfl
    rotate_left
    · simp only [Act.put, List.setIfInBounds_toArray, List.set_cons_zero, List.set_cons_succ, i64_w, i32_w]
      rfl
    refine take_ (i := 12) (N := (some 44)) (v := ?_) (a' := ?_) #[true, true, true, true, true, true, true, true, true, true, true, true, true, false, false, false, false, false, false, false, false] rfl rfl (by kernel_rfl) (fun _ _ _ h => h) (Or.inl ⟨by rfl, ?_⟩) hHeld ?_ ?_
    rotate_left
    · intro w' hS
      have s0 := pw_cell_below hS a1
      go_simp
      first | done | with_reducible rfl
    rotate_left
    · simp only [Act.put, List.setIfInBounds_toArray, List.set_cons_zero, List.set_cons_succ, i64_w, i32_w]
      rfl
    refine pure_ (i := 13) (N := (some 45)) (v := ?_) (a' := ?_) #[true, true, true, true, true, true, true, true, true, true, true, true, true, true, false, false, false, false, false, false, false] rfl rfl (by kernel_rfl) (fun _ _ _ h => h) (Or.inl ⟨by rfl, ?_⟩) ?_ ?_
    rotate_left
    · intro w'
      go_simp
      first | done | with_reducible rfl
    rotate_left
    · simp only [Act.put, List.setIfInBounds_toArray, List.set_cons_zero, List.set_cons_succ, i64_w, i32_w]
      rfl
    refine take_ (i := 14) (N := (some 46)) (v := ?_) (a' := ?_) #[true, true, true, true, true, true, true, true, true, true, true, true, true, true, true, false, false, false, false, false, false] rfl rfl (by kernel_rfl) (fun _ _ _ h => h) (Or.inl ⟨by rfl, ?_⟩) hHeld ?_ ?_
    rotate_left
    · intro w' hS
      have s0 := pw_cell_below hS a2
      go_simp
      first | done | with_reducible rfl
    rotate_left
    · simp only [Act.put, List.setIfInBounds_toArray, List.set_cons_zero, List.set_cons_succ, i64_w, i32_w]
      rfl
    refine pure_ (i := 15) (N := (some 47)) (v := ?_) (a' := ?_) #[true, true, true, true, true, true, true, true, true, true, true, true, true, true, true, true, false, false, false, false, false] rfl rfl (by kernel_rfl) (fun _ _ _ h => h) (Or.inl ⟨by rfl, ?_⟩) ?_ ?_
    rotate_left
    · intro w'
      go_simp
      first | done | with_reducible rfl
    rotate_left
    · simp only [Act.put, List.setIfInBounds_toArray, List.set_cons_zero, List.set_cons_succ, i64_w, i32_w]
      rfl
    refine one_ (i := 16) (N := (some 48)) #[true, true, true, true, true, true, true, true, true, true, true, true, true, true, true, true, true, false, false, false, false] rfl rfl (by kernel_rfl) (by decide) (fun K hK => ?_)
    refine value_ (v := .slice (some ⟨W0.heap.size, 0, none⟩) 1 1) (w1 := W0.alloc (.cells (encL ⟨1, i, x1, x3, s.bal, s.val⟩).toArray 49)) (by rfl) rfl (by first | (go_simp; done) | (go_simp; rfl)) ?_
    have hS2 : Below W0.heap.size W0 (W0.alloc (.cells (encL ⟨1, i, x1, x3, s.bal, s.val⟩).toArray 49)) := below_alloc (Below.refl _ _) _
    refine hK.out _ _ hS2 (fun hHeld => ?_)
    clear hK K
    refine norm_ (a' := ?_) ?_ ?_
    rotate_left
    · show Act.put _ (some 48) _ = _
      simp only [Act.put, List.setIfInBounds_toArray, List.set_cons_zero, List.set_cons_succ, i64_w, i32_w]
      rfl
    refine last_ (i := 17) (N := (some 49)) #[true, true, true, true, true, true, true, true, true, true, true, true, true, true, true, true, true, true, false, false, false] rfl rfl (by kernel_rfl) (by decide) (fun K hK => ?_)
    refine Kd.R_append_step (P := Try.prog) KL (w0 := W0) (W := W0) base (by rfl) (.tmp 36) (.tmp 48) 42 49 (.agg #[.int .i64 0, .int .i64 0, .int .i64 0, .int .i64 0, .int .i64 0, .string ⟨#[]⟩]) 56 rfl Try.underlying42 info_L rfl (by decide) (by decide) L.vl d.lt ⟨1, i, x1, x3, s.bal, s.val⟩ (encL ⟨1, i, x1, x3, s.bal, s.val⟩) (fun _ => True) (fun _ => False) rfl rfl rfl (fun _ h => h.elim) (fun _ _ => trivial) ID.out.lt (Below.refl _ _) (by have := HB.out; have := T9.out.size; omega) (by have := HL.out; omega) ?_
    intro v1 w1 hr1 hb1 hg1 hat1
    have hgb := ID.out.blk_lt_ hg1
    have z2 := (blk_cell hgb 2).trans rfl
    have y2 := blk_frozen hgb 2
    have HA := Aside0.mk (ID.out.app_lt hr1 hg1 hat1)
    obtain ⟨A1, m1, c1, ev1⟩ := R_sl hr1
    clear hr1 hb1 hg1 hat1 hgb
    subst ev1
    refine hK.out _ _ ?_
    clear hK K
    refine norm_ (a' := ?_) ?_ ?_
    rotate_left
    · show Act.put _ (some 49) _ = _
      simp only [Act.put, List.setIfInBounds_toArray, List.set_cons_zero, List.set_cons_succ, i64_w, i32_w]
      rfl
    refine pure_ (i := 18) (N := (some 50)) (v := ?_) (a' := ?_) #[true, true, true, true, true, true, true, true, true, true, true, true, true, true, true, true, true, true, true, false, false] rfl rfl (by kernel_rfl) (fun _ _ _ h => h) (Or.inl ⟨by rfl, ?_⟩) ?_ ?_
    rotate_left
    · intro w'
      skip
      go_simp
      first | done | with_reducible rfl
    rotate_left
    · simp only [Act.put, List.setIfInBounds_toArray, List.set_cons_zero, List.set_cons_succ, i64_w, i32_w]
      rfl
    refine pure_ (i := 19) (N := (some 51)) (v := ?_) (a' := ?_) #[true, true, true, true, true, true, true, true, true, true, true, true, true, true, true, true, true, true, true, true, false] rfl rfl (by kernel_rfl) (fun _ _ _ h => h) (Or.inl ⟨by rfl, ?_⟩) ?_ ?_
    rotate_left
    · intro w'
      go_simp
      first | done | with_reducible rfl
    rotate_left
    · simp only [Act.put, List.setIfInBounds_toArray, List.set_cons_zero, List.set_cons_succ, i64_w, i32_w]
      rfl
    refine last_ (i := 20) (N := none) #[true, true, true, true, true, true, true, true, true, true, true, true, true, true, true, true, true, true, true, true, true] rfl rfl (by kernel_rfl) (by decide) (fun K hK => ?_)
    refine skip_ (by rfl) rfl (by first | (go_simp; done) | (go_simp; rfl)) ?_
    refine hK.out _ _ ?_
    clear hK K
    refine done_ (by kernel_rfl) ?_
    go_wp2_with fail
    go_end0
    refine ⟨rfl, _, ?_, T9.out.trans HA.out.2⟩
    unfold promD
    rw [if_pos (show isB x3 ∧ (slot d (i : Int)).pr < x3 by rw [HS.out]; exact HC.out)]
    show IsD base _ g _ { d with sl := d.sl.set (i : Int).toNat { slot d (i : Int) with pr := x3 }, lt := d.lt ++ [⟨1, (i : Int), x1, x3, (slot d (i : Int)).bal, (slot d (i : Int)).val⟩] }
    rw [HS.out, Int.toNat_natCast]
    exact HA.out.1
  · rw [if_neg hc] at hsp
    have HSP := Aside0.mk (fun W => slot_Slot_Promise.calls s.pr s.bal s.val x3 s.pr s.bal s.val false W hsp)
    have HC := Aside0.mk hc
    clear hsp hc
    go_wp2_with (first
      | (go_at_call 38; (with_reducible refine (HSP.out _).mono ?_); rintro e wz ⟨rfl, hB⟩; have n_ := Aside0.mk (OP.out.step hB); have n2 := Aside0.mk (I6.out.below hB); clear OP I6 T6 hB q0 q1 q2 e3; have OW := n_; have I6 := n2; clear n_ n2)
      | ((with_reducible refine gate_dst (N := 5) rfl ?_); refine box_event ?hg (N := 5) ?hd (cs := #[.int .i64 0, .int .i64 0, .string ⟨#[]⟩]) (t := 36) ?hr ?_; (case hd => rfl); (case hg => rfl); (case hr => first | (go_simp; done) | (go_simp; rfl)); intro gB hg W_ hb hbb; have HBB := Aside0.mk hbb; have HGB := Aside0.mk (Nat.le_of_eq hg.symm); have z0 := (blk_cell hb 0).trans rfl; have z1 := (blk_cell hb 1).trans rfl; have z2 := (blk_cell hb 2).trans rfl; have y0 := blk_frozen hb 0; have y1 := blk_frozen hb 1; have y2 := blk_frozen hb 2; have n_ : Aside0 (Mem.Own w W_ [(gX, (encL ⟨x0, x1, i, x3, x4, x5⟩).toArray, 49), (gA, (encS s).toArray, 36), (gB, #[.int .i64 0, .int .i64 0, .string ⟨#[]⟩], 36)]) := ⟨OW.out.new hg hb hbb⟩; clear OW hb hbb hg; have OW := n_; clear n_))
    refine bodyPost_ret (results_none rfl _ _ _) rfl ⟨rfl, L, ?_, Turn.below (((OW.out.put 2 rfl 0 (.int .i64 s.pr) rfl).put 2 rfl 1 (.int .i64 s.bal) rfl).put 2 rfl 2 (.string s.val) rfl).below⟩
    unfold promD
    rw [if_neg (show ¬ (isB x3 ∧ (slot d (i : Int)).pr < x3) by rw [HS.out]; exact HC.out)]
    exact I6.out.below (((HBB.out.setCell (p := ⟨gB, 0, none⟩) HGB.out _).setCell (p := ⟨gB, 1, none⟩) HGB.out _).setCell (p := ⟨gB, 2, none⟩) HGB.out _)
end Go.Proofs.Ytnhnbobgfadhpaa.Dec
namespace Go.Proofs.Ytnhnbobgfadhpaa.Dec
open Go Go.RowKit Go.Proofs.YtnhnbobgfadhpaaW.PrintWords Go.Proofs.Ytnhnbobgfadhpaa.Mp
set_option linter.unusedVariables false
variable {base g : Nat} {L L' : Lay} {d : D} {W W0 W1 : World} {F F' : Nat → Prop}
theorem kInt_inj {a b : Int} (h : kInt a = kInt b) : a = b := by injection h
theorem tkC_put (f : Int → Option (Nat × ByteArray)) (b : Int) (z : Nat × ByteArray) : put (tkC f) (kInt b) (held z) = tkC (upd f b (some z)) := by
  funext v
  by_cases hv : v = kInt b
  · subst hv
    rw [put_self]
    show _ = (upd f b (some z) b).map held
    rw [upd_self]; rfl
  · rw [put_ne _ _ hv]
    cases v <;> try rfl
    rename_i k a
    cases k <;> try rfl
    show (f a).map held = (upd f b (some z) a).map held
    rw [upd_ne _ _ (fun e => hv (by rw [e]; rfl))]
theorem ppC_put (f : Int → Option Nat) (b : Int) (q : Nat) : put (ppC f) (kInt b) (ptr q) = ppC (upd f b (some q)) := by
  funext v
  by_cases hv : v = kInt b
  · subst hv
    rw [put_self]
    show _ = (upd f b (some q) b).map ptr
    rw [upd_self]; rfl
  · rw [put_ne _ _ hv]
    cases v <;> try rfl
    rename_i k a
    cases k <;> try rfl
    show (f a).map ptr = (upd f b (some q) a).map ptr
    rw [upd_ne _ _ (fun e => hv (by rw [e]; rfl))]
theorem mapTurned_keep {b k : Nat} (h : W.mapTurned W1 b) (hk : k ≠ b) (hlt : k < W.heap.size) : W1.heap[k]? = W.heap[k]? := h.grown.block k hlt (fun e => hk (Option.some.inj e))
theorem turn_map {b : Nat} (h : W.mapTurned W1 b) (hF : F b) (hf : ∀ k, F' k → F k ∨ W.heap.size ≤ k) : Turn W W1 F F' := Turn.grown h.grown (fun k hk => by cases hk; exact hF) hf
/-- what was accepted is put into the map -/
theorem IsD.put_tk (h : IsD base W g L d) {b : Int} {z : Nat × ByteArray} (hM : IMap W1 Try.prog 3 L.gt (put (tkC d.tk) (kInt b) (held z))) (hT : W.mapTurned W1 L.gt) :
    IsD base W1 g L { d with tk := upd d.tk b (some z) } ∧ Turn W W1 (Foot L g) (Foot L g) := by
  have hn : ∀ k, k < W.heap.size → k ≠ L.gt → W1.heap[k]? = W.heap[k]? := fun k hk hne => mapTurned_keep hT hne hk
  have ht : ∀ k t, k < W.heap.size → tag W k = some t → t ≠ 1000000 → W1.heap[k]? = W.heap[k]? := fun k t hk htg hne => hn k hk (ne_tag htg (tag_map h.tk) hne)
  rw [tkC_put] at hM
  refine ⟨⟨(ht g _ (blk_lt h.blk) h.tg (by decide)).trans h.blk, (ht L.gs _ (blk_lt h.sl) h.ts (by decide)).trans h.sl,
    Kd.R_mono (Kd.R_step (only_L h.lt) (fun k ho hlt => ht k _ hlt (tag_row h.lt k ho) (by decide))) (fun _ _ => trivial), Kd.R_mono (Kd.R_step (only_s h.bg) (fun k ho hlt => ht k _ hlt (tag_row h.bg k ho) (by decide))) (fun _ _ => trivial),
    Kd.R_mono (Kd.R_step (only_s h.ch) (fun k ho hlt => ht k _ hlt (tag_row h.ch k ho) (by decide))) (fun _ _ => trivial), h.ap, h.pp.block (hn L.gp h.pp.lt h.ne), hM, h.ne, fun b' p hp => ?_, h.prn, h.inj, h.ge, h.sm⟩,
    turn_map hT (.inr (.inr (.inr (.inl rfl)))) (fun _ h => .inl h)⟩
  obtain ⟨q, h1, h2, h3⟩ := h.prs b' p hp
  exact ⟨q, h1, h2, (ht q _ (blk_lt h3) (tag_cells h3) (by decide)).trans h3⟩
/-- a proposal is put into the map; q: a new block -/
theorem IsD.put_pp (h : IsD base W g L d) {b : Int} {q : Nat} {p : Pp} (hq : W.heap[q]? = some (.cells (ppc d.sl.length p) 72 (0, 0))) (hqb : base ≤ q) (hnew : ∀ b', L.pl b' ≠ some q)
    (hM : IMap W1 Try.prog 3 L.gp (put (ppC L.pl) (kInt b) (ptr q))) (hT : W.mapTurned W1 L.gp) :
    IsD base W1 g { L with pl := upd L.pl b (some q) } { d with pp := upd d.pp b (some p) } := by
  have hn : ∀ k, k < W.heap.size → k ≠ L.gp → W1.heap[k]? = W.heap[k]? := fun k hk hne => mapTurned_keep hT hne hk
  have ht : ∀ k t, k < W.heap.size → tag W k = some t → t ≠ 1000000 → W1.heap[k]? = W.heap[k]? := fun k t hk htg hne => hn k hk (ne_tag htg (tag_map h.pp) hne)
  rw [ppC_put] at hM
  refine ⟨(ht g _ (blk_lt h.blk) h.tg (by decide)).trans h.blk, (ht L.gs _ (blk_lt h.sl) h.ts (by decide)).trans h.sl,
    Kd.R_mono (Kd.R_step (only_L h.lt) (fun k ho hlt => ht k _ hlt (tag_row h.lt k ho) (by decide))) (fun _ _ => trivial), Kd.R_mono (Kd.R_step (only_s h.bg) (fun k ho hlt => ht k _ hlt (tag_row h.bg k ho) (by decide))) (fun _ _ => trivial),
    Kd.R_mono (Kd.R_step (only_s h.ch) (fun k ho hlt => ht k _ hlt (tag_row h.ch k ho) (by decide))) (fun _ _ => trivial), h.ap, hM, h.tk.block (hn L.gt h.tk.lt (fun e => h.ne e.symm)), h.ne, fun b' p' hp => ?_, fun b' hp => ?_, fun b1 b2 q' h1 h2 => ?_, h.ge, h.sm⟩
  · have hp : upd d.pp b (some p) b' = some p' := hp
    by_cases hb : b' = b
    · subst hb
      rw [upd_self] at hp; cases hp
      exact ⟨q, upd_self _ _ _, hqb, (ht q _ (blk_lt hq) (tag_cells hq) (by decide)).trans hq⟩
    · rw [upd_ne _ _ hb] at hp
      obtain ⟨q', h1, h2, h3⟩ := h.prs b' p' hp
      exact ⟨q', by show upd L.pl b (some q) b' = _; rw [upd_ne _ _ hb]; exact h1, h2, (ht q' _ (blk_lt h3) (tag_cells h3) (by decide)).trans h3⟩
  · have hp : upd d.pp b (some p) b' = none := hp
    by_cases hb : b' = b
    · subst hb
      rw [upd_self] at hp; cases hp
    · rw [upd_ne _ _ hb] at hp
      show upd L.pl b (some q) b' = none
      rw [upd_ne _ _ hb]; exact h.prn b' hp
  · have k1 : upd L.pl b (some q) b1 = some q' := h1
    have k2 : upd L.pl b (some q) b2 = some q' := h2
    clear h1 h2
    by_cases e1 : b1 = b
    · by_cases e2 : b2 = b
      · rw [e1, e2]
      · rw [e1, upd_self] at k1
        rw [upd_ne _ _ e2, ← k1] at k2
        exact absurd k2 (hnew b2)
    · rw [upd_ne _ _ e1] at k1
      by_cases e2 : b2 = b
      · rw [e2, upd_self] at k2
        rw [← k2] at k1
        exact absurd k1 (hnew b1)
      · rw [upd_ne _ _ e2] at k2
        exact h.inj b1 b2 q' k1 k2
/-- a proposal has turned -/
theorem IsD.set_pp (h : IsD base W g L d) {b : Int} {q : Nat} {p p' : Pp} (hp : d.pp b = some p) (hq : L.pl b = some q) (hb : W1.heap[q]? = some (.cells (ppc d.sl.length p') 72 (0, 0))) (hk : KeepBut W W1 q none) :
    IsD base W1 g L { d with pp := upd d.pp b (some p') } := by
  have htq := h.tp hq
  have ht : ∀ k t, k < W.heap.size → tag W k = some t → t ≠ 72 → W1.heap[k]? = W.heap[k]? := fun k t hk2 htg hne => hk.2 k hk2 (ne_tag htg htq hne) (by simp)
  have hqb : base ≤ q := by obtain ⟨q', h1, h2, _⟩ := h.prs b p hp; rw [hq] at h1; cases h1; exact h2
  refine ⟨(ht g _ (blk_lt h.blk) h.tg (by decide)).trans h.blk, (ht L.gs _ (blk_lt h.sl) h.ts (by decide)).trans h.sl,
    Kd.R_mono (Kd.R_step (only_L h.lt) (fun k ho hlt => ht k _ hlt (tag_row h.lt k ho) (by decide))) (fun _ _ => trivial), Kd.R_mono (Kd.R_step (only_s h.bg) (fun k ho hlt => ht k _ hlt (tag_row h.bg k ho) (by decide))) (fun _ _ => trivial),
    Kd.R_mono (Kd.R_step (only_s h.ch) (fun k ho hlt => ht k _ hlt (tag_row h.ch k ho) (by decide))) (fun _ _ => trivial), h.ap, h.pp.block (ht L.gp _ h.pp.lt (tag_map h.pp) (by decide)), h.tk.block (ht L.gt _ h.tk.lt (tag_map h.tk) (by decide)), h.ne, fun b' p1 hp1 => ?_, fun b' hp1 => ?_, h.inj, h.ge, h.sm⟩
  · have hp1 : upd d.pp b (some p') b' = some p1 := hp1
    by_cases e : b' = b
    · subst e
      rw [upd_self] at hp1; cases hp1
      exact ⟨q, hq, hqb, hb⟩
    · rw [upd_ne _ _ e] at hp1
      obtain ⟨q', h1, h2, h3⟩ := h.prs b' p1 hp1
      exact ⟨q', h1, h2, (hk.2 q' (blk_lt h3) (fun e2 => e (h.inj b' b q (e2 ▸ h1) hq)) (by simp)).trans h3⟩
  · have hp1 : upd d.pp b (some p') b' = none := hp1
    by_cases e : b' = b
    · subst e
      rw [upd_self] at hp1; cases hp1
    · rw [upd_ne _ _ e] at hp1
      exact h.prn b' hp1
theorem turn_keep {w0 : World} {q : Nat} (hk : KeepBut W W1 q none) (b0 : Below w0.heap.size w0 W) (b1 : Below w0.heap.size w0 W1) (hF : F q) : Turn W W1 F F :=
  ⟨b1.os.trans b0.os.symm, b1.tape.trans b0.tape.symm, b1.output.trans b0.output.symm, hk.1, fun k hk2 hf => hk.2 k hk2 (fun e => hf (e ▸ hF)) (by simp), fun _ h => .inl h⟩
/-- proposals are taken out of the map -/
theorem IsD.drop_pp (h : IsD base W g L d) {pl' : Int → Option Nat} {pp' : Int → Option Pp} (hM : IMap W1 Try.prog 3 L.gp (ppC pl')) (ho : W1.os = W.os ∧ W1.tape = W.tape ∧ W1.output = W.output ∧ W.heap.size ≤ W1.heap.size) (hn : ∀ k, k < W.heap.size → k ≠ L.gp → W1.heap[k]? = W.heap[k]?)
    (hpl : ∀ b q, pl' b = some q → L.pl b = some q) (hpp : ∀ b, (pp' b = none ∧ pl' b = none) ∨ (pp' b = d.pp b ∧ pl' b = L.pl b)) :
    IsD base W1 g { L with pl := pl' } { d with pp := pp' } ∧ Turn W W1 (Foot L g) (Foot { L with pl := pl' } g) := by
  have ht : ∀ k t, k < W.heap.size → tag W k = some t → t ≠ 1000000 → W1.heap[k]? = W.heap[k]? := fun k t hk htg hne => hn k hk (ne_tag htg (tag_map h.pp) hne)
  refine ⟨⟨(ht g _ (blk_lt h.blk) h.tg (by decide)).trans h.blk, (ht L.gs _ (blk_lt h.sl) h.ts (by decide)).trans h.sl,
    Kd.R_mono (Kd.R_step (only_L h.lt) (fun k ho hlt => ht k _ hlt (tag_row h.lt k ho) (by decide))) (fun _ _ => trivial), Kd.R_mono (Kd.R_step (only_s h.bg) (fun k ho hlt => ht k _ hlt (tag_row h.bg k ho) (by decide))) (fun _ _ => trivial),
    Kd.R_mono (Kd.R_step (only_s h.ch) (fun k ho hlt => ht k _ hlt (tag_row h.ch k ho) (by decide))) (fun _ _ => trivial), h.ap, hM, h.tk.block (hn L.gt h.tk.lt (fun e => h.ne e.symm)), h.ne, fun b p hp => ?_, fun b hp => ?_, fun b1 b2 q h1 h2 => h.inj b1 b2 q (hpl b1 q h1) (hpl b2 q h2), h.ge, h.sm⟩,
    ⟨ho.1, ho.2.1, ho.2.2.1, ho.2.2.2, fun k hk hf => hn k hk (fun e => hf (.inr (.inr (.inl e)))), fun k hk => ?_⟩⟩
  · have hp : pp' b = some p := hp
    rcases hpp b with ⟨e, _⟩ | ⟨e, e2⟩
    · rw [hp] at e; cases e
    · obtain ⟨q, h1, h2, h3⟩ := h.prs b p (by rw [← e]; exact hp)
      exact ⟨q, by show pl' b = _; rw [e2]; exact h1, h2, (ht q _ (blk_lt h3) (tag_cells h3) (by decide)).trans h3⟩
  · have hp : pp' b = none := hp
    show pl' b = none
    rcases hpp b with ⟨_, e⟩ | ⟨e, e2⟩
    · exact e
    · rw [e2]; exact h.prn b (by rw [← e]; exact hp)
  · rcases hk with e | e | e | e | e | e | e | ⟨b, e⟩
    · exact .inl (.inl e)
    · exact .inl (.inr (.inl e))
    · exact .inl (.inr (.inr (.inl e)))
    · exact .inl (.inr (.inr (.inr (.inl e))))
    · exact .inl (.inr (.inr (.inr (.inr (.inl e)))))
    · exact .inl (.inr (.inr (.inr (.inr (.inr (.inl e))))))
    · exact .inl (.inr (.inr (.inr (.inr (.inr (.inr (.inl e)))))))
    · exact .inl (.inr (.inr (.inr (.inr (.inr (.inr (.inr ⟨b, hpl b k e⟩)))))))
end Go.Proofs.Ytnhnbobgfadhpaa.Dec
