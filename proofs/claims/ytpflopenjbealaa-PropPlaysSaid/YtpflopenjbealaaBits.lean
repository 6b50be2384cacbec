/- Plain laws on the bits of 64-bit numbers: counting them, joining, masking. No program is named here. -/
import Derived.Laws.BitsLemmas
import Derived.WalkKit
namespace Go.Proofs.YtpflopenjbealaaBits
open Go.RowKit

theorem u64_wrap (n : Int) : IntKind.u64.wrap n = n % 18446744073709551616 := by simp [IntKind.wrap, IntKind.bits, IntKind.signed]
theorem u64_in (n : Int) (h0 : 0 ≤ n) (h1 : n < 18446744073709551616) : IntKind.u64.wrap n = n := by rw [u64_wrap]; omega
theorem u64_of (n : Int) (h0 : 0 ≤ n) (h1 : n < 2 ^ 64) : IntKind.u64.wrap n = n := u64_in n h0 (by omega)

theorem and_u64 (a b : Nat) (ha : a < 2 ^ 64) (hb : b < 2 ^ 64) : bits .and .u64 a b = ((a &&& b : Nat) : Int) :=
  (bits_nat .u64 64 (by decide) u64_of a b ha hb).1
theorem or_u64 (a b : Nat) (ha : a < 2 ^ 64) (hb : b < 2 ^ 64) : bits .or .u64 a b = ((a ||| b : Nat) : Int) :=
  (bits_nat .u64 64 (by decide) u64_of a b ha hb).2
theorem andNot_top (a : Nat) (ha : a < 2 ^ 64) : bits .andNot .u64 a 9223372036854775808 = ((a % 2 ^ 63 : Nat) : Int) := by
  have h : (BitVec.ofInt 64 (a : Int) &&& ~~~(BitVec.ofInt 64 9223372036854775808)).toNat = a % 2 ^ 63 := by
    rw [BitVec.ofInt_natCast]
    rw [BitVec.toNat_and, BitVec.toNat_ofNat, Nat.mod_eq_of_lt ha]
    rw [show (~~~(BitVec.ofInt 64 9223372036854775808)).toNat = 2 ^ 63 - 1 from by decide, Nat.and_two_pow_sub_one_eq_mod]
  show IntKind.u64.wrap ((BitVec.ofInt 64 (a : Int) &&& ~~~(BitVec.ofInt 64 9223372036854775808)).toNat : Int) = _
  rw [h, u64_in _ (by omega) (by omega)]

/-- how many of the first n bits are one -/
def cnt (x : Nat) : Nat → Nat
  | 0 => 0
  | n + 1 => cnt x n + (x.testBit n).toNat

theorem cnt_le (x n : Nat) : cnt x n ≤ n := by
  induction n with
  | zero => simp [cnt]
  | succ n ih => have := Bool.toNat_le (x.testBit n); simp only [cnt]; omega

theorem cnt_congr (x y n : Nat) (h : ∀ i, i < n → x.testBit i = y.testBit i) : cnt x n = cnt y n := by
  induction n with
  | zero => rfl
  | succ n ih => simp only [cnt]; rw [ih (fun i hi => h i (by omega)), h n (by omega)]

theorem cnt_split (c y n : Nat) (hc : c < 256) : cnt (c + 256 * y) (8 + n) = cnt c 8 + cnt y n := by
  have hb : ∀ j, (c + 256 * y).testBit j = if j < 8 then c.testBit j else y.testBit (j - 8) := fun j => by
    rw [Nat.add_comm c]; exact Nat.testBit_two_pow_mul_add y (i := 8) hc j
  induction n with
  | zero =>
    have h : cnt (c + 256 * y) 8 = cnt c 8 := cnt_congr (c + 256 * y) c 8 fun i hi => by rw [hb, if_pos hi]
    rw [Nat.add_zero, h]; simp only [cnt, Nat.add_zero]
  | succ n ih =>
    show cnt _ (8 + n) + ((c + 256 * y).testBit (8 + n)).toNat = _
    rw [ih, hb, if_neg (by omega), show 8 + n - 8 = n from by omega]
    simp only [cnt]; omega

/-- byte by byte -/
def mp (f : Nat → Nat) : Nat → Nat → Nat
  | 0, _ => 0
  | n + 1, x => f (x % 256) + 256 * mp f n (x / 256)
def rep (m : Nat) : Nat → Nat
  | 0 => 0
  | n + 1 => m + 256 * rep m n
def sm (f : Nat → Nat) : Nat → Nat → Nat
  | 0, _ => 0
  | n + 1, x => f (x % 256) + sm f n (x / 256)

theorem cnt_sm (n : Nat) : ∀ x, cnt x (8 * n) = sm (fun c => cnt c 8) n x := by
  induction n with
  | zero => intro x; rfl
  | succ n ih =>
    intro x
    have h := cnt_split (x % 256) (x / 256) (8 * n) (Nat.mod_lt _ (by decide))
    rw [Nat.mod_add_div] at h
    rw [show 8 * (n + 1) = 8 + 8 * n from by omega, h, ih]; rfl

theorem and_byte (c m x y : Nat) (hc : c < 256) (hm : m < 256) : (c + 256 * x) &&& (m + 256 * y) = (c &&& m) + 256 * (x &&& y) := by
  apply Nat.eq_of_testBit_eq
  intro j
  have h1 : (c + 256 * x).testBit j = if j < 8 then c.testBit j else x.testBit (j - 8) := by
    rw [Nat.add_comm c]; exact Nat.testBit_two_pow_mul_add x (i := 8) hc j
  have h2 : (m + 256 * y).testBit j = if j < 8 then m.testBit j else y.testBit (j - 8) := by
    rw [Nat.add_comm m]; exact Nat.testBit_two_pow_mul_add y (i := 8) hm j
  have h3 : ((c &&& m) + 256 * (x &&& y)).testBit j = if j < 8 then (c &&& m).testBit j else (x &&& y).testBit (j - 8) := by
    rw [Nat.add_comm (c &&& m)]; exact Nat.testBit_two_pow_mul_add (x &&& y) (i := 8) (Nat.lt_of_le_of_lt Nat.and_le_left hc) j
  rw [Nat.testBit_and, h1, h2, h3]
  split <;> rw [Nat.testBit_and]

theorem mask0 (m : Nat) (hm : m < 256) (n : Nat) : ∀ x, x &&& rep m n = mp (fun c => c &&& m) n x := by
  induction n with
  | zero => intro x; simp [rep, mp]
  | succ n ih =>
    intro x
    have h := and_byte (x % 256) m (x / 256) (rep m n) (Nat.mod_lt _ (by decide)) hm
    rw [Nat.mod_add_div] at h
    show x &&& (m + 256 * rep m n) = _
    rw [h, ih]; rfl

theorem mask1 (n : Nat) : ∀ x, x / 2 &&& rep 85 n = mp (fun c => c / 2 &&& 85) n x := by
  induction n with
  | zero => intro x; simp [rep, mp]
  | succ n ih =>
    intro x
    have h := and_byte (x % 256 / 2 + 128 * (x / 256 % 2)) 85 (x / 256 / 2) (rep 85 n) (by omega) (by decide)
    rw [show x % 256 / 2 + 128 * (x / 256 % 2) + 256 * (x / 256 / 2) = x / 2 from by omega] at h
    have h2 : ∀ c : Fin 256, ∀ b : Fin 2, (c.val / 2 + 128 * b.val) &&& 85 = c.val / 2 &&& 85 := by decide +kernel
    have h3 := h2 ⟨x % 256, Nat.mod_lt _ (by decide)⟩ ⟨x / 256 % 2, Nat.mod_lt _ (by decide)⟩
    show x / 2 &&& (85 + 256 * rep 85 n) = _
    rw [h, ih, h3]; rfl

theorem mask2 (n : Nat) : ∀ x, x / 4 &&& rep 51 n = mp (fun c => c / 4 &&& 51) n x := by
  induction n with
  | zero => intro x; simp [rep, mp]
  | succ n ih =>
    intro x
    have h := and_byte (x % 256 / 4 + 64 * (x / 256 % 4)) 51 (x / 256 / 4) (rep 51 n) (by omega) (by decide)
    rw [show x % 256 / 4 + 64 * (x / 256 % 4) + 256 * (x / 256 / 4) = x / 4 from by omega] at h
    have h2 : ∀ c : Fin 256, ∀ b : Fin 4, (c.val / 4 + 64 * b.val) &&& 51 = c.val / 4 &&& 51 := by decide +kernel
    have h3 := h2 ⟨x % 256, Nat.mod_lt _ (by decide)⟩ ⟨x / 256 % 4, Nat.mod_lt _ (by decide)⟩
    show x / 4 &&& (51 + 256 * rep 51 n) = _
    rw [h, ih, h3]; rfl

theorem mp_add (f g : Nat → Nat) (n : Nat) : ∀ x, mp f n x + mp g n x = mp (fun c => f c + g c) n x := by
  induction n with
  | zero => intro x; rfl
  | succ n ih => intro x; simp only [mp]; have := ih (x / 256); omega

theorem mp_mp (f g : Nat → Nat) (hg : ∀ c, c < 256 → g c < 256) (n : Nat) : ∀ x, mp f n (mp g n x) = mp (fun c => f (g c)) n x := by
  induction n with
  | zero => intro x; rfl
  | succ n ih =>
    intro x
    have h := hg (x % 256) (Nat.mod_lt _ (by decide))
    simp only [mp]
    rw [show (g (x % 256) + 256 * mp g n (x / 256)) % 256 = g (x % 256) from by omega, show (g (x % 256) + 256 * mp g n (x / 256)) / 256 = mp g n (x / 256) from by omega, ih]

theorem mp_congr (f g : Nat → Nat) (h : ∀ c, c < 256 → f c = g c) (n : Nat) : ∀ x, mp f n x = mp g n x := by
  induction n with
  | zero => intro x; rfl
  | succ n ih => intro x; simp only [mp]; rw [ih, h _ (Nat.mod_lt _ (by decide))]

theorem mp_lt (f : Nat → Nat) (h : ∀ c, c < 256 → f c < 256) (n : Nat) : ∀ x, mp f n x < 256 ^ n := by
  induction n with
  | zero => intro x; simp [mp]
  | succ n ih => intro x; simp only [mp]; have := ih (x / 256); have := h (x % 256) (Nat.mod_lt _ (by decide)); rw [Nat.pow_succ]; omega

theorem third (q : Nat → Nat) (hq : ∀ c, c < 256 → q c % 16 ≤ 4 ∧ q c / 16 ≤ 4) (n : Nat) : ∀ x, (mp q n x / 16 + mp q n x) &&& rep 15 n = mp (fun c => q c / 16 + q c % 16) n x := by
  induction n with
  | zero => intro x; simp [rep, mp]
  | succ n ih =>
    intro x
    have hd := hq (x % 256) (Nat.mod_lt _ (by decide))
    have hv : mp q n (x / 256) % 16 ≤ 4 := by
      cases n with
      | zero => simp [mp]
      | succ n => have := hq (x / 256 % 256) (Nat.mod_lt _ (by decide)); simp only [mp]; omega
    have h := and_byte (q (x % 256) / 16 + 16 * (mp q n (x / 256) % 16) + q (x % 256)) 15 (mp q n (x / 256) / 16 + mp q n (x / 256)) (rep 15 n) (by omega) (by decide)
    rw [ih] at h
    have hm : ∀ z : Nat, z &&& 15 = z % 16 := fun z => Nat.and_two_pow_sub_one_eq_mod z 4
    rw [hm] at h
    simp only [mp, rep]
    rw [show (q (x % 256) + 256 * mp q n (x / 256)) / 16 + (q (x % 256) + 256 * mp q n (x / 256)) = (q (x % 256) / 16 + 16 * (mp q n (x / 256) % 16) + q (x % 256)) + 256 * (mp q n (x / 256) / 16 + mp q n (x / 256)) from by omega, h]
    rw [show (q (x % 256) / 16 + 16 * (mp q n (x / 256) % 16) + q (x % 256)) % 16 = q (x % 256) / 16 + q (x % 256) % 16 from by omega]

/-- the steps of the library's count -/
def s1 (a : Int) : Int := IntKind.u64.wrap ((bits .and .u64 (a / 2) 6148914691236517205) + (bits .and .u64 a 6148914691236517205))
def s2 (a : Int) : Int := IntKind.u64.wrap ((bits .and .u64 (a / 4) 3689348814741910323) + (bits .and .u64 a 3689348814741910323))
def s3 (a : Int) : Int := bits .and .u64 (IntKind.u64.wrap ((a / 16) + a)) 1085102592571150095
def s4 (a : Int) : Int := IntKind.u64.wrap (a + (a / 256))
def s5 (a : Int) : Int := IntKind.u64.wrap (a + (a / 65536))
def s6 (a : Int) : Int := IntKind.u64.wrap (a + (a / 4294967296))
def ones (a : Int) : Int := bits .and .i64 (wrap64 (s6 (s5 (s4 (s3 (s2 (s1 a))))))) 127

def q1 (c : Nat) : Nat := (c / 2 &&& 85) + (c &&& 85)
def q2 (c : Nat) : Nat := (c / 4 &&& 51) + (c &&& 51)
theorem q1_lt (c : Nat) (h : c < 256) : q1 c < 256 := by
  have h2 : ∀ c : Fin 256, q1 c.val < 256 := by decide +kernel
  exact h2 ⟨c, h⟩
theorem q2_in (c : Nat) (h : c < 256) : q2 (q1 c) % 16 ≤ 4 ∧ q2 (q1 c) / 16 ≤ 4 ∧ q2 (q1 c) / 16 + q2 (q1 c) % 16 = cnt c 8 := by
  have h2 : ∀ c : Fin 256, q2 (q1 c.val) % 16 ≤ 4 ∧ q2 (q1 c.val) / 16 ≤ 4 ∧ q2 (q1 c.val) / 16 + q2 (q1 c.val) % 16 = cnt c.val 8 := by decide +kernel
  exact h2 ⟨c, h⟩

theorem s1_nat (x : Nat) (hx : x < 2 ^ 64) : s1 x = ((mp q1 8 x : Nat) : Int) := by
  have hm : (6148914691236517205 : Int) = ((rep 85 8 : Nat) : Int) := by decide
  have hr : rep 85 8 < 2 ^ 64 := by decide
  have hl : mp q1 8 x < 2 ^ 64 := mp_lt q1 q1_lt 8 x
  unfold s1
  rw [hm, show ((x : Int) / 2) = ((x / 2 : Nat) : Int) from by omega, and_u64 _ _ (by omega) hr, and_u64 _ _ hx hr, mask1, mask0 85 (by decide), ← Int.natCast_add, mp_add]
  exact u64_in _ (by omega) (by have : mp (fun c => (c / 2 &&& 85) + (c &&& 85)) 8 x < 2 ^ 64 := hl; omega)

theorem s2_nat (x : Nat) : s2 (mp q1 8 x : Nat) = ((mp (fun c => q2 (q1 c)) 8 x : Nat) : Int) := by
  have hm : (3689348814741910323 : Int) = ((rep 51 8 : Nat) : Int) := by decide
  have hr : rep 51 8 < 2 ^ 64 := by decide
  have hl : mp q1 8 x < 2 ^ 64 := mp_lt q1 q1_lt 8 x
  have hl2 : mp (fun c => q2 (q1 c)) 8 x < 2 ^ 64 := mp_lt _ (fun c hc => by have := q2_in c hc; omega) 8 x
  rw [← mp_mp q2 q1 q1_lt] at hl2 ⊢
  generalize mp q1 8 x = y at *
  unfold s2
  rw [hm, show ((y : Int) / 4) = ((y / 4 : Nat) : Int) from by omega, and_u64 _ _ (by omega) hr, and_u64 _ _ hl hr, mask2, mask0 51 (by decide), ← Int.natCast_add, mp_add]
  exact u64_in _ (by omega) (by have : mp (fun c => (c / 4 &&& 51) + (c &&& 51)) 8 y < 2 ^ 64 := hl2; omega)

theorem s3_nat (x : Nat) : s3 (mp (fun c => q2 (q1 c)) 8 x : Nat) = ((mp (fun c => cnt c 8) 8 x : Nat) : Int) := by
  have hm : (1085102592571150095 : Int) = ((rep 15 8 : Nat) : Int) := by decide
  have hr : rep 15 8 < 2 ^ 64 := by decide
  have ht := third (fun c => q2 (q1 c)) (fun c hc => ⟨(q2_in c hc).1, (q2_in c hc).2.1⟩) 8 x
  have hh : ∀ n x, mp (fun c => q2 (q1 c)) (n + 1) x < 69 * 256 ^ n := by
    intro n
    induction n with
    | zero => intro x; simp only [mp]; have := q2_in (x % 256) (Nat.mod_lt _ (by decide)); omega
    | succ n ih => intro x; rw [mp]; have := ih (x / 256); have := q2_in (x % 256) (Nat.mod_lt _ (by decide)); rw [Nat.pow_succ]; omega
  have hl2 : mp (fun c => q2 (q1 c)) 8 x < 69 * 256 ^ 7 := hh 7 x
  unfold s3
  rw [hm, show ((mp (fun c => q2 (q1 c)) 8 x : Nat) : Int) / 16 + ((mp (fun c => q2 (q1 c)) 8 x : Nat) : Int) = ((mp (fun c => q2 (q1 c)) 8 x / 16 + mp (fun c => q2 (q1 c)) 8 x : Nat) : Int) from by omega]
  rw [u64_in _ (by omega) (by omega), and_u64 _ _ (by omega) hr, ht]
  exact congrArg _ (mp_congr _ _ (fun c hc => (q2_in c hc).2.2) 8 x)

theorem and127 (n : Nat) : (bits .and .i64 (n : Int) 127) = ((n % 128 : Nat) : Int) := by
  have h : (BitVec.ofInt 64 (n : Int) &&& BitVec.ofInt 64 127).toNat = n % 128 := by
    rw [BitVec.ofInt_natCast, BitVec.toNat_and, BitVec.toNat_ofNat]
    rw [show (BitVec.ofInt 64 127).toNat = 2 ^ 7 - 1 from by decide, Nat.and_two_pow_sub_one_eq_mod]
    omega
  show IntKind.i64.wrap ((BitVec.ofInt 64 (n : Int) &&& BitVec.ofInt 64 127).toNat : Int) = _
  rw [h, IntKind.wrap_i64]; omega

theorem ones_nat (x : Nat) (hx : x < 2 ^ 64) : ones x = ((cnt x 64 : Nat) : Int) := by
  unfold ones
  rw [s1_nat x hx, s2_nat x, s3_nat x, show (64 : Nat) = 8 * 8 from rfl, cnt_sm 8 x]
  have hb : ∀ c : Nat, cnt c 8 ≤ 8 := fun c => cnt_le c 8
  simp only [mp, sm]
  generalize x / 256 = x1
  generalize x1 / 256 = x2
  generalize x2 / 256 = x3
  generalize x3 / 256 = x4
  generalize x4 / 256 = x5
  generalize x5 / 256 = x6
  generalize x6 / 256 = x7
  have h0 := hb (x % 256); have h1 := hb (x1 % 256); have h2 := hb (x2 % 256); have h3 := hb (x3 % 256)
  have h4 := hb (x4 % 256); have h5 := hb (x5 % 256); have h6 := hb (x6 % 256); have h7 := hb (x7 % 256)
  generalize cnt (x % 256) 8 = p0 at *; generalize cnt (x1 % 256) 8 = p1 at *; generalize cnt (x2 % 256) 8 = p2 at *; generalize cnt (x3 % 256) 8 = p3 at *
  generalize cnt (x4 % 256) 8 = p4 at *; generalize cnt (x5 % 256) 8 = p5 at *; generalize cnt (x6 % 256) 8 = p6 at *; generalize cnt (x7 % 256) 8 = p7 at *
  clear hx hb
  obtain ⟨y, hy⟩ : ∃ y : Nat, p0 + 256 * (p1 + 256 * (p2 + 256 * (p3 + 256 * (p4 + 256 * (p5 + 256 * (p6 + 256 * (p7 + 256 * 0))))))) = y := ⟨_, rfl⟩
  rw [hy]
  have e4 : s4 (y : Int) = ((y + y / 256 : Nat) : Int) := by unfold s4; rw [u64_in _ (by omega) (by omega)]; omega
  obtain ⟨z, hz⟩ : ∃ z : Nat, y + y / 256 = z := ⟨_, rfl⟩
  have e5 : s5 (z : Int) = ((z + z / 65536 : Nat) : Int) := by unfold s5; rw [u64_in _ (by omega) (by omega)]; omega
  obtain ⟨u, hu⟩ : ∃ u : Nat, z + z / 65536 = u := ⟨_, rfl⟩
  have e6 : s6 (u : Int) = ((u + u / 4294967296 : Nat) : Int) := by unfold s6; rw [u64_in _ (by omega) (by omega)]; omega
  have e7 : wrap64 ((u + u / 4294967296 : Nat) : Int) = ((u + u / 4294967296 : Nat) : Int) := by unfold wrap64; omega
  rw [e4, hz, e5, hu, e6, e7, and127]
  clear e4 e5 e6 e7
  have hy1 : y / 256 = p1 + 256 * (p2 + 256 * (p3 + 256 * (p4 + 256 * (p5 + 256 * (p6 + 256 * p7))))) := by omega
  have hz1 : z = (p0 + p1) + 256 * ((p1 + p2) + 256 * ((p2 + p3) + 256 * ((p3 + p4) + 256 * ((p4 + p5) + 256 * ((p5 + p6) + 256 * ((p6 + p7) + 256 * p7)))))) := by omega
  clear hy hy1 hz
  have hz2 : z / 65536 = (p2 + p3) + 256 * ((p3 + p4) + 256 * ((p4 + p5) + 256 * ((p5 + p6) + 256 * ((p6 + p7) + 256 * p7)))) := by omega
  have hu1 : u = (p0 + p1 + p2 + p3) + 256 * ((p1 + p2 + p3 + p4) + 256 * ((p2 + p3 + p4 + p5) + 256 * ((p3 + p4 + p5 + p6) + 256 * ((p4 + p5 + p6 + p7) + 256 * ((p5 + p6 + p7) + 256 * ((p6 + p7) + 256 * p7)))))) := by omega
  clear hz1 hz2 hu
  have hu2 : u / 4294967296 = (p4 + p5 + p6 + p7) + 256 * ((p5 + p6 + p7) + 256 * ((p6 + p7) + 256 * p7)) := by omega
  exact congrArg _ (by omega)

/-! the sets of nodes -/
theorem has_bit (s i : Nat) (hs : s < 2 ^ 64) : (bits .and .u64 ((s : Int) / 2 ^ i) 1 == 1) = s.testBit i := by
  have h2 : ((2 : Int) ^ i) = ((2 ^ i : Nat) : Int) := by simp
  rw [h2, ← Int.natCast_ediv, show (1 : Int) = ((1 : Nat) : Int) from rfl, and_u64 _ _ (Nat.lt_of_le_of_lt (Nat.div_le_self _ _) hs) (by decide), Nat.testBit_eq_decide_div_mod_eq, show (s / 2 ^ i &&& 1) = s / 2 ^ i % 2 from Nat.and_two_pow_sub_one_eq_mod _ 1]
  rw [Bool.eq_iff_iff]; simp only [beq_iff_eq, decide_eq_true_eq]; omega

theorem pow_lt64 {i : Nat} (hi : i ≤ 62) : 2 ^ i < 2 ^ 64 := Nat.pow_lt_pow_right (by decide) (by omega)

theorem with_bit (s i : Nat) (hs : s < 2 ^ 64) (hi : i ≤ 62) : bits .or .u64 s (IntKind.u64.wrap (1 * 2 ^ min i 64)) = ((s ||| 2 ^ i : Nat) : Int) := by
  have h2 : ((2 : Int) ^ i) = ((2 ^ i : Nat) : Int) := by simp
  have hp := pow_lt64 hi
  rw [Nat.min_eq_left (by omega), Int.one_mul, h2, u64_of _ (Int.natCast_nonneg _) (by exact_mod_cast hp), or_u64 _ _ hs hp]

theorem or_lt (s i : Nat) (hs : s < 2 ^ 64) (hi : i ≤ 62) : s ||| 2 ^ i < 2 ^ 64 := Nat.or_lt_two_pow hs (pow_lt64 hi)

theorem or_bit (s i j : Nat) : (s ||| 2 ^ i).testBit j = (s.testBit j || decide (i = j)) := by
  rw [Nat.testBit_or, Nat.testBit_two_pow]

theorem cnt_or (s i n : Nat) : cnt (s ||| 2 ^ i) n = cnt s n + (if i < n ∧ s.testBit i = false then 1 else 0) := by
  induction n with
  | zero => simp [cnt]
  | succ n ih =>
    simp only [cnt]
    rw [ih, or_bit]
    by_cases h : i = n
    · subst h
      cases hb : s.testBit i <;> simp
    · rw [decide_eq_false h, Bool.or_false]
      by_cases h2 : i < n
      · by_cases h3 : s.testBit i = false
        · rw [if_pos ⟨h2, h3⟩, if_pos ⟨by omega, h3⟩]; omega
        · rw [if_neg (fun hh => h3 hh.2), if_neg (fun hh => h3 hh.2)]; omega
      · rw [if_neg (fun hh => h2 hh.1), if_neg (fun hh => by omega)]; omega

theorem cnt_mod (s m n : Nat) (h : n ≤ m) : cnt (s % 2 ^ m) n = cnt s n :=
  cnt_congr _ _ n fun i hi => by rw [Nat.testBit_mod_two_pow, decide_eq_true (by omega), Bool.true_and]

/-- more bits, all of them naught -/
theorem cnt_stay (x m : Nat) (hx : x < 2 ^ m) : ∀ d, cnt x (m + d) = cnt x m
  | 0 => rfl
  | d + 1 => by
    show cnt x (m + d) + (x.testBit (m + d)).toNat = _
    rw [cnt_stay x m hx d, Nat.testBit_lt_two_pow (Nat.lt_of_lt_of_le hx (Nat.pow_le_pow_right (by decide) (Nat.le_add_right m d)))]; rfl

theorem len_bits (s : Nat) (hs : s < 2 ^ 64) : ones (bits .andNot .u64 s 9223372036854775808) = ((cnt s 63 : Nat) : Int) := by
  rw [andNot_top s hs, ones_nat _ (by omega)]
  have h := cnt_stay (s % 2 ^ 63) 63 (Nat.mod_lt _ (by decide)) 1
  rw [show (64 : Nat) = 63 + 1 from rfl, h, cnt_mod s 63 63 (Nat.le_refl _)]

theorem within_bits (s n : Nat) (hs : s < 2 ^ 64) (hn : n ≤ 62) : bits .and .u64 s (IntKind.u64.wrap (IntKind.u64.wrap (1 * 2 ^ min n 64) - 1)) = ((s % 2 ^ n : Nat) : Int) := by
  have h2 : ((2 : Int) ^ n) = ((2 ^ n : Nat) : Int) := by simp
  have hp := pow_lt64 hn
  have hq : 0 < 2 ^ n := Nat.two_pow_pos n
  have e : ∀ z : Nat, s &&& (2 ^ n - 1) = z → s % 2 ^ n = z := fun z h => by rw [← h, Nat.and_two_pow_sub_one_eq_mod]
  rw [Nat.min_eq_left (by omega), Int.one_mul, h2]
  have e2 := e _ rfl
  rw [e2]
  generalize 2 ^ n = z at *
  rw [u64_in (z : Int) (by omega) (by omega), u64_in _ (by omega) (by omega), show ((z : Int) - 1) = ((z - 1 : Nat) : Int) from by omega, and_u64 _ _ hs (by omega)]

theorem cnt_below (s n m : Nat) (h : n ≤ m) : cnt (s % 2 ^ n) m = cnt s n := by
  have h1 := cnt_stay (s % 2 ^ n) n (Nat.mod_lt _ (Nat.two_pow_pos n)) (m - n)
  rw [show n + (m - n) = m from by omega] at h1
  rw [h1, cnt_mod s n n (Nat.le_refl _)]

theorem xor_max (s : Nat) (hs : s < 2 ^ 64) : bits .xor .u64 IntKind.u64.max s = ((2 ^ 64 - 1 - s : Nat) : Int) := by
  have h : (BitVec.ofInt 64 IntKind.u64.max ^^^ BitVec.ofInt 64 (s : Int)).toNat = 2 ^ 64 - 1 - s := by
    have e : BitVec.ofInt 64 IntKind.u64.max = BitVec.allOnes 64 := by decide
    rw [e, BitVec.allOnes_xor, BitVec.toNat_not, BitVec.ofInt_natCast, BitVec.toNat_ofNat, Nat.mod_eq_of_lt hs]
  show IntKind.u64.wrap ((BitVec.ofInt 64 IntKind.u64.max ^^^ BitVec.ofInt 64 (s : Int)).toNat : Int) = _
  rw [h, u64_in _ (by omega) (by omega)]

theorem cnt_not (s : Nat) (hs : s < 2 ^ 64) (n : Nat) (hn : n ≤ 64) : cnt s n + cnt (2 ^ 64 - 1 - s) n = n := by
  induction n with
  | zero => rfl
  | succ n ih =>
    have h := ih (by omega)
    have hb : (2 ^ 64 - 1 - s).testBit n = !s.testBit n := by
      rw [show 2 ^ 64 - 1 - s = 2 ^ 64 - (s + 1) from by omega, Nat.testBit_two_pow_sub_succ hs, decide_eq_true (by omega), Bool.true_and]
    simp only [cnt]
    rw [hb]
    generalize cnt (2 ^ 64 - 1 - s) n = u at *
    generalize cnt s n = v at *
    cases s.testBit n <;> simp only [Bool.not_true, Bool.not_false, Bool.toNat_true, Bool.toNat_false] <;> omega

end Go.Proofs.YtpflopenjbealaaBits
