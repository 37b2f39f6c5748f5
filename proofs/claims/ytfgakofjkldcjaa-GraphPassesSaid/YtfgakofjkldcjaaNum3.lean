/- Points and scalars in plain numbers: powers modulo the modulus, right points, scaling, the order. No program in sight. -/
import Derived.Test.YtfgakofjkldcjaaNum2
namespace Go.Num
def q : Nat := 2305843009213688669
def M : Nat := 4611686018427377339
theorem q_def : q = 2305843009213688669 := rfl
theorem M_def : M = 4611686018427377339 := rfl
theorem q_prime : Prime q := prime_2305843009213688669
theorem q_pos : 0 < q := by decide
theorem M_one : 1 < M := by decide
/-- A power modulo the modulus, of an exponent below 2^64. -/
def pw (a n : Nat) : Nat := pm M 64 a n 1
theorem pw_eq (a n : Nat) (h : n < 18446744073709551616) : pw a n = a ^ n % M := by
  have h64 : n < 2 ^ 64 := by rw [show (2 : Nat) ^ 64 = 18446744073709551616 by decide]; exact h
  rw [pw, pm_eq M 64 a n 1 h64 M_one, Nat.one_mul]
theorem pw_lt (a n : Nat) (h : n < 18446744073709551616) : pw a n < M := by rw [pw_eq a n h]; exact Nat.mod_lt _ (by decide)
theorem step1 (a n out : Nat) (h : n % 2 = 1) : (out * a % M) * (a * a % M) ^ (n / 2) % M = out * a ^ n % M := by
  have e : a ^ n = a * (a * a) ^ (n / 2) := by
    have hn2 : n = 2 * (n / 2) + 1 := by omega
    conv => lhs; rw [hn2]
    rw [Nat.pow_succ, Nat.pow_mul, Nat.pow_two, Nat.mul_comm]
  rw [e, Nat.mul_mod, Nat.mod_mod, ← Nat.pow_mod, ← Nat.mul_mod, Nat.mul_assoc]
theorem step0 (a n out : Nat) (h : ¬ n % 2 = 1) : out * (a * a % M) ^ (n / 2) % M = out * a ^ n % M := by
  have e : a ^ n = (a * a) ^ (n / 2) := by
    have hn2 : n = 2 * (n / 2) := by omega
    conv => lhs; rw [hn2]
    rw [Nat.pow_mul, Nat.pow_two]
  rw [e, Nat.mul_mod, ← Nat.pow_mod, ← Nat.mul_mod]
theorem pw_start (a n : Nat) (h : n < 18446744073709551616) : 1 * a ^ n % M = pw a n := by rw [pw_eq a n h, Nat.one_mul]
theorem pw_end (a out : Nat) (h : out < M) : out * a ^ 0 % M = out := by rw [Nat.pow_zero, Nat.mul_one, Nat.mod_eq_of_lt h]
theorem q_lt : q < 18446744073709551616 := by decide
def right (p : Nat) : Bool := decide (0 < p) && decide (p < M) && decide (pw p q = 1)
theorem right_iff (p : Nat) : right p = true ↔ 0 < p ∧ p < M ∧ p ^ q % M = 1 := by
  unfold right
  rw [pw_eq p q q_lt]
  simp [and_assoc]
def taken (p : Nat) : Nat := if right p then p else 1
def scale (p k : Nat) : Nat := pw (taken p) (k % q)
def base (k : Nat) : Nat := scale 4 k
def mulS (a b : Nat) : Nat := (a % q) * (b % q) % q
def addS (a b : Nat) : Nat := (a % q + b % q) % q
def negS (a : Nat) : Nat := (q - a % q) % q
def addP (a b : Nat) : Nat := taken a * taken b % M
theorem right_one : right 1 = true := by decide +kernel
theorem right_four : right 4 = true := by decide +kernel
theorem right_taken (p : Nat) : right (taken p) = true := by
  unfold taken
  split
  · assumption
  · exact right_one
theorem taken_right {p : Nat} (h : right p = true) : taken p = p := by rw [taken, if_pos h]
theorem pow_q {p : Nat} (h : right p = true) : p ^ q % M = 1 := ((right_iff p).1 h).2.2
theorem pow_mod_q {p : Nat} (h : right p = true) (k : Nat) : p ^ (k % q) % M = p ^ k % M := by
  have e : k = q * (k / q) + k % q := (Nat.div_add_mod k q).symm
  conv => rhs; rw [e]
  rw [Nat.pow_add, Nat.pow_mul, Nat.mul_mod, Nat.pow_mod (p ^ q), pow_q h, Nat.one_pow, Nat.mod_eq_of_lt M_one, Nat.one_mul, Nat.mod_mod]
theorem right_pow {p : Nat} (h : right p = true) (k : Nat) : right (p ^ k % M) = true := by
  rw [right_iff]
  have h1 : (p ^ k % M) ^ q % M = 1 := by
    rw [← Nat.pow_mod, ← Nat.pow_mul, Nat.mul_comm, Nat.pow_mul, Nat.pow_mod, pow_q h, Nat.one_pow, Nat.mod_eq_of_lt M_one]
  refine ⟨?_, Nat.mod_lt _ (by decide), h1⟩
  rcases Nat.eq_zero_or_pos (p ^ k % M) with h0 | h0
  · rw [h0, Nat.zero_pow q_pos] at h1
    simp at h1
  · exact h0
theorem mod_q_lt (k : Nat) : k % q < 18446744073709551616 := Nat.lt_trans (Nat.mod_lt _ q_pos) q_lt
theorem scale_eq (p k : Nat) : scale p k = taken p ^ k % M := by
  rw [scale, pw_eq _ _ (mod_q_lt k), pow_mod_q (right_taken p)]
theorem scale_lt (p k : Nat) : scale p k < M := by rw [scale_eq]; exact Nat.mod_lt _ (by decide)
theorem right_scale (p k : Nat) : right (scale p k) = true := by rw [scale_eq]; exact right_pow (right_taken p) k
theorem scale_scale (p a b : Nat) : scale (scale p a) b = scale p (a * b) := by
  rw [scale_eq (scale p a), taken_right (right_scale p a), scale_eq, scale_eq, ← Nat.pow_mod, ← Nat.pow_mul]
theorem scale_mod (p k : Nat) : scale p (k % q) = scale p k := by rw [scale, scale, Nat.mod_mod]
theorem mulS_eq (a b : Nat) : mulS a b = a * b % q := by rw [mulS, ← Nat.mul_mod]
theorem addS_eq (a b : Nat) : addS a b = (a + b) % q := by rw [addS, ← Nat.add_mod]
theorem scale_mulS (p a b : Nat) : scale p (mulS a b) = scale (scale p a) b := by rw [mulS_eq, scale_mod, scale_scale]
theorem right_base (k : Nat) : right (base k) = true := right_scale 4 k
theorem base_scale (x k : Nat) : scale (base x) k = scale (base k) x := by
  rw [base, base, scale_scale, scale_scale, Nat.mul_comm]
theorem one_scale {p k : Nat} (h : right p = true) (h1 : p ≠ 1) (hk : k % q ≠ 0) : scale p k ≠ 1 := by
  rw [scale_eq, taken_right h]
  intro he
  obtain ⟨d, _, ⟨hd0, hd1⟩, hl⟩ := least (p := fun k => 0 < k ∧ p ^ k % M = 1) q ⟨q_pos, pow_q h⟩
  have hl' : ∀ j, j < d → 0 < j → ¬ p ^ j % M = 1 := fun j hj h0 h => hl j hj ⟨h0, h⟩
  have hdq : d ∣ q := pow_order M_one hd1 (pow_q h) hl' hd0
  have hdk : d ∣ k := pow_order M_one hd1 he hl' hd0
  rcases q_prime.2 d hdq with h2 | h2
  · subst h2
    rw [Nat.pow_one, Nat.mod_eq_of_lt ((right_iff p).1 h).2.1] at hd1
    exact h1 hd1
  · subst h2
    exact hk (Nat.dvd_iff_mod_eq_zero.1 hdk)
theorem base_ne_one {k : Nat} (hk : k % q ≠ 0) : base k ≠ 1 := one_scale right_four (by decide) hk
theorem mulS_ne {a b : Nat} (ha : a % q ≠ 0) (hb : b % q ≠ 0) : mulS a b % q ≠ 0 := by
  rw [mulS_eq, Nat.mod_mod]
  intro h
  rcases q_prime.dvd_mul (Nat.dvd_iff_mod_eq_zero.2 h) with h1 | h1
  · exact ha (Nat.dvd_iff_mod_eq_zero.1 h1)
  · exact hb (Nat.dvd_iff_mod_eq_zero.1 h1)
theorem mulS_lt (a b : Nat) : mulS a b < q := Nat.mod_lt _ q_pos
theorem addP_base (a b : Nat) : addP (base a) (base b) = base (addS a b) := by
  rw [addP, taken_right (right_base a), taken_right (right_base b), base, base, base, addS_eq, scale_mod, scale_eq, scale_eq, scale_eq, ← Nat.mul_mod, Nat.pow_add]
theorem right_addP (a b : Nat) : right (addP a b) = true := by
  rw [right_iff]
  have h1 : (addP a b) ^ q % M = 1 := by
    rw [addP, ← Nat.pow_mod, Nat.mul_pow, Nat.mul_mod, pow_q (right_taken a), pow_q (right_taken b), Nat.mul_one, Nat.mod_eq_of_lt M_one]
  refine ⟨?_, Nat.mod_lt _ (by decide), h1⟩
  rcases Nat.eq_zero_or_pos (addP a b) with h0 | h0
  · rw [h0, Nat.zero_pow q_pos] at h1
    simp at h1
  · exact h0
/-- A scalar of bytes: their number modulo the order less one, and one. -/
def fromTo (n : Nat) : List (BitVec 8) → Nat
  | [] => n
  | b :: l => fromTo ((256 * n + b.toNat) % (q - 1)) l
def fromB (l : List (BitVec 8)) : Nat := fromTo 0 l + 1
theorem fromTo_lt : ∀ (l : List (BitVec 8)) (n : Nat), n < q - 1 → fromTo n l < q - 1
  | [], _, h => h
  | _ :: l, _, _ => fromTo_lt l _ (Nat.mod_lt _ (by decide))
theorem fromB_lt (l : List (BitVec 8)) : fromB l < q := by
  have := fromTo_lt l 0 (by decide)
  have := q_pos
  unfold fromB; omega
theorem fromB_ne (l : List (BitVec 8)) : fromB l % q ≠ 0 := by rw [Nat.mod_eq_of_lt (fromB_lt l)]; unfold fromB; omega
theorem fromTo_snoc (l : List (BitVec 8)) (k n : Nat) (b : BitVec 8) (h : l[k]? = some b) : fromTo n (l.take (k + 1)) = (256 * fromTo n (l.take k) + b.toNat) % (q - 1) := by
  have ap : ∀ (l m : List (BitVec 8)) (n : Nat), fromTo n (l ++ m) = fromTo (fromTo n l) m := by
    intro l
    induction l with
    | nil => intro m n; rfl
    | cons c l ih => intro m n; exact ih m _
  rw [List.take_add_one, h, ap]
  rfl
theorem fromTo_append : ∀ (l m : List (BitVec 8)) (n : Nat), fromTo n (l ++ m) = fromTo (fromTo n l) m
  | [], _, _ => rfl
  | _ :: l, m, _ => fromTo_append l m _
end Go.Num
