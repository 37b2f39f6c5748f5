/- LedgerSheets: for every input the law answers true and leaves its arguments as they were. -/

set_option linter.unusedVariables false
set_option linter.unusedSimpArgs false
namespace Go.Num
def Prime (p : Nat) : Prop := 2 <= p /\ ∀ d, d ∣ p -> d = 1 \/ d = p
theorem Prime.coprime {p x : Nat} (h : Prime p) (hx : ¬ p ∣ x) : Nat.Coprime p x := by
  rcases h.2 (Nat.gcd p x) (Nat.gcd_dvd_left p x) with h1 | h1
  · exact h1
  · exact absurd (h1 ▸ Nat.gcd_dvd_right p x) hx
def pm (m : Nat) : Nat -> Nat -> Nat -> Nat -> Nat
  | 0, _, _, out => out
  | f + 1, a, n, out => pm m f (a * a % m) (n / 2) (if n % 2 = 1 then out * a % m else out)
theorem pm_eq (m : Nat) : ∀ (f a n out : Nat), n < 2 ^ f -> out < m -> pm m f a n out = out * a ^ n % m
  | 0, a, n, out, h, ho => by
    have : n = 0 := by simpa using h
    subst this
    simp [pm, Nat.mod_eq_of_lt ho]
  | f + 1, a, n, out, h, ho => by
    have hm : 0 < m := by omega
    have hn : n / 2 < 2 ^ f := by rw [Nat.pow_succ] at h; omega
    rw [pm]
    by_cases hp : n % 2 = 1
    · rw [if_pos hp, pm_eq m f _ _ _ hn (Nat.mod_lt _ hm)]
      have e : a ^ n = a * (a * a) ^ (n / 2) := by
        have hn2 : n = 2 * (n / 2) + 1 := by omega
        conv => lhs; rw [hn2]
        rw [Nat.pow_succ, Nat.pow_mul, Nat.pow_two, Nat.mul_comm]
      rw [e, Nat.mul_mod, Nat.mod_mod, <- Nat.pow_mod, <- Nat.mul_mod, Nat.mul_assoc]
    · rw [if_neg hp, pm_eq m f _ _ _ hn ho]
      have e : a ^ n = (a * a) ^ (n / 2) := by
        have hn2 : n = 2 * (n / 2) := by omega
        conv => lhs; rw [hn2]
        rw [Nat.pow_mul, Nat.pow_two]
      rw [e, Nat.mul_mod, <- Nat.pow_mod, <- Nat.mul_mod]
theorem pigeon : ∀ (n : Nat) (f : Nat -> Nat), (∀ i, i < n -> f i < n) -> (∀ i j, i < n -> j < n -> f i = f j -> i = j) -> ∀ y, y < n -> ∃ i, i < n /\ f i = y
  | 0, _, _, _, y, hy => by omega
  | n + 1, f, hf, hi, y, hy => by
    by_cases hyn : f n = y
    · exact ⟨n, by omega, hyn⟩
    · -- where n is taken, put f n in its place
      have hf' : ∀ i, i < n -> (if f i = n then f n else f i) < n := by
        intro i h
        split
        · rename_i he
          have h1 := hf n (by omega)
          have h2 : f n ≠ n := fun h3 => by have := hi i n (by omega) (by omega) (by omega); omega
          omega
        · have := hf i (by omega); omega
      have hi' : ∀ i j, i < n -> j < n -> (if f i = n then f n else f i) = (if f j = n then f n else f j) -> i = j := by
        intro i j h1 h2 he
        split at he <;> split at he
        · exact hi i j (by omega) (by omega) (by omega)
        · have := hi n j (by omega) (by omega) he; omega
        · have := hi i n (by omega) (by omega) he; omega
        · exact hi i j (by omega) (by omega) he
      have ih := pigeon n (fun i => if f i = n then f n else f i) hf' hi'
      by_cases hy2 : y < n
      · obtain ⟨i, h1, h2⟩ := ih y hy2
        by_cases hh : f i = n
        · rw [if_pos hh] at h2; exact absurd h2 hyn
        · rw [if_neg hh] at h2; exact ⟨i, by omega, h2⟩
      · have hyn' : y = n := by omega
        subst hyn'
        obtain ⟨i, h1, h2⟩ := ih (f y) (by have := hf y (by omega); omega)
        by_cases hh : f i = y
        · exact ⟨i, by omega, hh⟩
        · rw [if_neg hh] at h2
          have := hi i y (by omega) (by omega) h2
          omega
theorem least {p : Nat -> Prop} [DecidablePred p] (n : Nat) (h : p n) : ∃ k, k <= n /\ p k /\ ∀ j, j < k -> ¬ p j := by
  induction n using Nat.strongRecOn with
  | ind n ih =>
    by_cases hs : ∃ j, j < n /\ p j
    · obtain ⟨j, hj, hp⟩ := hs
      obtain ⟨k, h1, h2, h3⟩ := ih j hj hp
      exact ⟨k, by omega, h2, h3⟩
    · exact ⟨n, Nat.le_refl _, h, fun j hj hp => hs ⟨j, hj, hp⟩⟩
theorem pow_order {a m d k : Nat} (hm : 1 < m) (h : a ^ d % m = 1) (hk : a ^ k % m = 1) (hl : ∀ j, j < d -> 0 < j -> ¬ a ^ j % m = 1) (hd : 0 < d) : d ∣ k := by
  rw [Nat.dvd_iff_mod_eq_zero]
  have e : a ^ k % m = a ^ (k % d) % m := by
    have hk2 : k = d * (k / d) + k % d := (Nat.div_add_mod k d).symm
    conv => lhs; rw [hk2]
    rw [Nat.pow_add, Nat.pow_mul, Nat.mul_mod, Nat.pow_mod (a ^ d), h, Nat.one_pow, Nat.mod_eq_of_lt hm, Nat.one_mul, Nat.mod_mod]
  by_cases hz : k % d = 0
  · exact hz
  · exact absurd (e ▸ hk) (hl _ (Nat.mod_lt _ hd) (by omega))
theorem dvd_prod : ∀ (fs : List Nat) (m : Nat), (∀ r ∈ fs, Prime r) -> 1 < m -> m ∣ fs.foldr (· * ·) 1 -> ∃ r ∈ fs, r ∣ m
  | [], m, _, hm, hd => by
    have : m = 1 := Nat.dvd_one.1 hd
    omega
  | r :: fs, m, hp, hm, hd => by
    by_cases hr : r ∣ m
    · exact ⟨r, by simp, hr⟩
    · have hc : Nat.Coprime m r := ((hp r (by simp)).coprime hr).symm
      obtain ⟨q, h1, h2⟩ := dvd_prod fs m (fun q hq => hp q (by simp [hq])) hm (hc.dvd_of_dvd_mul_left hd)
      exact ⟨q, by simp [h1], h2⟩
theorem lucas (n a : Nat) (fs : List Nat) (hn : 2 < n) (hf : fs.foldr (· * ·) 1 = n - 1) (hp : ∀ r ∈ fs, Prime r) (h1 : a ^ (n - 1) % n = 1) (h2 : ∀ r ∈ fs, ¬ a ^ ((n - 1) / r) % n = 1) : Prime n := by
  obtain ⟨d, hd, ⟨hd0, hd1⟩, hl⟩ := least (p := fun k => 0 < k /\ a ^ k % n = 1) (n - 1) ⟨by omega, h1⟩
  have hl' : ∀ j, j < d -> 0 < j -> ¬ a ^ j % n = 1 := fun j hj h0 h => hl j hj ⟨h0, h⟩
  have hdn : d ∣ n - 1 := pow_order (by omega) hd1 h1 hl' hd0
  have hde : d = n - 1 := by
    obtain ⟨m, hm⟩ := hdn
    by_cases hm1 : m = 1
    · rw [hm, hm1, Nat.mul_one]
    · have hm0 : m ≠ 0 := fun h => by rw [h] at hm; simp at hm; omega
      obtain ⟨r, hr, t, ht⟩ := dvd_prod fs m hp (by omega) (by rw [hf, hm]; exact Nat.dvd_mul_left m d)
      have hr0 : 0 < r := by have := (hp r hr).1; omega
      have e : (n - 1) / r = d * t := by
        rw [hm, ht, Nat.mul_left_comm, Nat.mul_comm r, Nat.mul_div_cancel _ hr0]
      exact absurd (by rw [e, Nat.pow_mul, Nat.pow_mod, hd1, Nat.one_pow, Nat.mod_eq_of_lt (by omega)]) (h2 r hr)
  subst hde
  -- every number below n is a power
  have unit : ∀ i, i <= n - 1 -> (a ^ i % n) * (a ^ (n - 1 - i)) % n = 1 := by
    intro i hi
    rw [Nat.mul_mod, Nat.mod_mod, <- Nat.mul_mod, <- Nat.pow_add, show i + (n - 1 - i) = n - 1 by omega, h1]
  have pos : ∀ i, i <= n - 1 -> 0 < a ^ i % n := by
    intro i hi
    rcases Nat.eq_zero_or_pos (a ^ i % n) with h | h
    · have := unit i hi; rw [h] at this; simp at this
    · exact h
  have inj : ∀ i j, i < n - 1 -> j < n - 1 -> i <= j -> a ^ i % n = a ^ j % n -> i = j := by
    intro i j hi hj hij he
    have h3 : a ^ (j - i) % n = 1 := by
      have hu := unit i (by omega)
      rw [he] at hu
      rw [Nat.mul_mod, Nat.mod_mod, <- Nat.mul_mod, <- Nat.pow_add, show j + (n - 1 - i) = (n - 1) + (j - i) by omega, Nat.pow_add, Nat.mul_mod, h1, Nat.one_mul, Nat.mod_mod] at hu
      exact hu
    by_cases hz : j - i = 0
    · omega
    · exact absurd h3 (hl' _ (by omega) (by omega))
  have all := pigeon (n - 1) (fun i => a ^ i % n - 1) (fun i hi => by have := pos i (by omega); have := Nat.mod_lt (a ^ i) (show 0 < n by omega); omega)
    (fun i j hi hj he => by
      have h3 := pos i (by omega)
      have h4 := pos j (by omega)
      rcases Nat.le_total i j with h | h
      · exact inj i j hi hj h (by omega)
      · exact (inj j i hj hi h (by omega)).symm)
  refine ⟨by omega, fun e he => ?_⟩
  by_cases he1 : e = n
  · exact .inr he1
  · have hele : e <= n := Nat.le_of_dvd (by omega) he
    have he0 : 0 < e := Nat.pos_of_dvd_of_pos he (by omega)
    obtain ⟨i, hi, hie⟩ := all (e - 1) (by omega)
    have h3 := pos i (by omega)
    have hu := unit i (by omega)
    rw [show a ^ i % n = e by omega] at hu
    left
    have h5 : e ∣ 1 := by
      have h6 : e ∣ e * a ^ (n - 1 - i) % n := (Nat.dvd_mod_iff he).2 (Nat.dvd_mul_right _ _)
      rwa [hu] at h6
    exact Nat.dvd_one.1 h5
theorem lucas_pm (n a f : Nat) (fs : List Nat) (hn : 2 < n) (hff : n < 2 ^ f) (hf : fs.foldr (· * ·) 1 = n - 1) (hp : ∀ r ∈ fs, Prime r) (h1 : pm n f a (n - 1) 1 = 1) (h2 : ∀ r ∈ fs, ¬ pm n f a ((n - 1) / r) 1 = 1) : Prime n := by
  refine lucas n a fs hn hf hp ?_ ?_
  · rw [pm_eq n f a _ 1 (by omega) (by omega), Nat.one_mul] at h1
    exact h1
  · intro r hr
    have := h2 r hr
    rw [pm_eq n f a _ 1 (Nat.lt_of_le_of_lt (Nat.div_le_self _ _) (by omega)) (by omega), Nat.one_mul] at this
    exact this
end Go.Num

namespace Go.Num
theorem small_prime (p : Nat) (h2 : 2 <= p) (h : (List.range p).all (fun d => decide (d < 2) || decide (p % d ≠ 0)) = true) : Prime p := by
  refine ⟨h2, fun d hd => ?_⟩
  have hle := Nat.le_of_dvd (by omega) hd
  by_cases h1 : d = p
  · exact .inr h1
  · rw [List.all_eq_true] at h
    have := h d (List.mem_range.2 (by omega))
    rw [Nat.dvd_iff_mod_eq_zero] at hd
    have h0 : d ≠ 0 := fun h => by subst h; simp at hd; omega
    simp [hd] at this
    left; omega
theorem prime_2 : Prime 2 := small_prime 2 (by decide) (by decide +kernel)
theorem prime_3 : Prime 3 := small_prime 3 (by decide) (by decide +kernel)
theorem prime_5 : Prime 5 := small_prime 5 (by decide) (by decide +kernel)
theorem prime_7 : Prime 7 := small_prime 7 (by decide) (by decide +kernel)
theorem prime_11 : Prime 11 := small_prime 11 (by decide) (by decide +kernel)
theorem prime_17 : Prime 17 := small_prime 17 (by decide) (by decide +kernel)
theorem prime_23 : Prime 23 := small_prime 23 (by decide) (by decide +kernel)
theorem prime_73 : Prime 73 := small_prime 73 (by decide) (by decide +kernel)
theorem prime_821 : Prime 821 := small_prime 821 (by decide) (by decide +kernel)
theorem prime_2311 : Prime 2311 := small_prime 2311 (by decide) (by decide +kernel)
theorem prime_172411 : Prime 172411 := by
  refine lucas_pm 172411 3 18 [2, 3, 5, 7, 821] (by decide) (by decide) (by decide) ?_ (by decide +kernel) ?_
  · intro r hr
    simp at hr
    rcases hr with rfl | rfl | rfl | rfl | rfl
    · exact prime_2
    · exact prime_3
    · exact prime_5
    · exact prime_7
    · exact prime_821
  · intro r hr
    simp at hr
    rcases hr with rfl | rfl | rfl | rfl | rfl
    · decide +kernel
    · decide +kernel
    · decide +kernel
    · decide +kernel
    · decide +kernel
theorem prime_7930907 : Prime 7930907 := by
  refine lucas_pm 7930907 2 23 [2, 23, 172411] (by decide) (by decide) (by decide) ?_ (by decide +kernel) ?_
  · intro r hr
    simp at hr
    rcases hr with rfl | rfl | rfl
    · exact prime_2
    · exact prime_23
    · exact prime_172411
  · intro r hr
    simp at hr
    rcases hr with rfl | rfl | rfl
    · decide +kernel
    · decide +kernel
    · decide +kernel
theorem prime_11864636873 : Prime 11864636873 := by
  refine lucas_pm 11864636873 5 34 [2, 2, 2, 11, 17, 7930907] (by decide) (by decide) (by decide) ?_ (by decide +kernel) ?_
  · intro r hr
    simp at hr
    rcases hr with rfl | rfl | rfl | rfl
    · exact prime_2
    · exact prime_11
    · exact prime_17
    · exact prime_7930907
  · intro r hr
    simp at hr
    rcases hr with rfl | rfl | rfl | rfl
    · decide +kernel
    · decide +kernel
    · decide +kernel
    · decide +kernel
theorem prime_1732236983459 : Prime 1732236983459 := by
  refine lucas_pm 1732236983459 2 41 [2, 73, 11864636873] (by decide) (by decide) (by decide) ?_ (by decide +kernel) ?_
  · intro r hr
    simp at hr
    rcases hr with rfl | rfl | rfl
    · exact prime_2
    · exact prime_73
    · exact prime_11864636873
  · intro r hr
    simp at hr
    rcases hr with rfl | rfl | rfl
    · decide +kernel
    · decide +kernel
    · decide +kernel
theorem prime_249442125618097 : Prime 249442125618097 := by
  refine lucas_pm 249442125618097 5 48 [2, 2, 2, 2, 3, 3, 1732236983459] (by decide) (by decide) (by decide) ?_ (by decide +kernel) ?_
  · intro r hr
    simp at hr
    rcases hr with rfl | rfl | rfl
    · exact prime_2
    · exact prime_3
    · exact prime_1732236983459
  · intro r hr
    simp at hr
    rcases hr with rfl | rfl | rfl
    · decide +kernel
    · decide +kernel
    · decide +kernel
theorem prime_2305843009213688669 : Prime 2305843009213688669 := by
  refine lucas_pm 2305843009213688669 2 61 [2, 2, 2311, 249442125618097] (by decide) (by decide) (by decide) ?_ (by decide +kernel) ?_
  · intro r hr
    simp at hr
    rcases hr with rfl | rfl | rfl
    · exact prime_2
    · exact prime_2311
    · exact prime_249442125618097
  · intro r hr
    simp at hr
    rcases hr with rfl | rfl | rfl
    · decide +kernel
    · decide +kernel
    · decide +kernel
end Go.Num

namespace Go.Num
def q : Nat := 2305843009213688669
def M : Nat := 4611686018427377339
theorem q_prime : Prime q := prime_2305843009213688669
theorem q_pos : 0 < q := by decide
theorem M_one : 1 < M := by decide
def pw (a n : Nat) : Nat := pm M 64 a n 1
theorem pw_eq (a n : Nat) (h : n < 18446744073709551616) : pw a n = a ^ n % M := by
  have h64 : n < 2 ^ 64 := by rw [show (2 : Nat) ^ 64 = 18446744073709551616 by decide]; exact h
  rw [pw, pm_eq M 64 a n 1 h64 M_one, Nat.one_mul]
theorem step1 (a n out : Nat) (h : n % 2 = 1) : (out * a % M) * (a * a % M) ^ (n / 2) % M = out * a ^ n % M := by
  have e : a ^ n = a * (a * a) ^ (n / 2) := by
    have hn2 : n = 2 * (n / 2) + 1 := by omega
    conv => lhs; rw [hn2]
    rw [Nat.pow_succ, Nat.pow_mul, Nat.pow_two, Nat.mul_comm]
  rw [e, Nat.mul_mod, Nat.mod_mod, <- Nat.pow_mod, <- Nat.mul_mod, Nat.mul_assoc]
theorem step0 (a n out : Nat) (h : ¬ n % 2 = 1) : out * (a * a % M) ^ (n / 2) % M = out * a ^ n % M := by
  have e : a ^ n = (a * a) ^ (n / 2) := by
    have hn2 : n = 2 * (n / 2) := by omega
    conv => lhs; rw [hn2]
    rw [Nat.pow_mul, Nat.pow_two]
  rw [e, Nat.mul_mod, <- Nat.pow_mod, <- Nat.mul_mod]
theorem pw_start (a n : Nat) (h : n < 18446744073709551616) : 1 * a ^ n % M = pw a n := by rw [pw_eq a n h, Nat.one_mul]
theorem pw_end (a out : Nat) (h : out < M) : out * a ^ 0 % M = out := by rw [Nat.pow_zero, Nat.mul_one, Nat.mod_eq_of_lt h]
theorem q_lt : q < 18446744073709551616 := by decide
def right (p : Nat) : Bool := decide (0 < p) && decide (p < M) && decide (pw p q = 1)
theorem right_iff (p : Nat) : right p = true ↔ 0 < p /\ p < M /\ p ^ q % M = 1 := by
  unfold right
  rw [pw_eq p q q_lt]
  simp [and_assoc]
def taken (p : Nat) : Nat := if right p then p else 1
def scale (p k : Nat) : Nat := pw (taken p) (k % q)
def base (k : Nat) : Nat := scale 4 k
def addS (a b : Nat) : Nat := (a % q + b % q) % q
theorem right_one : right 1 = true := by decide +kernel
theorem right_four : right 4 = true := by decide +kernel
theorem right_taken (p : Nat) : right (taken p) = true := by
  unfold taken
  split
  · assumption
  · exact right_one
theorem taken_right {p : Nat} (h : right p = true) : taken p = p := by rw [taken, if_pos h]
theorem pow_q {p : Nat} (h : right p = true) : p ^ q % M = 1 := ((right_iff p).1 h).2.2
theorem pow_mod_q {p : Nat} (h : right p = true) (k : Nat) : p ^ (k % q) % M = p ^ k % M := by
  have e : k = q * (k / q) + k % q := (Nat.div_add_mod k q).symm
  conv => rhs; rw [e]
  rw [Nat.pow_add, Nat.pow_mul, Nat.mul_mod, Nat.pow_mod (p ^ q), pow_q h, Nat.one_pow, Nat.mod_eq_of_lt M_one, Nat.one_mul, Nat.mod_mod]
theorem right_pow {p : Nat} (h : right p = true) (k : Nat) : right (p ^ k % M) = true := by
  rw [right_iff]
  have h1 : (p ^ k % M) ^ q % M = 1 := by
    rw [<- Nat.pow_mod, <- Nat.pow_mul, Nat.mul_comm, Nat.pow_mul, Nat.pow_mod, pow_q h, Nat.one_pow, Nat.mod_eq_of_lt M_one]
  refine ⟨?_, Nat.mod_lt _ (by decide), h1⟩
  rcases Nat.eq_zero_or_pos (p ^ k % M) with h0 | h0
  · rw [h0, Nat.zero_pow q_pos] at h1
    simp at h1
  · exact h0
theorem mod_q_lt (k : Nat) : k % q < 18446744073709551616 := Nat.lt_trans (Nat.mod_lt _ q_pos) q_lt
theorem scale_eq (p k : Nat) : scale p k = taken p ^ k % M := by
  rw [scale, pw_eq _ _ (mod_q_lt k), pow_mod_q (right_taken p)]
theorem right_scale (p k : Nat) : right (scale p k) = true := by rw [scale_eq]; exact right_pow (right_taken p) k
theorem right_base (k : Nat) : right (base k) = true := right_scale 4 k
theorem one_scale {p k : Nat} (h : right p = true) (h1 : p ≠ 1) (hk : k % q ≠ 0) : scale p k ≠ 1 := by
  rw [scale_eq, taken_right h]
  intro he
  obtain ⟨d, _, ⟨hd0, hd1⟩, hl⟩ := least (p := fun k => 0 < k /\ p ^ k % M = 1) q ⟨q_pos, pow_q h⟩
  have hl' : ∀ j, j < d -> 0 < j -> ¬ p ^ j % M = 1 := fun j hj h0 h => hl j hj ⟨h0, h⟩
  have hdq : d ∣ q := pow_order M_one hd1 (pow_q h) hl' hd0
  have hdk : d ∣ k := pow_order M_one hd1 he hl' hd0
  rcases q_prime.2 d hdq with h2 | h2
  · subst h2
    rw [Nat.pow_one, Nat.mod_eq_of_lt ((right_iff p).1 h).2.1] at hd1
    exact h1 hd1
  · subst h2
    exact hk (Nat.dvd_iff_mod_eq_zero.1 hdk)
theorem base_ne_one {k : Nat} (hk : k % q ≠ 0) : base k ≠ 1 := one_scale right_four (by decide) hk
def fromTo (n : Nat) : List (BitVec 8) -> Nat
  | [] => n
  | b :: l => fromTo ((256 * n + b.toNat) % (q - 1)) l
def fromB (l : List (BitVec 8)) : Nat := fromTo 0 l + 1
theorem fromTo_lt : ∀ (l : List (BitVec 8)) (n : Nat), n < q - 1 -> fromTo n l < q - 1
  | [], _, h => h
  | _ :: l, _, _ => fromTo_lt l _ (Nat.mod_lt _ (by decide))
theorem fromB_lt (l : List (BitVec 8)) : fromB l < q := by
  have := fromTo_lt l 0 (by decide)
  have := q_pos
  unfold fromB; omega
theorem fromB_ne (l : List (BitVec 8)) : fromB l % q ≠ 0 := by rw [Nat.mod_eq_of_lt (fromB_lt l)]; unfold fromB; omega
theorem fromTo_snoc (l : List (BitVec 8)) (k n : Nat) (b : BitVec 8) (h : l[k]? = some b) : fromTo n (l.take (k + 1)) = (256 * fromTo n (l.take k) + b.toNat) % (q - 1) := by
  have ap : ∀ (l m : List (BitVec 8)) (n : Nat), fromTo n (l ++ m) = fromTo (fromTo n l) m := by
    intro l
    induction l with
    | nil => intro m n; rfl
    | cons c l ih => intro m n; exact ih m _
  rw [List.take_add_one, h, ap]
  rfl
end Go.Num

namespace Go.Hsp
abbrev Byte := BitVec 8
abbrev Word := BitVec 32
def be8 (m : Nat) : List Byte := [56, 48, 40, 32, 24, 16, 8, 0].map fun k => BitVec.ofNat 8 (m >>> k)
def be8To (m k : Nat) : List Byte := (be8 m).take k
theorem be8_length (m : Nat) : (be8 m).length = 8 := rfl
theorem be8To_succ (m k : Nat) (h : k < 8) : be8To m (k + 1) = be8To m k ++ [BitVec.ofNat 8 (m >>> (56 - 8 * k))] := by
  have : k = 0 \/ k = 1 \/ k = 2 \/ k = 3 \/ k = 4 \/ k = 5 \/ k = 6 \/ k = 7 := by omega
  rcases this with rfl | rfl | rfl | rfl | rfl | rfl | rfl | rfl <;> rfl
def rot (x : Word) (k : Nat) : Word := x <<< (32 - k) ||| x >>> k
def be32 (b : List Byte) : Word := (b.getD 0 0).setWidth 32 <<< 24 ||| (b.getD 1 0).setWidth 32 <<< 16 ||| (b.getD 2 0).setWidth 32 <<< 8 ||| (b.getD 3 0).setWidth 32
def nextWord (w : List Word) (k : Nat) : Word :=
  w.getD (k - 16) 0 + (rot (w.getD (k - 15) 0) 7 ^^^ rot (w.getD (k - 15) 0) 18 ^^^ (w.getD (k - 15) 0) >>> 3) + w.getD (k - 7) 0
    + (rot (w.getD (k - 2) 0) 17 ^^^ rot (w.getD (k - 2) 0) 19 ^^^ (w.getD (k - 2) 0) >>> 10)
def schedTo (b : List Byte) : Nat -> List Word
  | 0 => []
  | k + 1 => schedTo b k ++ [if k < 16 then be32 (b.drop (4 * k)) else nextWord (schedTo b k) k]
theorem schedTo_length (b : List Byte) : ∀ k, (schedTo b k).length = k
  | 0 => rfl
  | k + 1 => by simp [schedTo, schedTo_length b k]
def sched (b : List Byte) : List Word := schedTo b 64
def table : List Word := [
  0x428a2f98, 0x71374491, 0xb5c0fbcf, 0xe9b5dba5, 0x3956c25b, 0x59f111f1, 0x923f82a4, 0xab1c5ed5,
  0xd807aa98, 0x12835b01, 0x243185be, 0x550c7dc3, 0x72be5d74, 0x80deb1fe, 0x9bdc06a7, 0xc19bf174,
  0xe49b69c1, 0xefbe4786, 0x0fc19dc6, 0x240ca1cc, 0x2de92c6f, 0x4a7484aa, 0x5cb0a9dc, 0x76f988da,
  0x983e5152, 0xa831c66d, 0xb00327c8, 0xbf597fc7, 0xc6e00bf3, 0xd5a79147, 0x06ca6351, 0x14292967,
  0x27b70a85, 0x2e1b2138, 0x4d2c6dfc, 0x53380d13, 0x650a7354, 0x766a0abb, 0x81c2c92e, 0x92722c85,
  0xa2bfe8a1, 0xa81a664b, 0xc24b8b70, 0xc76c51a3, 0xd192e819, 0xd6990624, 0xf40e3585, 0x106aa070,
  0x19a4c116, 0x1e376c08, 0x2748774c, 0x34b0bcb5, 0x391c0cb3, 0x4ed8aa4a, 0x5b9cca4f, 0x682e6ff3,
  0x748f82ee, 0x78a5636f, 0x84c87814, 0x8cc70208, 0x90befffa, 0xa4506ceb, 0xbef9a3f7, 0xc67178f2]
def first : List Word := [0x6a09e667, 0xbb67ae85, 0x3c6ef372, 0xa54ff53a, 0x510e527f, 0x9b05688c, 0x1f83d9ab, 0x5be0cd19]
def stepW (v : List Word) (k w : Word) : List Word :=
  let s := rot (v.getD 4 0) 6 ^^^ rot (v.getD 4 0) 11 ^^^ rot (v.getD 4 0) 25
  let t := v.getD 7 0 + s + (v.getD 6 0 ^^^ v.getD 4 0 &&& (v.getD 5 0 ^^^ v.getD 6 0)) + k + w
  let r := rot (v.getD 0 0) 2 ^^^ rot (v.getD 0 0) 13 ^^^ rot (v.getD 0 0) 22
  let most := v.getD 0 0 &&& v.getD 1 0 ||| v.getD 2 0 &&& (v.getD 0 0 ||| v.getD 1 0)
  [t + r + most, v.getD 0 0, v.getD 1 0, v.getD 2 0, v.getD 3 0 + t, v.getD 4 0, v.getD 5 0, v.getD 6 0]
def roundsTo (h : List Word) (ws : List Word) : Nat -> List Word
  | 0 => h
  | i + 1 => stepW (roundsTo h ws i) (table.getD i 0) (ws.getD i 0)
theorem roundsTo_length (h ws : List Word) (hh : h.length = 8) : ∀ i, (roundsTo h ws i).length = 8
  | 0 => hh
  | i + 1 => by simp [roundsTo, stepW]
def addTo (v h : List Word) (i : Nat) : List Word := (List.range 8).map fun j => if j < i then v.getD j 0 + h.getD j 0 else v.getD j 0
theorem addTo_length (v h : List Word) (i : Nat) : (addTo v h i).length = 8 := by simp [addTo]
theorem addTo_zero (v h : List Word) (hv : v.length = 8) : addTo v h 0 = v := by
  apply List.ext_getElem (by simp [addTo, hv])
  intro j h1 h2
  simp [addTo, List.getD, h2]
theorem addTo_getElem (v h : List Word) (i j : Nat) (hj : j < 8) : (addTo v h i)[j]? = some (if j < i then v.getD j 0 + h.getD j 0 else v.getD j 0) := by simp [addTo, hj]
theorem addTo_at (v h : List Word) (i j : Nat) (hj : j < 8) : (addTo v h i).getD j 0 = if j < i then v.getD j 0 + h.getD j 0 else v.getD j 0 := by
  rw [List.getD_eq_getElem?_getD, addTo_getElem v h i j hj]; rfl
theorem addTo_succ (v h : List Word) (i : Nat) (hi : i < 8) : (addTo v h i).set i (v.getD i 0 + h.getD i 0) = addTo v h (i + 1) := by
  apply List.ext_getElem?
  intro j
  by_cases hj : j < 8
  · rw [addTo_getElem v h (i + 1) j hj, List.getElem?_set]
    split
    · subst_vars; simp [addTo_length, hi]
    · rename_i hne
      rw [addTo_getElem v h i j hj]
      by_cases h1 : j < i
      · rw [if_pos h1, if_pos (by omega)]
      · rw [if_neg h1, if_neg (by omega)]
  · rw [List.getElem?_eq_none (by simp [addTo_length]; omega), List.getElem?_eq_none (by simp [addTo_length]; omega)]
def mix (h : List Word) (b : List Byte) : List Word := addTo (roundsTo h (sched b) 64) h 8
theorem mix_length (h : List Word) (b : List Byte) : (mix h b).length = 8 := addTo_length _ _ _
def mixN (h : List Word) (b : List Byte) : Nat -> List Word
  | 0 => h
  | n + 1 => mixN (mix h (b.take 64)) (b.drop 64) n
def mixAll (h : List Word) (b : List Byte) : List Word := mixN h b (b.length / 64)
theorem mixAll_step (h : List Word) (b : List Byte) (hb : 64 <= b.length) : mixAll h b = mixAll (mix h (b.take 64)) (b.drop 64) := by
  unfold mixAll
  rw [List.length_drop, show b.length / 64 = (b.length - 64) / 64 + 1 by omega]
  rfl
theorem mixAll_end (h : List Word) (b : List Byte) (hb : b.length < 64) : mixAll h b = h := by
  unfold mixAll
  rw [Nat.div_eq_of_lt hb]
  rfl
def noughts (n : Nat) : Nat := (64 + 55 - n % 64) % 64
def tail (b : List Byte) : List Byte := b.drop (b.length - b.length % 64) ++ [128] ++ List.replicate (noughts b.length) 0 ++ be8 (8 * b.length)
def digest (h : List Word) : List Byte := (List.range 32).map fun k => ((h.getD (k / 4) 0) >>> (24 - 8 * (k % 4))).setWidth 8
def digestTo (h : List Word) (k : Nat) : List Byte := (digest h).take k ++ List.replicate (32 - k) 0
theorem digest_length (h : List Word) : (digest h).length = 32 := by simp [digest]
theorem digestTo_length (h : List Word) (k : Nat) (hk : k <= 32) : (digestTo h k).length = 32 := by simp [digestTo, digest_length]; omega
theorem digestTo_succ (h : List Word) (k : Nat) (hk : k < 32) : (digestTo h k).set k (((h.getD (k / 4) 0) >>> (24 - 8 * (k % 4))).setWidth 8) = digestTo h (k + 1) := by
  have e : (digest h)[k]? = some (((h.getD (k / 4) 0) >>> (24 - 8 * (k % 4))).setWidth 8) := by simp [digest, hk]
  unfold digestTo
  have hl : ((digest h).take k).length = k := by simp [digest_length]; omega
  rw [List.set_append, if_neg (by rw [hl]; omega), hl, Nat.sub_self, show (32 - k) = (32 - (k + 1)) + 1 by omega, List.replicate_succ, List.set_cons_zero, List.take_add_one, e]
  simp
def sum (b : List Byte) : List Byte := digest (mixAll (mixAll first b) (tail b))
theorem sum_length (b : List Byte) : (sum b).length = 32 := digest_length _
def tagBytes (name : List Byte) : List (List Byte) -> List Byte
  | parts => be8 name.length ++ name ++ (parts.map fun p => be8 p.length ++ p).flatten
def tagTo (name : List Byte) (parts : List (List Byte)) (k : Nat) : List Byte := be8 name.length ++ name ++ ((parts.take k).map fun p => be8 p.length ++ p).flatten
theorem tagTo_zero (name : List Byte) (parts : List (List Byte)) : tagTo name parts 0 = be8 name.length ++ name := by simp [tagTo]
theorem tagTo_succ (name : List Byte) (parts : List (List Byte)) (k : Nat) (q : List Byte) (h : parts[k]? = some q) : tagTo name parts (k + 1) = tagTo name parts k ++ be8 q.length ++ q := by
  simp [tagTo, List.take_add_one, h]
theorem tagTo_all (name : List Byte) (parts : List (List Byte)) (k : Nat) (h : parts.length <= k) : tagTo name parts k = tagBytes name parts := by
  simp [tagTo, tagBytes, List.take_of_length_le h]
theorem tagTo_le (name : List Byte) (parts : List (List Byte)) (k : Nat) : (tagTo name parts k).length <= (tagBytes name parts).length := by
  have e : tagBytes name parts = tagTo name parts k ++ ((parts.drop k).map fun p => be8 p.length ++ p).flatten := by
    unfold tagTo tagBytes
    rw [List.append_assoc (be8 name.length ++ name), <- List.flatten_append, <- List.map_append, List.take_append_drop]
  rw [e, List.length_append]
  exact Nat.le_add_right _ _
theorem flat_parts : ∀ (parts : List (List Byte)), 8 * parts.length <= ((parts.map fun p => be8 p.length ++ p).flatten).length
  | [] => by simp
  | p :: ps => by
    have := flat_parts ps
    simp only [List.map_cons, List.flatten_cons, List.length_append, be8_length, List.length_cons]
    omega
theorem tagBytes_parts (name : List Byte) (parts : List (List Byte)) : 8 * parts.length <= (tagBytes name parts).length := by
  have := flat_parts parts
  unfold tagBytes
  rw [List.length_append]
  omega
def tag (name : List Byte) (parts : List (List Byte)) : List Byte := sum (tagBytes name parts)
theorem tag_length (name : List Byte) (parts : List (List Byte)) : (tag name parts).length = 32 := sum_length _
end Go.Hsp

namespace Go.Hsp
def nStream : List Byte := [115, 116, 114, 101, 97, 109]
def streamTo (key : List Byte) (j : Nat) : List Byte := ((List.range j).map fun i => tag nStream [key, be8 i]).flatten
def stream (key : List Byte) (n : Nat) : List Byte := (streamTo key ((n + 31) / 32)).take n
def xorB (a b : List Byte) : List Byte := List.zipWith (· ^^^ ·) a b
end Go.Hsp

namespace Go.Osp
open Go.Hsp Go.Num
abbrev Stop := Nat × List Byte
def nRho : List Byte := [114, 104, 111]
def rho (s : Stop) (n : Nat) : List Byte := stream (tag nRho [s.2]) n
def zeros (n : Nat) : List Byte := List.replicate n 0
def put (r f : List Byte) : List Byte := r.take (r.length - f.length) ++ f
def opened (s : Stop) (r : List Byte) : List Byte := xorB (r ++ zeros 80) (rho s 720)
theorem M_lt : M < 18446744073709551616 := by decide
end Go.Osp

namespace Go.Osp
open Go.Hsp Go.Num
theorem base_lt (k : Nat) : base k < 18446744073709551616 := Nat.lt_trans ((right_iff _).1 (right_base k)).2.1 M_lt
end Go.Osp
namespace Go.Hsp
end Go.Hsp

namespace Go.Gsp
open Go.Osp
structure Pol where
  b : Int
  p : Int
  d : Int
  l : Int
  m : Int
deriving DecidableEq
structure Edge where
  f : Int
  t : Int
  c : Int
  r : Int
  pol : Pol
deriving DecidableEq
def noPol : Pol := ⟨0, 0, 0, 0, 0⟩
def noEdge : Edge := ⟨0, 0, 0, 0, noPol⟩
def inB (n lo hi : Int) : Bool := decide (lo <= n /\ n <= hi)
def polOk (p : Pol) : Bool := inB p.b 0 1125899906842624 && inB p.l 0 p.m && inB p.m 0 1125899906842624 && inB p.p 0 1000000 && inB p.d 0 1048576
def edgeOk (e : Edge) : Bool := inB e.f 0 11 && inB e.t 0 11 && decide (e.f ≠ e.t) && inB e.c 0 39 && inB e.r 1 1125899906842624 && polOk e.pol
def coinB (a : Int) : Bool := inB a 0 1125899906842624
def addC (a b : Int) : Int × Bool := if coinB a && coinB b && decide (a <= 1125899906842624 - b) then (a + b, true) else (0, false)
def cmpI (a b : Int) : Int := if a < b then -1 else if b < a then 1 else 0
def ordE (a b : Edge) : Int := if cmpI a.c b.c ≠ 0 then cmpI a.c b.c else cmpI a.f b.f
def RightAt (l : List Edge) (i : Nat) : Prop :=
  edgeOk (l.getD i noEdge) = true /\ (0 < i -> ordE (l.getD (i - 1) noEdge) (l.getD i noEdge) < 0) /\
    ((0 < i /\ (l.getD (i - 1) noEdge).c = (l.getD i noEdge).c) -> ¬ (1 < i /\ (l.getD (i - 2) noEdge).c = (l.getD i noEdge).c) /\ (l.getD (i - 1) noEdge).f = (l.getD i noEdge).t /\ (l.getD (i - 1) noEdge).t = (l.getD i noEdge).f /\ (l.getD (i - 1) noEdge).r = (l.getD i noEdge).r)
instance (l : List Edge) (i : Nat) : Decidable (RightAt l i) := by unfold RightAt; infer_instance
def RightP (l : List Edge) : Prop := ∀ i, i < l.length -> RightAt l i
instance (l : List Edge) : Decidable (RightP l) := by unfold RightP; infer_instance
def WayAt (l : List Edge) (i : Nat) : Prop := edgeOk (l.getD i noEdge) = true /\ (0 < i -> (l.getD (i - 1) noEdge).t = (l.getD i noEdge).f) /\ ∀ k, k <= i -> (l.getD k noEdge).f ≠ (l.getD i noEdge).t
instance (l : List Edge) (i : Nat) : Decidable (WayAt l i) := by unfold WayAt; infer_instance
def WayP (l : List Edge) : Prop := (1 <= l.length /\ l.length <= 8) /\ ∀ i, i < l.length -> WayAt l i
instance (l : List Edge) : Decidable (WayP l) := by unfold WayP; infer_instance
theorem inB_T {n lo hi : Int} (h : inB n lo hi = true) : lo <= n /\ n <= hi := of_decide_eq_true h
end Go.Gsp

namespace Go.Gsp
open Go.Osp
variable {a x am ex er : Int} {l : List (Int × Int)} {xs : List Edge} {j : Nat}
theorem addC_val {a b : Int} (h : (addC a b).2 = true) : (addC a b).1 = a + b /\ 0 <= a + b /\ a + b <= 1125899906842624 := by
  unfold addC at *
  split at h
  · rename_i hc
    simp only [coinB, Bool.and_eq_true, decide_eq_true_eq] at hc
    have h1 := inB_T hc.1.1
    have h2 := inB_T hc.1.2
    exact ⟨by rw [if_pos (by simp [coinB, hc])], by omega, by omega⟩
  · cases h
end Go.Gsp
namespace Go.Gsp
end Go.Gsp
namespace Go.Gsp
variable {a x : Int}
end Go.Gsp
namespace Go.Gsp
variable {a x : Int}
end Go.Gsp
namespace Go.Gsp
open Go.Osp Go.Num
structure Cnd where
  fr : Int
  id : Int
  am : Int
  pt : Nat
  ex : Int
deriving DecidableEq
def noCnd : Cnd := ⟨0, 0, 0, 0, 0⟩
end Go.Gsp

namespace Go.Lsp
open Go.Gsp Go.Num
structure Seat where
  ch : Int
  p0 : Int
  p1 : Int
  h0 : Int
  h1 : Int
deriving DecidableEq
def noSeat : Seat := ⟨0, 0, 0, 0, 0⟩
structure Hold where
  am : Int
  pt : Nat
deriving DecidableEq
def noHold : Hold := ⟨0, 0⟩
structure Spot where
  ch : Int
  side : Int
  id : Int
deriving DecidableEq
def noSpot : Spot := ⟨0, 0, 0⟩
structure Leg where
  ch : Int
  side : Int
  am : Int
deriving DecidableEq
def noLeg : Leg := ⟨0, 0, 0⟩
def Seat.p (s : Seat) (i : Nat) : Int := if i = 0 then s.p0 else s.p1
def Seat.h (s : Seat) (i : Nat) : Int := if i = 0 then s.h0 else s.h1
def Seat.setH (s : Seat) (i : Nat) (v : Int) : Seat := if i = 0 then { s with h0 := v } else { s with h1 := v }
def coinL (n : Int) : Bool := decide (0 <= n /\ n <= 1125899906842624)
def mayL (n : Nat) (s : Seat) : Prop := (0 <= s.p0 /\ s.p0 < n /\ 0 <= s.h0 /\ s.h0 <= 1125899906842624) /\ (0 <= s.p1 /\ s.p1 < n /\ 0 <= s.h1 /\ s.h1 <= 1125899906842624) /\ 0 <= s.ch /\ s.ch < 40 /\ s.p0 ≠ s.p1
instance mayL_dec (n : Nat) (s : Seat) : Decidable (mayL n s) := by unfold mayL; infer_instance
theorem mayL_all {n : Nat} {s : Seat} : mayL n s ↔ (∀ i, i < 2 -> 0 <= s.p i /\ s.p i < n /\ 0 <= s.h i /\ s.h i <= 1125899906842624) /\ 0 <= s.ch /\ s.ch < 40 /\ s.p0 ≠ s.p1 := by
  unfold mayL
  constructor
  · rintro ⟨h0, h1, h2⟩
    refine ⟨fun i hi => ?_, h2⟩
    have : i = 0 \/ i = 1 := by omega
    rcases this with rfl | rfl
    · exact h0
    · exact h1
  · rintro ⟨h, h2⟩
    exact ⟨h 0 (by omega), h 1 (by omega), h2⟩
theorem perm_sumI {a b : List Int} (h : a.Perm b) : a.sum = b.sum := by
  induction h with
  | nil => rfl
  | cons x _ ih => simp [ih]
  | swap x y l => simp; omega
  | trans _ _ h1 h2 => exact h1.trans h2
section
variable {κ β : Type}
def sumF (f : κ -> β -> Int) (l : List (Nat × κ × β)) : Int := (l.map fun x => f x.2.1 x.2.2).sum
theorem sumF_nil (f : κ -> β -> Int) : sumF f [] = 0 := rfl
theorem sumF_cons (f : κ -> β -> Int) (x : Nat × κ × β) (l : List (Nat × κ × β)) : sumF f (x :: l) = f x.2.1 x.2.2 + sumF f l := rfl
theorem sumF_perm {f : κ -> β -> Int} {a b : List (Nat × κ × β)} (h : a.Perm b) : sumF f a = sumF f b := by
  unfold sumF
  exact perm_sumI (h.map _)
theorem sumF_nonneg {f : κ -> β -> Int} : ∀ {l : List (Nat × κ × β)}, (∀ x ∈ l, 0 <= f x.2.1 x.2.2) -> 0 <= sumF f l
  | [], _ => by simp [sumF]
  | x :: l, h => by
    have h1 := sumF_nonneg (l := l) (fun y hy => h y (List.mem_cons_of_mem _ hy))
    have h2 := h x List.mem_cons_self
    rw [sumF_cons]
    omega
end
def heldF (ch side : Int) (k : Spot) (h : Hold) : Int := if k.ch = ch /\ k.side = side then h.am else 0
abbrev HM := List (Nat × Spot × Hold)
abbrev SM := List (Nat × Int × Seat)
def heldL (lh : HM) (ch side : Int) : Int := sumF (heldF ch side) lh
def worthF (lh : HM) (party : Int) (ch : Int) (s : Seat) : Int := (if s.p0 = party then s.h0 + heldL lh ch 0 else 0) + (if s.p1 = party then s.h1 + heldL lh ch 1 else 0)
def ownL (own : List Int) (party : Int) : Int := if 0 <= party /\ party < own.length then own.getD party.toNat 0 else 0
def worthL (own : List Int) (ls : SM) (lh : HM) (party : Int) : Int := ownL own party + sumF (worthF lh party) ls
structure Led where
  own : List Int
  ls : SM
  cs : Nat
  lh : HM
  ck : Nat
  lost : Int
deriving DecidableEq
def giveO (own : List Int) (s : Seat) (j : Nat) (am fee : Int) : List Int := own.set (s.p j).toNat (own.getD (s.p j).toNat 0 - (am + fee))
theorem giveO_len (own : List Int) (s : Seat) (j : Nat) (am fee : Int) : (giveO own s j am fee).length = own.length := by simp [giveO]
theorem giveO_ne {own : List Int} {s : Seat} {j k : Nat} {am fee : Int} (h0 : 0 <= s.p j) (h1 : 0 <= s.p k) (hn : s.p j ≠ s.p k) : (giveO own s j am fee).getD (s.p k).toNat 0 = own.getD (s.p k).toNat 0 := by
  unfold giveO
  rw [List.getD_eq_getElem?_getD, List.getElem?_set_ne (by omega), <- List.getD_eq_getElem?_getD]
def updM {κ β : Type} [DecidableEq κ] (key : κ) (u : β) (l : List (Nat × κ × β)) : List (Nat × κ × β) := l.map fun y => if y.2.1 = key then (y.1, key, u) else y
def delM {κ β : Type} [DecidableEq κ] (key : κ) (l : List (Nat × κ × β)) : List (Nat × κ × β) := l.filter fun y => decide (y.2.1 ≠ key)
theorem updM_new {κ β : Type} [DecidableEq κ] {key : κ} {z u : β} {l : List (Nat × κ × β)} {b : Nat} (h : ∀ x ∈ l, x.2.1 ≠ key) : updM key u (l ++ [(b, key, z)]) = l ++ [(b, key, u)] := by
  unfold updM
  rw [List.map_append]
  have : (l.map fun y => if y.2.1 = key then (y.1, key, u) else y) = l.map id := List.map_congr_left fun y hy => by rw [if_neg (h y hy)]; rfl
  rw [this, List.map_id]
  simp
def offerOk (side id am : Int) (pt : Nat) : Prop := (0 <= side /\ side <= 1) /\ 1 <= id /\ (1 <= am /\ am <= 1125899906842624) /\ pt ≠ 1 /\ right pt = true
def newOk (own : List Int) : Prop := (1 <= own.length /\ own.length <= 12) /\ (∀ x ∈ own, 0 <= x) /\ own.sum <= 1125899906842624
instance newOk_dec (own : List Int) : Decidable (newOk own) := by unfold newOk; infer_instance
theorem sum_take_le : ∀ (l : List Int), (∀ x ∈ l, 0 <= x) -> ∀ k, 0 <= (l.take k).sum /\ (l.take k).sum <= l.sum
  | [], _, k => by simp
  | x :: l, h, 0 => by
    have h1 := sum_take_le l (fun y hy => h y (List.mem_cons_of_mem _ hy)) l.length
    rw [List.take_length] at h1
    have h2 := h x List.mem_cons_self
    simp only [List.take_zero, List.sum_nil, List.sum_cons]
    omega
  | x :: l, h, k + 1 => by
    have h1 := sum_take_le l (fun y hy => h y (List.mem_cons_of_mem _ hy)) k
    have h2 := h x List.mem_cons_self
    simp only [List.take_succ_cons, List.sum_cons]
    omega
theorem sum_take_next {l : List Int} {k : Nat} (h : k < l.length) : (l.take (k + 1)).sum = (l.take k).sum + l.getD k 0 := by
  rw [List.take_add_one, List.sum_append]
  simp [h]
theorem new_bad {own : List Int} {k : Nat} (hk : k < own.length) (h : (addC (own.take k).sum (own.getD k 0)).2 = false) : ¬ newOk own := by
  rintro ⟨_, h1, h2⟩
  have h3 := sum_take_le own h1 k
  have h4 := sum_take_le own h1 (k + 1)
  rw [sum_take_next hk] at h4
  have h5 : 0 <= own.getD k 0 := h1 _ (by rw [List.getD_eq_getElem?_getD, List.getElem?_eq_getElem hk]; exact List.getElem_mem hk)
  unfold addC at h
  rw [if_pos] at h
  · cases h
  · simp [coinB, inB, -List.getD_eq_getElem?_getD]
    omega
theorem new_next {own : List Int} {k : Nat} (hk : k < own.length) (hn : ∀ j, j < k -> 0 <= own.getD j 0) (h : (addC (own.take k).sum (own.getD k 0)).2 = true) : (addC (own.take k).sum (own.getD k 0)).1 = (own.take (k + 1)).sum /\ (own.take (k + 1)).sum <= 1125899906842624 /\ ∀ j, j < k + 1 -> 0 <= own.getD j 0 := by
  have h1 := addC_val h
  rw [sum_take_next hk]
  refine ⟨h1.1, h1.2.2, fun j hj => ?_⟩
  by_cases e : j = k
  · subst e
    unfold addC at h
    split at h
    · rename_i hc
      simp only [coinB, Bool.and_eq_true] at hc
      exact (inB_T hc.1.2).1
    · cases h
  · exact hn j (by omega)
def legOk (g : Leg) : Prop := (0 <= g.side /\ g.side <= 1) /\ 1 <= g.am /\ g.am <= 1125899906842624
instance legOk_dec (g : Leg) : Decidable (legOk g) := by unfold legOk; infer_instance
def legS (s : Seat) (g : Leg) : Seat := (s.setH g.side.toNat (s.h g.side.toNat - g.am)).setH (1 - g.side).toNat ((s.setH g.side.toNat (s.h g.side.toNat - g.am)).h (1 - g.side).toNat + g.am)
structure Pair where
  a : Int
  b : Int
deriving DecidableEq
def Pair.ix (d : Pair) (i : Nat) : Int := if i = 0 then d.a else d.b
def backO (own : List Int) (s : Seat) (fee : Pair) : Nat -> List Int
  | 0 => own
  | k + 1 => giveO (backO own s fee k) s k (-s.h k) (fee.ix k)
def backF (lost : Int) (fee : Pair) : Nat -> Int
  | 0 => lost
  | k + 1 => backF lost fee k + fee.ix k
def totalL (own : List Int) (ls : SM) (lh : HM) (k : Nat) : Int := ((List.range k).map fun (i : Nat) => worthL own ls lh (i : Int)).sum
theorem totalL_next (own : List Int) (ls : SM) (lh : HM) (k : Nat) : totalL own ls lh (k + 1) = totalL own ls lh k + worthL own ls lh (k : Int) := by
  unfold totalL
  rw [List.range_succ, List.map_append, List.sum_append]
  simp
theorem backO_len (own : List Int) (s : Seat) (fee : Pair) : ∀ k, (backO own s fee k).length = own.length
  | 0 => rfl
  | k + 1 => by rw [backO, giveO_len, backO_len own s fee k]
theorem backO_at {own : List Int} {s : Seat} {fee : Pair} {k : Nat} (hk : k < 2) (h0 : 0 <= s.p0) (h1 : 0 <= s.p1) (hn : s.p0 ≠ s.p1) : (backO own s fee k).getD (s.p k).toNat 0 = own.getD (s.p k).toNat 0 := by
  have : k = 0 \/ k = 1 := by omega
  rcases this with rfl | rfl
  · rfl
  · exact giveO_ne (j := 0) (k := 1) h0 h1 hn
theorem backF_le {lost : Int} {fee : Pair} {k : Nat} (hk : k <= 2) (h : 0 <= lost /\ lost <= 1125899906842624) (ha : 0 <= fee.a /\ fee.a <= 1125899906842624) (hb : 0 <= fee.b /\ fee.b <= 1125899906842624) : 0 <= backF lost fee k /\ backF lost fee k <= 1125899906842624 * (k + 1) := by
  have : k = 0 \/ k = 1 \/ k = 2 := by omega
  rcases this with rfl | rfl | rfl
  · simp [backF]; omega
  · simp [backF, Pair.ix]; omega
  · simp [backF, Pair.ix]; omega
def seatOk (n : Nat) (s : Seat) : Prop := (0 <= s.p0 /\ s.p0 < n) /\ (0 <= s.p1 /\ s.p1 < n) /\ s.p0 ≠ s.p1 /\ (0 <= s.h0 /\ s.h0 <= 1125899906842624) /\ (0 <= s.h1 /\ s.h1 <= 1125899906842624)
theorem seatOk_at {n : Nat} {s : Seat} (h : seatOk n s) {k : Nat} (hk : k < 2) : (0 <= s.p k /\ s.p k < n) /\ 0 <= s.h k /\ s.h k <= 1125899906842624 := by
  obtain ⟨a, b, c, d, e⟩ := h
  have : k = 0 \/ k = 1 := by omega
  rcases this with rfl | rfl
  · exact ⟨a, d⟩
  · exact ⟨b, e⟩
def addK (s : Seat) (d : Pair) : Nat -> Seat
  | 0 => s
  | k + 1 => (addK s d k).setH k ((addK s d k).h k + d.ix k)
theorem setH_p (s : Seat) (i j : Nat) (v : Int) : (s.setH i v).p j = s.p j := by
  unfold Seat.setH
  by_cases h : i = 0
  · rw [if_pos h]; rfl
  · rw [if_neg h]; rfl
theorem addK_p (s : Seat) (d : Pair) (j : Nat) : ∀ k, (addK s d k).p j = s.p j
  | 0 => rfl
  | k + 1 => by rw [addK, setH_p, addK_p s d j k]
theorem addK_h {s : Seat} {d : Pair} {k : Nat} (hk : k < 2) : (addK s d k).h k = s.h k := by
  have : k = 0 \/ k = 1 := by omega
  rcases this with rfl | rfl <;> rfl
theorem setH_h {s : Seat} {i : Nat} {v : Int} (hi : i < 2) : (s.setH i v).h i = v := by
  have : i = 0 \/ i = 1 := by omega
  rcases this with rfl | rfl <;> rfl
def spO (own : List Int) (s : Seat) (d fee : Pair) : Nat -> List Int
  | 0 => own
  | k + 1 => giveO (spO own s d fee k) s k (d.ix k) (fee.ix k)
theorem spO_len (own : List Int) (s : Seat) (d fee : Pair) : ∀ k, (spO own s d fee k).length = own.length
  | 0 => rfl
  | k + 1 => by rw [spO, giveO_len, spO_len own s d fee k]
theorem spO_at {own : List Int} {s : Seat} {d fee : Pair} {k : Nat} (hk : k < 2) (h0 : 0 <= s.p 0) (h1 : 0 <= s.p 1) (hn : s.p 0 ≠ s.p 1) : (spO own s d fee k).getD (s.p k).toNat 0 = own.getD (s.p k).toNat 0 := by
  have : k = 0 \/ k = 1 := by omega
  rcases this with rfl | rfl
  · rfl
  · exact giveO_ne (j := 0) (k := 1) h0 h1 hn
def spOk (d fee : Pair) : Prop := ∀ k, k < 2 -> (-1125899906842624 <= d.ix k /\ d.ix k <= 1125899906842624) /\ 0 <= fee.ix k /\ fee.ix k <= 1125899906842624
def spNo (own : List Int) (s : Seat) (d fee : Pair) (k : Nat) : Prop := s.h k + d.ix k < 0 \/ own.getD (s.p k).toNat 0 < d.ix k + fee.ix k
end Go.Lsp

namespace Go.Hsp
theorem choice_eq (a b c : Word) : a &&& b ^^^ ~~~a &&& c = c ^^^ a &&& (b ^^^ c) := by
  apply BitVec.eq_of_getLsbD_eq
  intro i hi
  simp only [BitVec.getLsbD_xor, BitVec.getLsbD_and, BitVec.getLsbD_not, hi, decide_true, Bool.true_and]
  cases a.getLsbD i <;> cases b.getLsbD i <;> cases c.getLsbD i <;> rfl
theorem most_eq (a b c : Word) : a &&& b ^^^ a &&& c ^^^ b &&& c = a &&& b ||| c &&& (a ||| b) := by
  apply BitVec.eq_of_getLsbD_eq
  intro i hi
  simp only [BitVec.getLsbD_xor, BitVec.getLsbD_and, BitVec.getLsbD_or]
  cases a.getLsbD i <;> cases b.getLsbD i <;> cases c.getLsbD i <;> rfl
theorem rot_comm (x : Word) (k : Nat) : x >>> k ||| x <<< (32 - k) = rot x k := by rw [rot, BitVec.or_comm]
theorem be32_drop (b : List Byte) (k : Nat) : be32 (b.drop k) = (b.getD k 0).setWidth 32 <<< 24 ||| (b.getD (k + 1) 0).setWidth 32 <<< 16 ||| (b.getD (k + 2) 0).setWidth 32 <<< 8 ||| (b.getD (k + 3) 0).setWidth 32 := by
  simp only [be32, List.getD_eq_getElem?_getD, List.getElem?_drop, Nat.add_zero]
def padB (b : List Byte) : List Byte := b ++ [128] ++ List.replicate (noughts b.length) 0 ++ be8 (8 * b.length)
theorem padB_length (b : List Byte) : (padB b).length = b.length + 1 + noughts b.length + 8 := by simp [padB, be8_length]; omega
theorem padB_mod (b : List Byte) : (padB b).length % 64 = 0 := by rw [padB_length, noughts]; omega
theorem mixAll_append : ∀ (m : Nat) (h : List Word) (p t : List Byte), p.length = 64 * m -> mixAll h (p ++ t) = mixAll (mixAll h p) t
  | 0, h, p, t, hp => by
    have : p = [] := List.eq_nil_of_length_eq_zero (by omega)
    subst this
    rw [mixAll_end h [] (by simp)]; rfl
  | m + 1, h, p, t, hp => by
    rw [mixAll_step h (p ++ t) (by simp; omega), mixAll_step h p (by omega), List.take_append_of_le_length (by omega), List.drop_append_of_le_length (by omega)]
    exact mixAll_append m _ _ t (by simp; omega)
theorem mixAll_rest (m : Nat) (h : List Word) (p t : List Byte) (hp : p.length = 64 * m) (ht : t.length < 64) : mixAll h (p ++ t) = mixAll h p := by
  rw [mixAll_append m h p t hp, mixAll_end _ t ht]
theorem sum_pad (b : List Byte) : sum b = digest (mixAll first (padB b)) := by
  have hb : b = b.take (b.length - b.length % 64) ++ b.drop (b.length - b.length % 64) := (List.take_append_drop _ _).symm
  have hl : (b.take (b.length - b.length % 64)).length = 64 * (b.length / 64) := by rw [List.length_take]; omega
  have e1 : mixAll first b = mixAll first (b.take (b.length - b.length % 64)) := by
    conv => lhs; rw [hb]
    exact mixAll_rest _ _ _ _ hl (by rw [List.length_drop]; omega)
  have e2 : padB b = b.take (b.length - b.length % 64) ++ tail b := by
    unfold padB tail
    rw [<- List.append_assoc, <- List.append_assoc, <- List.append_assoc, List.take_append_drop]
  rw [sum, e1, e2, mixAll_append _ _ _ _ hl]
end Go.Hsp

