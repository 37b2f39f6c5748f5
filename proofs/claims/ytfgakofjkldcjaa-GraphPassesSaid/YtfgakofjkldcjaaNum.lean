/- Plain numbers: powers modulo a number, primes by Lucas' test, the order of the points. No program in sight. -/
namespace Go.Num
def Prime (p : Nat) : Prop := 2 ≤ p ∧ ∀ d, d ∣ p → d = 1 ∨ d = p
theorem Prime.coprime {p x : Nat} (h : Prime p) (hx : ¬ p ∣ x) : Nat.Coprime p x := by
  rcases h.2 (Nat.gcd p x) (Nat.gcd_dvd_left p x) with h1 | h1
  · exact h1
  · exact absurd (h1 ▸ Nat.gcd_dvd_right p x) hx
theorem Prime.dvd_mul {p x y : Nat} (h : Prime p) (hd : p ∣ x * y) : p ∣ x ∨ p ∣ y := by
  by_cases hx : p ∣ x
  · exact .inl hx
  · exact .inr ((h.coprime hx).dvd_of_dvd_mul_left hd)
/-- Powers modulo, by squaring. -/
def pm (m : Nat) : Nat → Nat → Nat → Nat → Nat
  | 0, _, _, out => out
  | f + 1, a, n, out => pm m f (a * a % m) (n / 2) (if n % 2 = 1 then out * a % m else out)
theorem pm_eq (m : Nat) : ∀ (f a n out : Nat), n < 2 ^ f → out < m → pm m f a n out = out * a ^ n % m
  | 0, a, n, out, h, ho => by
    have : n = 0 := by simpa using h
    subst this
    simp [pm, Nat.mod_eq_of_lt ho]
  | f + 1, a, n, out, h, ho => by
    have hm : 0 < m := by omega
    have hn : n / 2 < 2 ^ f := by rw [Nat.pow_succ] at h; omega
    rw [pm]
    by_cases hp : n % 2 = 1
    · rw [if_pos hp, pm_eq m f _ _ _ hn (Nat.mod_lt _ hm)]
      have e : a ^ n = a * (a * a) ^ (n / 2) := by
        have hn2 : n = 2 * (n / 2) + 1 := by omega
        conv => lhs; rw [hn2]
        rw [Nat.pow_succ, Nat.pow_mul, Nat.pow_two, Nat.mul_comm]
      rw [e, Nat.mul_mod, Nat.mod_mod, ← Nat.pow_mod, ← Nat.mul_mod, Nat.mul_assoc]
    · rw [if_neg hp, pm_eq m f _ _ _ hn ho]
      have e : a ^ n = (a * a) ^ (n / 2) := by
        have hn2 : n = 2 * (n / 2) := by omega
        conv => lhs; rw [hn2]
        rw [Nat.pow_mul, Nat.pow_two]
      rw [e, Nat.mul_mod, ← Nat.pow_mod, ← Nat.mul_mod]
theorem pow_mod_of (m a n : Nat) (f : Nat) (v : Nat) (hn : n < 2 ^ f) (hm : 1 < m) (h : pm m f a n 1 = v) : a ^ n % m = v := by
  rw [← h, pm_eq m f a n 1 hn hm, Nat.one_mul]
/-- A function from numbers below n to numbers below n that takes none twice takes all. -/
theorem pigeon : ∀ (n : Nat) (f : Nat → Nat), (∀ i, i < n → f i < n) → (∀ i j, i < n → j < n → f i = f j → i = j) → ∀ y, y < n → ∃ i, i < n ∧ f i = y
  | 0, _, _, _, y, hy => by omega
  | n + 1, f, hf, hi, y, hy => by
    by_cases hyn : f n = y
    · exact ⟨n, by omega, hyn⟩
    · -- where n is taken, put f n in its place
      have hf' : ∀ i, i < n → (if f i = n then f n else f i) < n := by
        intro i h
        split
        · rename_i he
          have h1 := hf n (by omega)
          have h2 : f n ≠ n := fun h3 => by have := hi i n (by omega) (by omega) (by omega); omega
          omega
        · have := hf i (by omega); omega
      have hi' : ∀ i j, i < n → j < n → (if f i = n then f n else f i) = (if f j = n then f n else f j) → i = j := by
        intro i j h1 h2 he
        split at he <;> split at he
        · exact hi i j (by omega) (by omega) (by omega)
        · have := hi n j (by omega) (by omega) he; omega
        · have := hi i n (by omega) (by omega) he; omega
        · exact hi i j (by omega) (by omega) he
      have ih := pigeon n (fun i => if f i = n then f n else f i) hf' hi'
      by_cases hy2 : y < n
      · obtain ⟨i, h1, h2⟩ := ih y hy2
        by_cases hh : f i = n
        · rw [if_pos hh] at h2; exact absurd h2 hyn
        · rw [if_neg hh] at h2; exact ⟨i, by omega, h2⟩
      · have hyn' : y = n := by omega
        subst hyn'
        obtain ⟨i, h1, h2⟩ := ih (f y) (by have := hf y (by omega); omega)
        by_cases hh : f i = y
        · exact ⟨i, by omega, hh⟩
        · rw [if_neg hh] at h2
          have := hi i y (by omega) (by omega) h2
          omega
/-- The least number that has a property. -/
theorem least {p : Nat → Prop} [DecidablePred p] (n : Nat) (h : p n) : ∃ k, k ≤ n ∧ p k ∧ ∀ j, j < k → ¬ p j := by
  induction n using Nat.strongRecOn with
  | ind n ih =>
    by_cases hs : ∃ j, j < n ∧ p j
    · obtain ⟨j, hj, hp⟩ := hs
      obtain ⟨k, h1, h2, h3⟩ := ih j hj hp
      exact ⟨k, by omega, h2, h3⟩
    · exact ⟨n, Nat.le_refl _, h, fun j hj hp => hs ⟨j, hj, hp⟩⟩
theorem pow_order {a m d k : Nat} (hm : 1 < m) (h : a ^ d % m = 1) (hk : a ^ k % m = 1) (hl : ∀ j, j < d → 0 < j → ¬ a ^ j % m = 1) (hd : 0 < d) : d ∣ k := by
  rw [Nat.dvd_iff_mod_eq_zero]
  have e : a ^ k % m = a ^ (k % d) % m := by
    have hk2 : k = d * (k / d) + k % d := (Nat.div_add_mod k d).symm
    conv => lhs; rw [hk2]
    rw [Nat.pow_add, Nat.pow_mul, Nat.mul_mod, Nat.pow_mod (a ^ d), h, Nat.one_pow, Nat.mod_eq_of_lt hm, Nat.one_mul, Nat.mod_mod]
  by_cases hz : k % d = 0
  · exact hz
  · exact absurd (e ▸ hk) (hl _ (Nat.mod_lt _ hd) (by omega))
theorem dvd_prod : ∀ (fs : List Nat) (m : Nat), (∀ r ∈ fs, Prime r) → 1 < m → m ∣ fs.foldr (· * ·) 1 → ∃ r ∈ fs, r ∣ m
  | [], m, _, hm, hd => by
    have : m = 1 := Nat.dvd_one.1 hd
    omega
  | r :: fs, m, hp, hm, hd => by
    by_cases hr : r ∣ m
    · exact ⟨r, by simp, hr⟩
    · have hc : Nat.Coprime m r := ((hp r (by simp)).coprime hr).symm
      obtain ⟨q, h1, h2⟩ := dvd_prod fs m (fun q hq => hp q (by simp [hq])) hm (hc.dvd_of_dvd_mul_left hd)
      exact ⟨q, by simp [h1], h2⟩
/-- Lucas' test. -/
theorem lucas (n a : Nat) (fs : List Nat) (hn : 2 < n) (hf : fs.foldr (· * ·) 1 = n - 1) (hp : ∀ r ∈ fs, Prime r) (h1 : a ^ (n - 1) % n = 1) (h2 : ∀ r ∈ fs, ¬ a ^ ((n - 1) / r) % n = 1) : Prime n := by
  obtain ⟨d, hd, ⟨hd0, hd1⟩, hl⟩ := least (p := fun k => 0 < k ∧ a ^ k % n = 1) (n - 1) ⟨by omega, h1⟩
  have hl' : ∀ j, j < d → 0 < j → ¬ a ^ j % n = 1 := fun j hj h0 h => hl j hj ⟨h0, h⟩
  have hdn : d ∣ n - 1 := pow_order (by omega) hd1 h1 hl' hd0
  have hde : d = n - 1 := by
    obtain ⟨m, hm⟩ := hdn
    by_cases hm1 : m = 1
    · rw [hm, hm1, Nat.mul_one]
    · have hm0 : m ≠ 0 := fun h => by rw [h] at hm; simp at hm; omega
      obtain ⟨r, hr, t, ht⟩ := dvd_prod fs m hp (by omega) (by rw [hf, hm]; exact Nat.dvd_mul_left m d)
      have hr0 : 0 < r := by have := (hp r hr).1; omega
      have e : (n - 1) / r = d * t := by
        rw [hm, ht, Nat.mul_left_comm, Nat.mul_comm r, Nat.mul_div_cancel _ hr0]
      exact absurd (by rw [e, Nat.pow_mul, Nat.pow_mod, hd1, Nat.one_pow, Nat.mod_eq_of_lt (by omega)]) (h2 r hr)
  subst hde
  -- every number below n is a power
  have unit : ∀ i, i ≤ n - 1 → (a ^ i % n) * (a ^ (n - 1 - i)) % n = 1 := by
    intro i hi
    rw [Nat.mul_mod, Nat.mod_mod, ← Nat.mul_mod, ← Nat.pow_add, show i + (n - 1 - i) = n - 1 by omega, h1]
  have pos : ∀ i, i ≤ n - 1 → 0 < a ^ i % n := by
    intro i hi
    rcases Nat.eq_zero_or_pos (a ^ i % n) with h | h
    · have := unit i hi; rw [h] at this; simp at this
    · exact h
  have inj : ∀ i j, i < n - 1 → j < n - 1 → i ≤ j → a ^ i % n = a ^ j % n → i = j := by
    intro i j hi hj hij he
    have h3 : a ^ (j - i) % n = 1 := by
      have hu := unit i (by omega)
      rw [he] at hu
      rw [Nat.mul_mod, Nat.mod_mod, ← Nat.mul_mod, ← Nat.pow_add, show j + (n - 1 - i) = (n - 1) + (j - i) by omega, Nat.pow_add, Nat.mul_mod, h1, Nat.one_mul, Nat.mod_mod] at hu
      exact hu
    by_cases hz : j - i = 0
    · omega
    · exact absurd h3 (hl' _ (by omega) (by omega))
  have all := pigeon (n - 1) (fun i => a ^ i % n - 1) (fun i hi => by have := pos i (by omega); have := Nat.mod_lt (a ^ i) (show 0 < n by omega); omega)
    (fun i j hi hj he => by
      have h3 := pos i (by omega)
      have h4 := pos j (by omega)
      rcases Nat.le_total i j with h | h
      · exact inj i j hi hj h (by omega)
      · exact (inj j i hj hi h (by omega)).symm)
  refine ⟨by omega, fun e he => ?_⟩
  by_cases he1 : e = n
  · exact .inr he1
  · have hele : e ≤ n := Nat.le_of_dvd (by omega) he
    have he0 : 0 < e := Nat.pos_of_dvd_of_pos he (by omega)
    obtain ⟨i, hi, hie⟩ := all (e - 1) (by omega)
    have h3 := pos i (by omega)
    have hu := unit i (by omega)
    rw [show a ^ i % n = e by omega] at hu
    left
    have h5 : e ∣ 1 := by
      have h6 : e ∣ e * a ^ (n - 1 - i) % n := (Nat.dvd_mod_iff he).2 (Nat.dvd_mul_right _ _)
      rwa [hu] at h6
    exact Nat.dvd_one.1 h5
theorem lucas_pm (n a f : Nat) (fs : List Nat) (hn : 2 < n) (hff : n < 2 ^ f) (hf : fs.foldr (· * ·) 1 = n - 1) (hp : ∀ r ∈ fs, Prime r) (h1 : pm n f a (n - 1) 1 = 1) (h2 : ∀ r ∈ fs, ¬ pm n f a ((n - 1) / r) 1 = 1) : Prime n := by
  refine lucas n a fs hn hf hp ?_ ?_
  · rw [pm_eq n f a _ 1 (by omega) (by omega), Nat.one_mul] at h1
    exact h1
  · intro r hr
    have := h2 r hr
    rw [pm_eq n f a _ 1 (Nat.lt_of_le_of_lt (Nat.div_le_self _ _) (by omega)) (by omega), Nat.one_mul] at this
    exact this
end Go.Num
