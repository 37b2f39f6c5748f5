/- The order of the points is prime; what follows for points and scalars. No program in sight. -/
import Derived.Test.YtfgakofjkldcjaaNum
namespace Go.Num
theorem small_prime (p : Nat) (h2 : 2 ≤ p) (h : (List.range p).all (fun d => decide (d < 2) || decide (p % d ≠ 0)) = true) : Prime p := by
  refine ⟨h2, fun d hd => ?_⟩
  have hle := Nat.le_of_dvd (by omega) hd
  by_cases h1 : d = p
  · exact .inr h1
  · rw [List.all_eq_true] at h
    have := h d (List.mem_range.2 (by omega))
    rw [Nat.dvd_iff_mod_eq_zero] at hd
    have h0 : d ≠ 0 := fun h => by subst h; simp at hd; omega
    simp [hd] at this
    left; omega
theorem prime_2 : Prime 2 := small_prime 2 (by decide) (by decide +kernel)
theorem prime_3 : Prime 3 := small_prime 3 (by decide) (by decide +kernel)
theorem prime_5 : Prime 5 := small_prime 5 (by decide) (by decide +kernel)
theorem prime_7 : Prime 7 := small_prime 7 (by decide) (by decide +kernel)
theorem prime_11 : Prime 11 := small_prime 11 (by decide) (by decide +kernel)
theorem prime_17 : Prime 17 := small_prime 17 (by decide) (by decide +kernel)
theorem prime_23 : Prime 23 := small_prime 23 (by decide) (by decide +kernel)
theorem prime_73 : Prime 73 := small_prime 73 (by decide) (by decide +kernel)
theorem prime_821 : Prime 821 := small_prime 821 (by decide) (by decide +kernel)
theorem prime_2311 : Prime 2311 := small_prime 2311 (by decide) (by decide +kernel)
theorem prime_172411 : Prime 172411 := by
  refine lucas_pm 172411 3 18 [2, 3, 5, 7, 821] (by decide) (by decide) (by decide) ?_ (by decide +kernel) ?_
  · intro r hr
    simp at hr
    rcases hr with rfl | rfl | rfl | rfl | rfl
    · exact prime_2
    · exact prime_3
    · exact prime_5
    · exact prime_7
    · exact prime_821
  · intro r hr
    simp at hr
    rcases hr with rfl | rfl | rfl | rfl | rfl
    · decide +kernel
    · decide +kernel
    · decide +kernel
    · decide +kernel
    · decide +kernel
theorem prime_7930907 : Prime 7930907 := by
  refine lucas_pm 7930907 2 23 [2, 23, 172411] (by decide) (by decide) (by decide) ?_ (by decide +kernel) ?_
  · intro r hr
    simp at hr
    rcases hr with rfl | rfl | rfl
    · exact prime_2
    · exact prime_23
    · exact prime_172411
  · intro r hr
    simp at hr
    rcases hr with rfl | rfl | rfl
    · decide +kernel
    · decide +kernel
    · decide +kernel
theorem prime_11864636873 : Prime 11864636873 := by
  refine lucas_pm 11864636873 5 34 [2, 2, 2, 11, 17, 7930907] (by decide) (by decide) (by decide) ?_ (by decide +kernel) ?_
  · intro r hr
    simp at hr
    rcases hr with rfl | rfl | rfl | rfl
    · exact prime_2
    · exact prime_11
    · exact prime_17
    · exact prime_7930907
  · intro r hr
    simp at hr
    rcases hr with rfl | rfl | rfl | rfl
    · decide +kernel
    · decide +kernel
    · decide +kernel
    · decide +kernel
theorem prime_1732236983459 : Prime 1732236983459 := by
  refine lucas_pm 1732236983459 2 41 [2, 73, 11864636873] (by decide) (by decide) (by decide) ?_ (by decide +kernel) ?_
  · intro r hr
    simp at hr
    rcases hr with rfl | rfl | rfl
    · exact prime_2
    · exact prime_73
    · exact prime_11864636873
  · intro r hr
    simp at hr
    rcases hr with rfl | rfl | rfl
    · decide +kernel
    · decide +kernel
    · decide +kernel
theorem prime_249442125618097 : Prime 249442125618097 := by
  refine lucas_pm 249442125618097 5 48 [2, 2, 2, 2, 3, 3, 1732236983459] (by decide) (by decide) (by decide) ?_ (by decide +kernel) ?_
  · intro r hr
    simp at hr
    rcases hr with rfl | rfl | rfl
    · exact prime_2
    · exact prime_3
    · exact prime_1732236983459
  · intro r hr
    simp at hr
    rcases hr with rfl | rfl | rfl
    · decide +kernel
    · decide +kernel
    · decide +kernel
theorem prime_2305843009213688669 : Prime 2305843009213688669 := by
  refine lucas_pm 2305843009213688669 2 61 [2, 2, 2311, 249442125618097] (by decide) (by decide) (by decide) ?_ (by decide +kernel) ?_
  · intro r hr
    simp at hr
    rcases hr with rfl | rfl | rfl
    · exact prime_2
    · exact prime_2311
    · exact prime_249442125618097
  · intro r hr
    simp at hr
    rcases hr with rfl | rfl | rfl
    · decide +kernel
    · decide +kernel
    · decide +kernel
end Go.Num
