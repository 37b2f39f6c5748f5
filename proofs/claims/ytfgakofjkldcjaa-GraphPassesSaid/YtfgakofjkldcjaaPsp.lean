/- Payments in plain numbers: points ahead of a point, the secrets told back, the proof, the hops of locks. No program in sight. -/
import Derived.Test.YtfgakofjkldcjaaOsp3
namespace Go.Osp
open Go.Hsp Go.Num
def sumS (l : List Nat) : Nat := l.foldl addS 0
theorem addS_zero (t b : Nat) : addS (addS 0 t) b = addS t b := by rw [addS_eq, addS_eq 0, addS_eq t, Nat.zero_add, Nat.mod_add_mod]
theorem addS_lt (a b : Nat) : addS a b < q := Nat.mod_lt _ q_pos
theorem sumS_snoc (l : List Nat) (k x : Nat) (h : l[k]? = some x) : sumS (l.take (k + 1)) = addS (sumS (l.take k)) x := by
  rw [List.take_add_one, h]; simp [sumS]
theorem foldS_mod : ∀ (l : List Nat) (a : Nat), l.foldl addS a % q = (a + l.sum) % q
  | [], a => by simp
  | x :: l, a => by rw [List.foldl_cons, foldS_mod l, addS_eq, Nat.mod_add_mod, List.sum_cons, Nat.add_assoc]
theorem sumS_mod (l : List Nat) : sumS l % q = l.sum % q := by rw [sumS, foldS_mod, Nat.zero_add]
/-- The points ahead of a point. -/
def fromP (p : Nat) : List Nat → List Nat
  | [] => [p]
  | b :: l => addP ((fromP p l).headD 0) (base b) :: fromP p l
/-- Their secrets. -/
def tP (s : Nat) : List Nat → List Nat
  | [] => [s]
  | b :: l => addS ((tP s l).headD 0) b :: tP s l
theorem fromP_length (p : Nat) : ∀ l, (fromP p l).length = l.length + 1
  | [] => rfl
  | b :: l => by rw [fromP, List.length_cons, fromP_length p l, List.length_cons]
theorem tP_length (s : Nat) : ∀ l, (tP s l).length = l.length + 1
  | [] => rfl
  | b :: l => by rw [tP, List.length_cons, tP_length s l, List.length_cons]
theorem fromP_base (s : Nat) : ∀ l, fromP (base s) l = (tP s l).map base
  | [] => rfl
  | b :: l => by
    rw [fromP, tP, List.map_cons, fromP_base s l]
    congr 1
    have := tP_length s l
    cases h : tP s l with
    | nil => rw [h] at this; simp at this
    | cons t r => exact addP_base t b
theorem headD_getD {l : List Nat} : l.headD 0 = l.getD 0 0 := by cases l <;> rfl
theorem fromP_at (p : Nat) : ∀ (l : List Nat) (i : Nat), i < l.length → (fromP p l).getD i 0 = addP ((fromP p l).getD (i + 1) 0) (base (l.getD i 0))
  | [], i, h => by simp at h
  | b :: l, 0, _ => by rw [fromP, headD_getD]; rfl
  | b :: l, i + 1, h => by
    have := fromP_at p l i (by simpa using h)
    rw [fromP]; simpa using this
theorem tP_at (s : Nat) : ∀ (l : List Nat) (i : Nat), i < l.length → (tP s l).getD i 0 = addS ((tP s l).getD (i + 1) 0) (l.getD i 0)
  | [], i, h => by simp at h
  | b :: l, 0, _ => by rw [tP, headD_getD]; rfl
  | b :: l, i + 1, h => by
    have := tP_at s l i (by simpa using h)
    rw [tP]; simpa using this
theorem tP_last (s : Nat) : ∀ l : List Nat, (tP s l).getD l.length 0 = s
  | [] => rfl
  | b :: l => by rw [tP, List.length_cons]; simpa using tP_last s l
theorem tP_head (s : Nat) : ∀ l : List Nat, (tP s l).getD 0 0 % q = (s + l.sum) % q
  | [] => by simp [tP]
  | b :: l => by
    have := tP_head s l
    rw [tP, headD_getD]
    show addS ((tP s l).getD 0 0) b % q = _
    rw [addS_eq, Nat.mod_mod, Nat.add_mod, this, ← Nat.add_mod, List.sum_cons, Nat.add_assoc, Nat.add_comm l.sum]
theorem proof_back (s : Nat) (l : List Nat) (hs : s < q) : addS ((tP s l).getD 0 0) (negS (sumS l)) = s := by
  have h1 := tP_head s l
  have h2 := sumS_mod l
  have h3 : sumS l % q < q := Nat.mod_lt _ q_pos
  rw [addS_eq, negS, h2, Nat.add_mod, h1, Nat.mod_mod, ← Nat.add_mod]
  rw [h2] at h3
  have e : s + l.sum + (q - l.sum % q) = s + q * (l.sum / q + 1) := by
    have := Nat.div_add_mod l.sum q
    rw [Nat.mul_add, Nat.mul_one]; omega
  rw [e, Nat.add_mul_mod_self_left, Nat.mod_eq_of_lt hs]
def blindsP (seed : List Byte) (n : Nat) : List Nat := (List.range n).map fun i => fromB (tag nBlind [seed, [BitVec.ofNat 8 i]])
theorem blindsP_length (seed : List Byte) (n : Nat) : (blindsP seed n).length = n := by simp [blindsP]
theorem blindsP_succ (seed : List Byte) (n : Nat) : blindsP seed (n + 1) = blindsP seed n ++ [fromB (tag nBlind [seed, [BitVec.ofNat 8 n]])] := by simp [blindsP, List.range_succ]
theorem blindsP_lt (seed : List Byte) (n : Nat) : ∀ b ∈ blindsP seed n, b < q := fun b hb => by
  obtain ⟨i, _, rfl⟩ := List.mem_map.1 hb
  exact fromB_lt _
/-- Points filled in from behind. -/
theorem fill_back (p : Nat) (l : List Nat) (k : Nat) (hk : k < l.length) :
    (List.replicate (l.length - k) 0 ++ fromP p (l.drop (l.length - k))).set (l.length - 1 - k) (addP ((List.replicate (l.length - k) 0 ++ fromP p (l.drop (l.length - k))).getD (l.length - 1 - k + 1) 0) (base (l.getD (l.length - 1 - k) 0))) =
      List.replicate (l.length - (k + 1)) 0 ++ fromP p (l.drop (l.length - (k + 1))) := by
  have e1 : l.length - k = (l.length - (k + 1)) + 1 := by omega
  have e2 : l.length - 1 - k = l.length - (k + 1) := by omega
  have e3 : l.drop (l.length - (k + 1)) = l.getD (l.length - (k + 1)) 0 :: l.drop (l.length - k) := by
    rw [List.drop_eq_getElem_cons (by omega), e1]
    congr 1
    simp [List.getD, show l.length - (k + 1) < l.length by omega]
  rw [e3, fromP, headD_getD, e2]
  generalize fromP p (l.drop (l.length - k)) = r
  rw [e1, List.replicate_succ', List.append_assoc]
  have hr : (List.replicate (l.length - (k + 1)) 0 ++ ([0] ++ r)).getD (l.length - (k + 1) + 1) 0 = r.getD 0 0 := by
    rw [List.getD_eq_getElem?_getD, List.getElem?_append_right (by simp)]
    simp [List.getD]
  rw [hr, List.set_append_right _ _ (by simp)]
  simp
def lockHop (pts bl : List Nat) (n : Nat) (amount : Int) (i : Nat) : Hop := if i + 1 < n then ((i : Int), (i : Int), amount, 0, pts.getD (i + 1) 0, bl.getD i 0) else (-1, 0, amount, 0, 0, 0)
def lockHops (pts bl : List Nat) (n : Nat) (amount : Int) (k : Nat) : List Hop := (List.range k).map (lockHop pts bl n amount)
theorem lockHops_length (pts bl : List Nat) (n : Nat) (amount : Int) (k : Nat) : (lockHops pts bl n amount k).length = k := by simp [lockHops]
theorem lockHops_succ (pts bl : List Nat) (n : Nat) (amount : Int) (k : Nat) : lockHops pts bl n amount (k + 1) = lockHops pts bl n amount k ++ [lockHop pts bl n amount k] := by simp [lockHops, List.range_succ]
theorem lockHops_at (pts bl : List Nat) (n : Nat) (amount : Int) (k i : Nat) (h : i < k) : (lockHops pts bl n amount k).getD i noHop = lockHop pts bl n amount i := by simp [lockHops, List.getD, h]
theorem getD_lt {l : List Nat} {b : Nat} (h : ∀ x ∈ l, x < b) (hb : 0 < b) (i : Nat) : l.getD i 0 < b := by
  rw [List.getD_eq_getElem?_getD]
  cases e : l[i]? with
  | none => exact hb
  | some x => exact h x (List.mem_of_getElem? e)
theorem lockHop_ok (pts bl : List Nat) (n : Nat) (amount : Int) (i : Nat) (hn : n ≤ 8) (hpt : ∀ p ∈ pts, p < 18446744073709551616) (hb : ∀ b ∈ bl, b < q) (ha : 0 ≤ amount ∧ amount ≤ 1125899906842624) : HopOk (lockHop pts bl n amount i) := by
  unfold lockHop
  split
  · refine ⟨⟨?_, ?_⟩, ⟨?_, ?_⟩, ⟨?_, ?_⟩, ⟨?_, ?_⟩, getD_lt hpt (by decide) _, Nat.lt_trans (getD_lt hb q_pos _) q_lt⟩ <;> simp only [] <;> omega
  · refine ⟨⟨?_, ?_⟩, ⟨?_, ?_⟩, ⟨?_, ?_⟩, ⟨?_, ?_⟩, ?_, ?_⟩ <;> simp only [] <;> omega
theorem lockHop_may (pts bl : List Nat) (n : Nat) (amount : Int) (i : Nat) (hn : n ≤ 8) (hpt : ∀ i, i + 1 < n → right (pts.getD (i + 1) 0) = true) (hb : ∀ b ∈ bl, b < q) (ha : 0 ≤ amount ∧ amount ≤ 1125899906842624) : mayB (lockHop pts bl n amount i) = true := by
  unfold lockHop
  split
  · rename_i h
    have h1 := hpt i h
    have h2 := getD_lt hb q_pos i
    simp only [mayB, h1, Bool.or_true, Bool.and_true, Bool.and_eq_true, decide_eq_true_eq]
    exact ⟨⟨⟨⟨by omega, by omega⟩, by omega⟩, by decide⟩, h2⟩
  · simp only [mayB, Bool.and_eq_true, Bool.or_eq_true, decide_eq_true_eq]
    exact ⟨⟨⟨⟨by decide, by decide⟩, by omega⟩, by decide⟩, q_pos, .inl trivial⟩
theorem lockHop_end (pts bl : List Nat) (n : Nat) (amount : Int) (i : Nat) (hi : i < n) : decide ((lockHop pts bl n amount i).1 < 0) = decide (i + 1 = n) := by
  unfold lockHop
  split
  · apply decide_eq_decide.2; simp only []; omega
  · apply decide_eq_decide.2; simp only []; omega
end Go.Osp
