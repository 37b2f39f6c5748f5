/- PartsTells: for every input the law answers true and leaves its arguments as they were. -/

namespace Go.Hsp
abbrev Byte := BitVec 8
abbrev Word := BitVec 32
/-- A number as eight bytes. -/
def be8 (m : Nat) : List Byte := [56, 48, 40, 32, 24, 16, 8, 0].map fun k => BitVec.ofNat 8 (m >>> k)
/-- A word turned to the right by k. -/
def rot (x : Word) (k : Nat) : Word := x <<< (32 - k) ||| x >>> k
def be32 (b : List Byte) : Word := (b.getD 0 0).setWidth 32 <<< 24 ||| (b.getD 1 0).setWidth 32 <<< 16 ||| (b.getD 2 0).setWidth 32 <<< 8 ||| (b.getD 3 0).setWidth 32
def nextWord (w : List Word) (k : Nat) : Word :=
  w.getD (k - 16) 0 + (rot (w.getD (k - 15) 0) 7 ^^^ rot (w.getD (k - 15) 0) 18 ^^^ (w.getD (k - 15) 0) >>> 3) + w.getD (k - 7) 0
    + (rot (w.getD (k - 2) 0) 17 ^^^ rot (w.getD (k - 2) 0) 19 ^^^ (w.getD (k - 2) 0) >>> 10)
def schedTo (b : List Byte) : Nat → List Word
  | 0 => []
  | k + 1 => schedTo b k ++ [if k < 16 then be32 (b.drop (4 * k)) else nextWord (schedTo b k) k]
def sched (b : List Byte) : List Word := schedTo b 64
def table : List Word := [
  0x428a2f98, 0x71374491, 0xb5c0fbcf, 0xe9b5dba5, 0x3956c25b, 0x59f111f1, 0x923f82a4, 0xab1c5ed5,
  0xd807aa98, 0x12835b01, 0x243185be, 0x550c7dc3, 0x72be5d74, 0x80deb1fe, 0x9bdc06a7, 0xc19bf174,
  0xe49b69c1, 0xefbe4786, 0x0fc19dc6, 0x240ca1cc, 0x2de92c6f, 0x4a7484aa, 0x5cb0a9dc, 0x76f988da,
  0x983e5152, 0xa831c66d, 0xb00327c8, 0xbf597fc7, 0xc6e00bf3, 0xd5a79147, 0x06ca6351, 0x14292967,
  0x27b70a85, 0x2e1b2138, 0x4d2c6dfc, 0x53380d13, 0x650a7354, 0x766a0abb, 0x81c2c92e, 0x92722c85,
  0xa2bfe8a1, 0xa81a664b, 0xc24b8b70, 0xc76c51a3, 0xd192e819, 0xd6990624, 0xf40e3585, 0x106aa070,
  0x19a4c116, 0x1e376c08, 0x2748774c, 0x34b0bcb5, 0x391c0cb3, 0x4ed8aa4a, 0x5b9cca4f, 0x682e6ff3,
  0x748f82ee, 0x78a5636f, 0x84c87814, 0x8cc70208, 0x90befffa, 0xa4506ceb, 0xbef9a3f7, 0xc67178f2]
def first : List Word := [0x6a09e667, 0xbb67ae85, 0x3c6ef372, 0xa54ff53a, 0x510e527f, 0x9b05688c, 0x1f83d9ab, 0x5be0cd19]
/-- One round. -/
def stepW (v : List Word) (k w : Word) : List Word :=
  let s := rot (v.getD 4 0) 6 ^^^ rot (v.getD 4 0) 11 ^^^ rot (v.getD 4 0) 25
  let t := v.getD 7 0 + s + (v.getD 6 0 ^^^ v.getD 4 0 &&& (v.getD 5 0 ^^^ v.getD 6 0)) + k + w
  let r := rot (v.getD 0 0) 2 ^^^ rot (v.getD 0 0) 13 ^^^ rot (v.getD 0 0) 22
  let most := v.getD 0 0 &&& v.getD 1 0 ||| v.getD 2 0 &&& (v.getD 0 0 ||| v.getD 1 0)
  [t + r + most, v.getD 0 0, v.getD 1 0, v.getD 2 0, v.getD 3 0 + t, v.getD 4 0, v.getD 5 0, v.getD 6 0]
def roundsTo (h : List Word) (ws : List Word) : Nat → List Word
  | 0 => h
  | i + 1 => stepW (roundsTo h ws i) (table.getD i 0) (ws.getD i 0)
/-- The first i words added. -/
def addTo (v h : List Word) (i : Nat) : List Word := (List.range 8).map fun j => if j < i then v.getD j 0 + h.getD j 0 else v.getD j 0
def mix (h : List Word) (b : List Byte) : List Word := addTo (roundsTo h (sched b) 64) h 8
/-- All whole blocks mixed in. -/
def mixN (h : List Word) (b : List Byte) : Nat → List Word
  | 0 => h
  | n + 1 => mixN (mix h (b.take 64)) (b.drop 64) n
def mixAll (h : List Word) (b : List Byte) : List Word := mixN h b (b.length / 64)
/-- How many noughts are wanted. -/
def noughts (n : Nat) : Nat := (64 + 55 - n % 64) % 64
def tail (b : List Byte) : List Byte := b.drop (b.length - b.length % 64) ++ [128] ++ List.replicate (noughts b.length) 0 ++ be8 (8 * b.length)
def digest (h : List Word) : List Byte := (List.range 32).map fun k => ((h.getD (k / 4) 0) >>> (24 - 8 * (k % 4))).setWidth 8
def sum (b : List Byte) : List Byte := digest (mixAll (mixAll first b) (tail b))
/-- A name and parts, each behind its length. -/
def tagBytes (name : List Byte) : List (List Byte) → List Byte
  | parts => be8 name.length ++ name ++ (parts.map fun p => be8 p.length ++ p).flatten
def tag (name : List Byte) (parts : List (List Byte)) : List Byte := sum (tagBytes name parts)
end Go.Hsp

namespace Go.Hsp
def nStream : List Byte := [115, 116, 114, 101, 97, 109]
def streamTo (key : List Byte) (j : Nat) : List Byte := ((List.range j).map fun i => tag nStream [key, be8 i]).flatten
def stream (key : List Byte) (n : Nat) : List Byte := (streamTo key ((n + 31) / 32)).take n
def xorB (a b : List Byte) : List Byte := List.zipWith (· ^^^ ·) a b
end Go.Hsp

namespace Go.Num
/-- Powers modulo, by squaring. -/
def pm (m : Nat) : Nat → Nat → Nat → Nat → Nat
  | 0, _, _, out => out
  | f + 1, a, n, out => pm m f (a * a % m) (n / 2) (if n % 2 = 1 then out * a % m else out)
theorem pm_eq (m : Nat) : ∀ (f a n out : Nat), n < 2 ^ f → out < m → pm m f a n out = out * a ^ n % m
  | 0, a, n, out, h, ho => by
    have : n = 0 := by simpa using h
    subst this
    simp [pm, Nat.mod_eq_of_lt ho]
  | f + 1, a, n, out, h, ho => by
    have hm : 0 < m := by omega
    have hn : n / 2 < 2 ^ f := by rw [Nat.pow_succ] at h; omega
    rw [pm]
    by_cases hp : n % 2 = 1
    · rw [if_pos hp, pm_eq m f _ _ _ hn (Nat.mod_lt _ hm)]
      have e : a ^ n = a * (a * a) ^ (n / 2) := by
        have hn2 : n = 2 * (n / 2) + 1 := by omega
        conv => lhs; rw [hn2]
        rw [Nat.pow_succ, Nat.pow_mul, Nat.pow_two, Nat.mul_comm]
      rw [e, Nat.mul_mod, Nat.mod_mod, ← Nat.pow_mod, ← Nat.mul_mod, Nat.mul_assoc]
    · rw [if_neg hp, pm_eq m f _ _ _ hn ho]
      have e : a ^ n = (a * a) ^ (n / 2) := by
        have hn2 : n = 2 * (n / 2) := by omega
        conv => lhs; rw [hn2]
        rw [Nat.pow_mul, Nat.pow_two]
      rw [e, Nat.mul_mod, ← Nat.pow_mod, ← Nat.mul_mod]
/-- The least number that has a property. -/
theorem least {p : Nat → Prop} [DecidablePred p] (n : Nat) (h : p n) : ∃ k, k ≤ n ∧ p k ∧ ∀ j, j < k → ¬ p j := by
  induction n using Nat.strongRecOn with
  | ind n ih =>
    by_cases hs : ∃ j, j < n ∧ p j
    · obtain ⟨j, hj, hp⟩ := hs
      obtain ⟨k, h1, h2, h3⟩ := ih j hj hp
      exact ⟨k, by omega, h2, h3⟩
    · exact ⟨n, Nat.le_refl _, h, fun j hj hp => hs ⟨j, hj, hp⟩⟩
end Go.Num

namespace Go.Num
def q : Nat := 2305843009213688669
def M : Nat := 4611686018427377339
theorem q_def : q = 2305843009213688669 := rfl
theorem M_one : 1 < M := by decide
/-- A power modulo the modulus, of an exponent below 2^64. -/
def pw (a n : Nat) : Nat := pm M 64 a n 1
theorem pw_eq (a n : Nat) (h : n < 18446744073709551616) : pw a n = a ^ n % M := by
  have h64 : n < 2 ^ 64 := by rw [show (2 : Nat) ^ 64 = 18446744073709551616 by decide]; exact h
  rw [pw, pm_eq M 64 a n 1 h64 M_one, Nat.one_mul]
theorem step1 (a n out : Nat) (h : n % 2 = 1) : (out * a % M) * (a * a % M) ^ (n / 2) % M = out * a ^ n % M := by
  have e : a ^ n = a * (a * a) ^ (n / 2) := by
    have hn2 : n = 2 * (n / 2) + 1 := by omega
    conv => lhs; rw [hn2]
    rw [Nat.pow_succ, Nat.pow_mul, Nat.pow_two, Nat.mul_comm]
  rw [e, Nat.mul_mod, Nat.mod_mod, ← Nat.pow_mod, ← Nat.mul_mod, Nat.mul_assoc]
theorem step0 (a n out : Nat) (h : ¬ n % 2 = 1) : out * (a * a % M) ^ (n / 2) % M = out * a ^ n % M := by
  have e : a ^ n = (a * a) ^ (n / 2) := by
    have hn2 : n = 2 * (n / 2) := by omega
    conv => lhs; rw [hn2]
    rw [Nat.pow_mul, Nat.pow_two]
  rw [e, Nat.mul_mod, ← Nat.pow_mod, ← Nat.mul_mod]
theorem pw_start (a n : Nat) (h : n < 18446744073709551616) : 1 * a ^ n % M = pw a n := by rw [pw_eq a n h, Nat.one_mul]
theorem pw_end (a out : Nat) (h : out < M) : out * a ^ 0 % M = out := by rw [Nat.pow_zero, Nat.mul_one, Nat.mod_eq_of_lt h]
theorem q_lt : q < 18446744073709551616 := by decide
def right (p : Nat) : Bool := decide (0 < p) && decide (p < M) && decide (pw p q = 1)
theorem right_iff (p : Nat) : right p = true ↔ 0 < p ∧ p < M ∧ p ^ q % M = 1 := by
  unfold right
  rw [pw_eq p q q_lt]
  simp [and_assoc]
def taken (p : Nat) : Nat := if right p then p else 1
def scale (p k : Nat) : Nat := pw (taken p) (k % q)
def base (k : Nat) : Nat := scale 4 k
def addS (a b : Nat) : Nat := (a % q + b % q) % q
theorem right_one : right 1 = true := by decide +kernel
theorem right_taken (p : Nat) : right (taken p) = true := by
  unfold taken
  split
  · assumption
  · exact right_one
end Go.Num

namespace Go.Osp
open Go.Hsp Go.Num
abbrev Stop := Nat × List Byte
def nRho : List Byte := [114, 104, 111]
def rho (s : Stop) (n : Nat) : List Byte := stream (tag nRho [s.2]) n
def zeros (n : Nat) : List Byte := List.replicate n 0
def put (r f : List Byte) : List Byte := r.take (r.length - f.length) ++ f
/-- All that is seen by who peels a route at a stop. -/
def opened (s : Stop) (r : List Byte) : List Byte := xorB (r ++ zeros 80) (rho s 720)
end Go.Osp

namespace Go.Gsp
set_option linter.unusedSimpArgs false
set_option linter.unusedVariables false
open Go.Osp
structure Pol where
  b : Int
  p : Int
  d : Int
  l : Int
  m : Int
deriving DecidableEq
structure Edge where
  f : Int
  t : Int
  c : Int
  r : Int
  pol : Pol
deriving DecidableEq
def noPol : Pol := ⟨0, 0, 0, 0, 0⟩
def noEdge : Edge := ⟨0, 0, 0, 0, noPol⟩
def inB (n lo hi : Int) : Bool := decide (lo ≤ n ∧ n ≤ hi)
/-- Is a policy right? -/
def polOk (p : Pol) : Bool := inB p.b 0 1125899906842624 && inB p.l 0 p.m && inB p.m 0 1125899906842624 && inB p.p 0 1000000 && inB p.d 0 1048576
def edgeOk (e : Edge) : Bool := inB e.f 0 11 && inB e.t 0 11 && decide (e.f ≠ e.t) && inB e.c 0 39 && inB e.r 1 1125899906842624 && polOk e.pol
def coinB (a : Int) : Bool := inB a 0 1125899906842624
/-- Coins added up. -/
def addC (a b : Int) : Int × Bool := if coinB a && coinB b && decide (a ≤ 1125899906842624 - b) then (a + b, true) else (0, false)
def cmpI (a b : Int) : Int := if a < b then -1 else if b < a then 1 else 0
/-- Which edge stands ahead. -/
def ordE (a b : Edge) : Int := if cmpI a.c b.c ≠ 0 then cmpI a.c b.c else cmpI a.f b.f
/-- Does the edge at i fit to those ahead of it? -/
def RightAt (l : List Edge) (i : Nat) : Prop :=
  edgeOk (l.getD i noEdge) = true ∧ (0 < i → ordE (l.getD (i - 1) noEdge) (l.getD i noEdge) < 0) ∧
    ((0 < i ∧ (l.getD (i - 1) noEdge).c = (l.getD i noEdge).c) → ¬ (1 < i ∧ (l.getD (i - 2) noEdge).c = (l.getD i noEdge).c) ∧ (l.getD (i - 1) noEdge).f = (l.getD i noEdge).t ∧ (l.getD (i - 1) noEdge).t = (l.getD i noEdge).f ∧ (l.getD (i - 1) noEdge).r = (l.getD i noEdge).r)
instance (l : List Edge) (i : Nat) : Decidable (RightAt l i) := by unfold RightAt; infer_instance
def RightP (l : List Edge) : Prop := ∀ i, i < l.length → RightAt l i
instance (l : List Edge) : Decidable (RightP l) := by unfold RightP; infer_instance
/-- Edges that are a way. -/
def WayAt (l : List Edge) (i : Nat) : Prop := edgeOk (l.getD i noEdge) = true ∧ (0 < i → (l.getD (i - 1) noEdge).t = (l.getD i noEdge).f) ∧ ∀ k, k ≤ i → (l.getD k noEdge).f ≠ (l.getD i noEdge).t
instance (l : List Edge) (i : Nat) : Decidable (WayAt l i) := by unfold WayAt; infer_instance
def WayP (l : List Edge) : Prop := (1 ≤ l.length ∧ l.length ≤ 8) ∧ ∀ i, i < l.length → WayAt l i
instance (l : List Edge) : Decidable (WayP l) := by unfold WayP; infer_instance
theorem inB_T {n lo hi : Int} (h : inB n lo hi = true) : lo ≤ n ∧ n ≤ hi := of_decide_eq_true h
end Go.Gsp

namespace Go.Gsp
set_option linter.unusedSimpArgs false
set_option linter.unusedVariables false
open Go.Osp
variable {a x am ex er : Int} {l : List (Int × Int)} {xs : List Edge} {j : Nat}
theorem addC_val {a b : Int} (h : (addC a b).2 = true) : (addC a b).1 = a + b ∧ 0 ≤ a + b ∧ a + b ≤ 1125899906842624 := by
  unfold addC at *
  split at h
  · rename_i hc
    simp only [coinB, Bool.and_eq_true, decide_eq_true_eq] at hc
    have h1 := inB_T hc.1.1
    have h2 := inB_T hc.1.2
    exact ⟨by rw [if_pos (by simp [coinB, hc])], by omega, by omega⟩
  · cases h
end Go.Gsp
namespace Go.Gsp
set_option linter.unusedSimpArgs false
set_option linter.unusedVariables false
end Go.Gsp
namespace Go.Gsp
set_option linter.unusedSimpArgs false
set_option linter.unusedVariables false
variable {a x : Int}
end Go.Gsp
namespace Go.Gsp
set_option linter.unusedSimpArgs false
set_option linter.unusedVariables false
variable {a x : Int}
end Go.Gsp
namespace Go.Gsp
set_option linter.unusedSimpArgs false
set_option linter.unusedVariables false
open Go.Osp Go.Num
end Go.Gsp

namespace Go.Gsp
set_option linter.unusedSimpArgs false
set_option linter.unusedVariables false
open Go.Osp Go.Num
structure Part where
  ch : Int
  id : Int
  am : Int
  ex : Int
  pt : Nat
  bl : Nat
deriving DecidableEq
def noPart : Part := ⟨0, 0, 0, 0, 0, 0⟩
structure Paid where
  ch : Int
  id : Int
  sec : Nat
deriving DecidableEq
def noPaid : Paid := ⟨0, 0, 0⟩
structure Pay where
  sec : Nat
  tot : Int
  by_ : Int
  lst : Int
  held : List Part
  sum : Int
  ovr : Bool
  paid : Bool
deriving DecidableEq
def keyP (x : Part) : Int × Int := (x.ch, x.id)
/-- Does a payment's secret open a part? -/
def opensP (s : Nat) (x : Part) : Bool := decide (x.bl < q) && decide (base (addS s x.bl) = x.pt)
/-- May a part be held? the sum, the error. -/
def mayP (p : Pay) (hk : Int × Int → Bool) (x : Part) (ht : Int) : Int × Int :=
  if p.ovr = true then (0, 14) else if p.by_ ≤ ht then (0, 16) else if x.am < 1 ∨ 1125899906842624 < x.am then (0, 1) else if x.ex < p.lst then (0, 16)
  else if hk (keyP x) = true then (0, 4) else if opensP p.sec x = false then (0, 23) else if 8 ≤ p.held.length then (0, 3)
  else if (addC p.sum x.am).2 = false then (0, 6) else ((addC p.sum x.am).1, 0)
def paidOf (s : Nat) (x : Part) : Paid := ⟨x.ch, x.id, addS s x.bl⟩
end Go.Gsp

namespace Go.Gsp
set_option linter.unusedSimpArgs false
set_option linter.unusedVariables false
open Go.Osp Go.Num
abbrev PSt := List (Int × Pay)
def insP (x : Int × Pay) : PSt → PSt
  | [] => [x]
  | y :: l => if y.1 < x.1 then y :: insP x l else x :: y :: l
def srtP (l : PSt) : PSt := l.foldl (fun s x => insP x s) []
theorem insP_perm (x : Int × Pay) : ∀ l : PSt, (insP x l).Perm (x :: l)
  | [] => List.Perm.refl _
  | y :: l => by
    unfold insP
    split
    · exact ((insP_perm x l).cons y).trans (List.Perm.swap x y l)
    · exact List.Perm.refl _
theorem insP_map (f : Int × Pay → Int × Pay) (hf : ∀ y, (f y).1 = y.1) (x : Int × Pay) : ∀ l : PSt, insP (f x) (l.map f) = (insP x l).map f
  | [] => rfl
  | y :: l => by
    simp only [List.map_cons, insP, hf]
    split
    · simp only [List.map_cons, insP_map f hf x l]
    · rfl
theorem foldl_map (f : Int × Pay → Int × Pay) (hf : ∀ y, (f y).1 = y.1) : ∀ (l s : PSt), (l.map f).foldl (fun s x => insP x s) (s.map f) = (l.foldl (fun s x => insP x s) s).map f
  | [], _ => rfl
  | x :: l, s => by
    simp only [List.map_cons, List.foldl_cons]
    rw [insP_map f hf, foldl_map f hf l]
theorem srtP_map (f : Int × Pay → Int × Pay) (hf : ∀ y, (f y).1 = y.1) (l : PSt) : srtP (l.map f) = (srtP l).map f := foldl_map f hf l []
theorem srtP_snoc (l : PSt) (x : Int × Pay) : srtP (l ++ [x]) = insP x (srtP l) := by simp [srtP, List.foldl_append]
theorem foldl_perm : ∀ (l s : PSt), (l.foldl (fun s x => insP x s) s).Perm (l ++ s)
  | [], _ => List.Perm.refl _
  | x :: l, s => by
    simp only [List.foldl_cons, List.cons_append]
    exact (foldl_perm l (insP x s)).trans (((insP_perm x s).append_left l).trans List.perm_middle)
theorem srtP_perm (l : PSt) : (srtP l).Perm l := by
  have := foldl_perm l []
  rw [List.append_nil] at this
  exact this
def Srt (l : PSt) : Prop := l.Pairwise fun a b => a.1 ≤ b.1
theorem insP_srt (x : Int × Pay) : ∀ l : PSt, Srt l → Srt (insP x l)
  | [], _ => by simp [insP, Srt]
  | y :: l, h => by
    unfold Srt at h
    rw [List.pairwise_cons] at h
    unfold insP
    split
    · rename_i hlt
      unfold Srt
      rw [List.pairwise_cons]
      refine ⟨fun z hz => ?_, insP_srt x l h.2⟩
      rcases List.mem_cons.1 ((insP_perm x l).mem_iff.1 hz) with rfl | hz
      · omega
      · exact h.1 z hz
    · rename_i hlt
      unfold Srt
      rw [List.pairwise_cons, List.pairwise_cons]
      refine ⟨fun z hz => ?_, h.1, h.2⟩
      rcases List.mem_cons.1 hz with rfl | hz
      · omega
      · have := h.1 z hz; omega
/-- Rows in order that hold the same numbers are the same. -/
theorem sorted_one : ∀ {a b : List Int}, a.Perm b → a.Pairwise (· ≤ ·) → b.Pairwise (· ≤ ·) → a = b
  | [], b, h, _, _ => (List.Perm.nil_eq h)
  | x :: a, [], h, _, _ => absurd h.length_eq (by simp)
  | x :: a, y :: b, h, ha, hb => by
    rw [List.pairwise_cons] at ha hb
    have h1 : x = y := by
      have hx : x ∈ y :: b := h.mem_iff.1 (List.mem_cons_self)
      have hy : y ∈ x :: a := h.mem_iff.2 (List.mem_cons_self)
      rcases List.mem_cons.1 hx with h1 | h1
      · exact h1
      · rcases List.mem_cons.1 hy with h2 | h2
        · exact h2.symm
        · have := ha.1 y h2; have := hb.1 x h1; omega
    subst h1
    rw [sorted_one (List.Perm.cons_inv h) ha.2 hb.2]
def getP (n : Int) (s : PSt) : Option Pay := (s.find? fun y => decide (y.1 = n)).map (·.2)
theorem getP_mem {n : Int} {s : PSt} {p : Pay} (h : getP n s = some p) : (n, p) ∈ s := by
  unfold getP at h
  cases hf : s.find? (fun y => decide (y.1 = n)) with
  | none => rw [hf] at h; cases h
  | some y =>
    rw [hf] at h
    have h1 := List.mem_of_find?_eq_some hf
    have h2 := List.find?_some hf
    simp at h h2
    obtain ⟨a, b⟩ := y
    simp at h h2
    subst h2 h
    exact h1
theorem getP_none {n : Int} {s : PSt} : getP n s = none ↔ ∀ y ∈ s, y.1 ≠ n := by
  unfold getP
  rw [Option.map_eq_none_iff, List.find?_eq_none]
  simp
theorem nodup_fst {s : PSt} (h : (s.map (·.1)).Nodup) {n : Int} {p q : Pay} (hp : (n, p) ∈ s) (hq : (n, q) ∈ s) : p = q := by
  induction s with
  | nil => cases hp
  | cons y s ih =>
    simp only [List.map_cons, List.nodup_cons] at h
    rcases List.mem_cons.1 hp with h1 | h1 <;> rcases List.mem_cons.1 hq with h2 | h2
    · have := h1.trans h2.symm; simpa using this
    · exact absurd (List.mem_map.2 ⟨(n, q), h2, by rw [← h1]⟩) h.1
    · exact absurd (List.mem_map.2 ⟨(n, p), h1, by rw [← h2]⟩) h.1
    · exact ih h.2 h1 h2
theorem getP_of {s : PSt} (h : (s.map (·.1)).Nodup) {n : Int} {p : Pay} (hp : (n, p) ∈ s) : getP n s = some p := by
  cases e : getP n s with
  | none => exact absurd rfl (getP_none.1 e _ hp)
  | some q => rw [nodup_fst h (getP_mem e) hp]
def updP (n : Int) (p : Pay) (s : PSt) : PSt := s.map fun y => if y.1 = n then (n, p) else y
theorem updP_fst (n : Int) (p : Pay) (y : Int × Pay) : (if y.1 = n then (n, p) else y).1 = y.1 := by
  by_cases h : y.1 = n
  · rw [if_pos h]; exact h.symm
  · rw [if_neg h]
theorem updP_names (n : Int) (p : Pay) (s : PSt) : (updP n p s).map (·.1) = s.map (·.1) := by
  unfold updP
  rw [List.map_map]
  apply List.map_congr_left
  intro y _
  exact updP_fst n p y
theorem getP_upd {n m : Int} {p q : Pay} {s : PSt} (h : getP n s = some q) : getP m (updP n p s) = if m = n then some p else getP m s := by
  unfold getP updP
  induction s with
  | nil => cases h
  | cons y s ih =>
    unfold getP at h
    simp only [List.map_cons, List.find?_cons] at h ⊢
    by_cases hy : y.1 = n
    · simp only [hy, if_true]
      by_cases hm : m = n
      · simp [hm]
      · have h1 : ¬ (n = m) := fun e => hm e.symm
        simp only [h1, decide_false, hm, if_false]
        have : ∀ (l : PSt), (l.map fun y => if y.1 = n then (n, p) else y).find? (fun y => decide (y.1 = m)) = l.find? (fun y => decide (y.1 = m)) := by
          intro l
          induction l with
          | nil => rfl
          | cons z l il =>
            simp only [List.map_cons, List.find?_cons, il]
            by_cases hz : z.1 = n
            · have h2 : ¬ (z.1 = m) := fun e => h1 (hz.symm.trans e)
              simp [hz, h1]
            · simp [hz]
        rw [this]
    · simp only [hy, if_false, decide_false] at h ⊢
      have := ih (by unfold getP; exact h)
      by_cases hm : y.1 = m
      · have : ¬ m = n := fun e => hy (hm.trans e)
        simp [hm, this]
      · simp only [hm, decide_false]
        exact this
def hkS (s : PSt) (k : Int × Int) : Bool := s.any fun y => y.2.held.any fun x => decide (keyP x = k)
def dueP (ht : Int) (p : Pay) : Bool := !p.ovr && decide (p.by_ ≤ ht)
def lateP (ht : Int) (p : Pay) : Pay := if dueP ht p then { p with held := [], ovr := true } else p
def wantOk (nm : Int) (sc : Nat) (to by_ le : Int) : Prop := 0 ≤ nm ∧ sc ≠ 0 ∧ sc < q ∧ 1 ≤ to ∧ to ≤ 1125899906842624 ∧ 0 ≤ by_ ∧ by_ ≤ 1048576 ∧ 0 ≤ le ∧ le ≤ 1048576
instance wantOk_dec (nm : Int) (sc : Nat) (to by_ le : Int) : Decidable (wantOk nm sc to by_ le) := by unfold wantOk; infer_instance
def newP (sc : Nat) (to by_ le : Int) : Pay := ⟨sc, to, by_, le, [], 0, false, false⟩
def wantS (s : PSt) (nm : Int) (sc : Nat) (to by_ le : Int) : PSt × Int :=
  if wantOk nm sc to by_ le then if (getP nm s).isSome then (s, 4) else (insP (nm, newP sc to by_ le) s, 0) else (s, 1)
def addT (s : PSt) (nm : Int) (x : Part) (ht : Int) : PSt × List Paid × Int :=
  match getP nm s with
  | none => (s, [], 5)
  | some p =>
    if (mayP p (hkS s) x ht).2 ≠ 0 then (s, [], (mayP p (hkS s) x ht).2)
    else if (mayP p (hkS s) x ht).1 < p.tot then (updP nm { p with held := p.held ++ [x], sum := (mayP p (hkS s) x ht).1 } s, [], 0)
    else (updP nm { p with held := [], sum := (mayP p (hkS s) x ht).1, ovr := true, paid := true } s, (p.held ++ [x]).map (paidOf p.sec), 0)
def lateS (s : PSt) (ht : Int) : PSt × List Part := (s.map fun y => (y.1, lateP ht y.2), s.flatMap fun y => if dueP ht y.2 then y.2.held else [])
def heldP (s : PSt) (nm : Int) : List Part := ((getP nm s).map (·.held)).getD []
def overP (s : PSt) (nm : Int) : Bool × Bool := ((getP nm s).map fun p => (p.ovr, p.paid)).getD (false, false)
def sumP (l : List Part) : Int := (l.map (·.am)).sum
/-- What a payment keeps. -/
structure PayOk (p : Pay) : Prop where
  few : p.held.length ≤ 8
  sum : p.ovr = false → p.sum = sumP p.held
  low : ∀ x ∈ p.held, 1 ≤ x.am
  top : p.ovr = false → sumP p.held ≤ 1125899906842624
  gone : p.ovr = true → p.held = []
/-- What a pool keeps. -/
structure GoodP (s : PSt) : Prop where
  names : (s.map (·.1)).Nodup
  srt : Srt s
  nat : ∀ y ∈ s, 0 ≤ y.1 ∧ y.1 ≤ 9223372036854775807
  pay : ∀ y ∈ s, PayOk y.2
  keys : (s.flatMap fun y => y.2.held.map keyP).Nodup
def keysS (s : PSt) : List (Int × Int) := s.flatMap fun y => y.2.held.map keyP
theorem hkS_iff (s : PSt) (k : Int × Int) : hkS s k = true ↔ k ∈ keysS s := by
  unfold hkS keysS
  rw [List.any_eq_true, List.mem_flatMap]
  constructor
  · rintro ⟨y, hy, h⟩
    rw [List.any_eq_true] at h
    obtain ⟨x, hx, e⟩ := h
    exact ⟨y, hy, List.mem_map.2 ⟨x, hx, by simpa using e⟩⟩
  · rintro ⟨y, hy, h⟩
    obtain ⟨x, hx, e⟩ := List.mem_map.1 h
    exact ⟨y, hy, List.any_eq_true.2 ⟨x, hx, by simpa using e⟩⟩
theorem keysS_app (a b : PSt) : keysS (a ++ b) = keysS a ++ keysS b := by simp [keysS, List.flatMap_append]
theorem keysS_cons (y : Int × Pay) (b : PSt) : keysS (y :: b) = y.2.held.map keyP ++ keysS b := by simp [keysS, List.flatMap_cons]
theorem getP_split {n : Int} {p : Pay} : ∀ {s : PSt}, (s.map (·.1)).Nodup → getP n s = some p → ∃ a b, s = a ++ (n, p) :: b ∧ ∀ p', updP n p' s = a ++ (n, p') :: b
  | [], _, h => by cases h
  | y :: s, hn, h => by
    simp only [List.map_cons, List.nodup_cons] at hn
    by_cases hy : y.1 = n
    · have hp : (n, p) ∈ y :: s := getP_mem h
      rcases List.mem_cons.1 hp with h1 | h1
      · subst h1
        refine ⟨[], s, rfl, fun p' => ?_⟩
        unfold updP
        simp only [List.map_cons, if_true, List.nil_append]
        congr 1
        have : ∀ l : PSt, n ∉ l.map (·.1) → (l.map fun y => if y.1 = n then (n, p') else y) = l := by
          intro l hl
          have := List.map_congr_left (f := fun y : Int × Pay => if y.1 = n then (n, p') else y) (g := id) (l := l) (fun y hy' => if_neg (fun e => hl (List.mem_map.2 ⟨y, hy', e⟩)))
          rw [this, List.map_id]
        exact this s hn.1
      · exact absurd (List.mem_map.2 ⟨_, h1, hy.symm⟩) hn.1
    · have h2 : getP n s = some p := by
        unfold getP at h ⊢
        rw [List.find?_cons] at h
        simpa [hy] using h
      obtain ⟨a, b, e1, e2⟩ := getP_split hn.2 h2
      refine ⟨y :: a, b, by rw [e1]; rfl, fun p' => ?_⟩
      have := e2 p'
      unfold updP at this ⊢
      simp only [List.map_cons, if_neg hy, List.cons_append, this]
theorem hk_upd {n : Int} {p p' : Pay} {s : PSt} (hn : (s.map (·.1)).Nodup) (h : getP n s = some p) (k : Int × Int) : k ∈ keysS (updP n p' s) ↔ (k ∈ p'.held.map keyP ∨ (∃ y ∈ s, y.1 ≠ n ∧ k ∈ y.2.held.map keyP)) := by
  unfold updP keysS
  rw [List.mem_flatMap]
  constructor
  · rintro ⟨y, hy, hk⟩
    obtain ⟨z, hz, rfl⟩ := List.mem_map.1 hy
    by_cases e : z.1 = n
    · rw [if_pos e] at hk; exact .inl hk
    · rw [if_neg e] at hk; exact .inr ⟨z, hz, e, hk⟩
  · rintro (hk | ⟨y, hy, e, hk⟩)
    · exact ⟨(n, p'), List.mem_map.2 ⟨(n, p), getP_mem h, by simp⟩, hk⟩
    · exact ⟨y, List.mem_map.2 ⟨y, hy, by rw [if_neg e]⟩, hk⟩
theorem keys_part {n : Int} {p : Pay} {s : PSt} (hn : (s.map (·.1)).Nodup) (hk : (keysS s).Nodup) (h : getP n s = some p) {y : Int × Pay} (hy : y ∈ s) (e : y.1 ≠ n) {k : Int × Int} (h1 : k ∈ y.2.held.map keyP) : k ∉ p.held.map keyP := by
  obtain ⟨a, b, e1, _⟩ := getP_split hn h
  intro h2
  rw [e1, keysS_app, keysS_cons, List.nodup_append] at hk
  obtain ⟨_, h4, h5⟩ := hk
  rw [List.nodup_append] at h4
  rw [e1] at hy
  rcases List.mem_append.1 hy with hy | hy
  · exact h5 k (by unfold keysS; exact List.mem_flatMap.2 ⟨y, hy, h1⟩) k (List.mem_append.2 (.inl h2)) rfl
  · rcases List.mem_cons.1 hy with hy | hy
    · exact e (by rw [hy])
    · exact h4.2.2 k h2 k (by unfold keysS; exact List.mem_flatMap.2 ⟨y, hy, h1⟩) rfl
end Go.Gsp

namespace Go.Gsp
set_option linter.unusedSimpArgs false
set_option linter.unusedVariables false
open Go.Osp Go.Num
theorem mayP_ok {p : Pay} {hk : Int × Int → Bool} {x : Part} {ht : Int} (h : (mayP p hk x ht).2 = 0) :
    p.ovr = false ∧ ht < p.by_ ∧ 1 ≤ x.am ∧ x.am ≤ 1125899906842624 ∧ p.lst ≤ x.ex ∧ hk (keyP x) = false ∧ opensP p.sec x = true ∧ p.held.length < 8 ∧ (addC p.sum x.am).2 = true ∧ (mayP p hk x ht).1 = (addC p.sum x.am).1 := by
  unfold mayP at h ⊢
  split at h
  · simp at h
  split at h
  · simp at h
  split at h
  · simp at h
  split at h
  · simp at h
  split at h
  · simp at h
  split at h
  · simp at h
  split at h
  · simp at h
  split at h
  · simp at h
  rename_i h1 h2 h3 h4 h5 h6 h7 h8
  refine ⟨by simpa using h1, by omega, by omega, by omega, by omega, by simpa using h5, by simpa using h6, by omega, by simpa using h8, ?_⟩
  rw [if_neg h1, if_neg h2, if_neg h3, if_neg h4, if_neg h5, if_neg h6, if_neg h7, if_neg h8]
theorem sumP_snoc (l : List Part) (x : Part) : sumP (l ++ [x]) = sumP l + x.am := by
  unfold sumP
  rw [List.map_append, List.sum_append]
  simp
theorem PayOk.new (sc : Nat) (to by_ le : Int) : PayOk (newP sc to by_ le) := ⟨by simp [newP], fun _ => rfl, by simp [newP], by simp [newP, sumP], by simp [newP]⟩
theorem PayOk.add {p : Pay} (h : PayOk p) {hk : Int × Int → Bool} {x : Part} {ht : Int} (hm : (mayP p hk x ht).2 = 0) : PayOk { p with held := p.held ++ [x], sum := (mayP p hk x ht).1 } := by
  obtain ⟨h1, h2, h3, h4, h5, h6, h7, h8, h9, h10⟩ := mayP_ok hm
  obtain ⟨a1, a2, a3⟩ := addC_val h9
  have hs := h.sum h1
  refine ⟨by simp; omega, fun _ => ?_, ?_, fun _ => ?_, fun ho => ?_⟩
  · show (mayP p hk x ht).1 = sumP (p.held ++ [x])
    rw [sumP_snoc, h10, a1, hs]
  · intro y hy
    rcases List.mem_append.1 hy with hy | hy
    · exact h.low y hy
    · simp at hy; subst hy; exact h3
  · show sumP (p.held ++ [x]) ≤ _
    rw [sumP_snoc, ← hs]; exact a3
  · rw [show ({ p with held := p.held ++ [x], sum := (mayP p hk x ht).1 } : Pay).ovr = p.ovr from rfl, h1] at ho; cases ho
theorem PayOk.clear (p : Pay) (m : Int) (b : Bool) : PayOk { p with held := [], sum := m, ovr := true, paid := b } := ⟨by simp, fun h => (by cases h), (by simp), fun h => (by cases h), fun _ => rfl⟩
theorem PayOk.late {p : Pay} (h : PayOk p) (ht : Int) : PayOk (lateP ht p) := by
  unfold lateP
  split
  · exact ⟨by simp, fun h => (by cases h), (by simp), fun h => (by cases h), fun _ => rfl⟩
  · exact h
theorem srt_of_names {s t : PSt} (h : Srt s) (e : t.map (·.1) = s.map (·.1)) : Srt t := by
  have h1 : (s.map (·.1)).Pairwise (· ≤ ·) := List.pairwise_map.2 h
  rw [← e] at h1
  exact List.pairwise_map.1 h1
theorem nat_of_names {s t : PSt} (h : ∀ y ∈ s, 0 ≤ y.1 ∧ y.1 ≤ 9223372036854775807) (e : t.map (·.1) = s.map (·.1)) : ∀ y ∈ t, 0 ≤ y.1 ∧ y.1 ≤ 9223372036854775807 := by
  intro y hy
  have : y.1 ∈ s.map (·.1) := by rw [← e]; exact List.mem_map.2 ⟨y, hy, rfl⟩
  obtain ⟨z, hz, e2⟩ := List.mem_map.1 this
  rw [← e2]
  exact h z hz
theorem GoodP.nil : GoodP [] := ⟨List.nodup_nil, List.Pairwise.nil, by simp, by simp, List.nodup_nil⟩
theorem GoodP.upd {s : PSt} (h : GoodP s) {n : Int} {p p' : Pay} (hg : getP n s = some p) (ho : PayOk p') (hk : ∀ a b : List (Int × Int), (a ++ (p.held.map keyP ++ b)).Nodup → (∀ k ∈ a ++ (p.held.map keyP ++ b), k ∈ keysS s) → (a ++ (p'.held.map keyP ++ b)).Nodup) : GoodP (updP n p' s) := by
  refine ⟨by rw [updP_names]; exact h.names, srt_of_names h.srt (updP_names n p' s), nat_of_names h.nat (updP_names n p' s), ?_, ?_⟩
  · intro y hy
    obtain ⟨z, hz, rfl⟩ := List.mem_map.1 hy
    split
    · exact ho
    · exact h.pay z hz
  · obtain ⟨a, b, e1, e2⟩ := getP_split h.names hg
    rw [e2 p']
    show (keysS (a ++ (n, p') :: b)).Nodup
    have h1 : (keysS s).Nodup := h.keys
    have h2 : keysS s = keysS a ++ (p.held.map keyP ++ keysS b) := by rw [e1, keysS_app, keysS_cons]
    rw [keysS_app, keysS_cons]
    exact hk (keysS a) (keysS b) (by rw [← h2]; exact h1) (by rw [← h2]; exact fun k hk => hk)
theorem GoodP.add {s : PSt} (h : GoodP s) (nm : Int) (x : Part) (ht : Int) : GoodP (addT s nm x ht).1 := by
  unfold addT
  cases hg : getP nm s with
  | none => exact h
  | some p =>
    have hp := h.pay _ (getP_mem hg)
    simp only
    split
    · exact h
    · rename_i hm
      have hm := Classical.not_not.1 hm
      split
      · refine h.upd hg (hp.add hm) ?_
        intro a b hnd hin
        have hx : keyP x ∉ keysS s := fun hc => by have := (mayP_ok hm).2.2.2.2.2.1; rw [(hkS_iff s _).2 hc] at this; cases this
        have hx2 : keyP x ∉ a ++ (p.held.map keyP ++ b) := fun hc => hx (hin _ hc)
        show (a ++ ((p.held ++ [x]).map keyP ++ b)).Nodup
        rw [List.map_append, List.append_assoc, ← List.append_assoc a]
        have : (a ++ p.held.map keyP ++ ([x].map keyP ++ b)).Perm (keyP x :: (a ++ (p.held.map keyP ++ b))) := by
          rw [← List.append_assoc a]
          exact List.perm_middle
        rw [this.nodup_iff, List.nodup_cons]
        exact ⟨hx2, hnd⟩
      · refine h.upd hg (PayOk.clear p _ _) ?_
        intro a b hnd hin
        show (a ++ ([] ++ b)).Nodup
        rw [List.nil_append]
        exact hnd.sublist ((List.sublist_append_right _ _).append_left a)
theorem GoodP.want {s : PSt} (h : GoodP s) (nm : Int) (sc : Nat) (to by_ le : Int) (hn : nm ≤ 9223372036854775807) : GoodP (wantS s nm sc to by_ le).1 := by
  unfold wantS
  split
  · rename_i hw
    split
    · exact h
    · rename_i hg
      have hg : getP nm s = none := by simpa using hg
      have hp := insP_perm (nm, newP sc to by_ le) s
      refine ⟨?_, insP_srt _ _ h.srt, ?_, ?_, ?_⟩
      · rw [(hp.map (·.1)).nodup_iff]
        simp only [List.map_cons, List.nodup_cons]
        refine ⟨fun hc => ?_, h.names⟩
        obtain ⟨y, hy, e⟩ := List.mem_map.1 hc
        exact getP_none.1 hg y hy e
      · intro y hy
        rcases List.mem_cons.1 (hp.mem_iff.1 hy) with rfl | hy
        · exact ⟨hw.1, hn⟩
        · exact h.nat y hy
      · intro y hy
        rcases List.mem_cons.1 (hp.mem_iff.1 hy) with rfl | hy
        · exact PayOk.new sc to by_ le
        · exact h.pay y hy
      · have := (hp.flatMap_right (fun y => y.2.held.map keyP))
        rw [this.nodup_iff]
        simpa [List.flatMap_cons, newP] using h.keys
  · exact h
theorem late_names (s : PSt) (ht : Int) : (lateS s ht).1.map (·.1) = s.map (·.1) := by simp [lateS, List.map_map, Function.comp_def]
theorem GoodP.late {s : PSt} (h : GoodP s) (ht : Int) : GoodP (lateS s ht).1 := by
  refine ⟨by rw [late_names]; exact h.names, srt_of_names h.srt (late_names s ht), nat_of_names h.nat (late_names s ht), ?_, ?_⟩
  · intro y hy
    obtain ⟨z, hz, rfl⟩ := List.mem_map.1 hy
    exact (h.pay z hz).late ht
  · have h1 : (keysS s).Nodup := h.keys
    refine h1.sublist ?_
    unfold keysS lateS
    simp only
    rw [List.flatMap_map]
    have : ∀ l : PSt, (l.flatMap fun y => ((lateP ht y.2).held.map keyP)).Sublist (l.flatMap fun y => y.2.held.map keyP) := by
      intro l
      induction l with
      | nil => exact List.Sublist.refl _
      | cons y l ih =>
        simp only [List.flatMap_cons]
        refine List.Sublist.append ?_ ih
        unfold lateP
        split
        · exact List.nil_sublist _
        · exact List.Sublist.refl _
    exact this s
end Go.Gsp

namespace Go.Gsp
set_option linter.unusedSimpArgs false
set_option linter.unusedVariables false
open Go.Osp Go.Num
def nextP (p : Pay) (x : Part) (ht : Int) : Pay :=
  if (mayP p (hkS [(5, p)]) x ht).2 ≠ 0 then p
  else if (mayP p (hkS [(5, p)]) x ht).1 < p.tot then { p with held := p.held ++ [x], sum := (mayP p (hkS [(5, p)]) x ht).1 }
  else { p with held := [], sum := (mayP p (hkS [(5, p)]) x ht).1, ovr := true, paid := true }
def outP (p : Pay) (x : Part) (ht : Int) : List Paid :=
  if (mayP p (hkS [(5, p)]) x ht).2 ≠ 0 then [] else if (mayP p (hkS [(5, p)]) x ht).1 < p.tot then [] else (p.held ++ [x]).map (paidOf p.sec)
def errP (p : Pay) (x : Part) (ht : Int) : Int := (mayP p (hkS [(5, p)]) x ht).2
/-- What a payment keeps, part by part. -/
structure WH (l : List Part) (sec : Nat) (tot by_ le : Int) (i : Nat) (p : Pay) (T : Nat) (sm : Int) (d : Bool) : Prop where
  sec_ : p.sec = sec
  tot_ : p.tot = tot
  by_ : p.by_ = by_
  le_ : p.lst = le
  ovr : p.ovr = d
  paid : p.paid = d
  opn : d = false → p.held.length = T ∧ p.sum = sm ∧ sm < tot
  cls : d = true → p.held = []
  mem : ∀ x ∈ p.held, x ∈ l ∧ opensP sec x = true
  few : T ≤ i
  low : 0 ≤ sm ∧ sm ≤ 1125899906842624
variable {l : List Part} {sec : Nat} {tot by_ le : Int} {i T : Nat} {p : Pay} {sm : Int} {d : Bool} {x : Part} {ht : Int}
theorem WH.zero (h : wantOk 5 sec tot by_ le) : WH l sec tot by_ le 0 (newP sec tot by_ le) 0 0 false :=
  ⟨rfl, rfl, rfl, rfl, rfl, rfl, fun _ => ⟨rfl, rfl, by have := h.2.2.2.1; omega⟩, (fun h => by cases h), (by simp [newP]), Nat.le_refl _, by omega, by omega⟩
/-- What is left of it behind its height. -/
theorem WH.late (h : WH l sec tot by_ le i p T sm d) :
    (if dueP by_ p then p.held else []).length = (if d then 0 else T) ∧ (if dueP by_ (lateP by_ p) then (lateP by_ p).held else []) = [] ∧ (lateP by_ (lateP by_ p)).ovr = true ∧ (lateP by_ (lateP by_ p)).paid = d ∧ (lateP by_ (lateP by_ p)).held = [] := by
  have hb := h.by_
  have hd : dueP by_ p = !d := by unfold dueP; rw [h.ovr, hb]; simp
  have e1 : (lateP by_ p).ovr = true ∧ (lateP by_ p).paid = d ∧ (lateP by_ p).held = [] := by
    unfold lateP
    rw [hd]
    cases d
    · exact ⟨rfl, h.paid, rfl⟩
    · exact ⟨h.ovr, h.paid, h.cls rfl⟩
  have hd2 : dueP by_ (lateP by_ p) = false := by unfold dueP; rw [e1.1]; rfl
  have e2 : lateP by_ (lateP by_ p) = lateP by_ p := by unfold lateP at *; rw [if_neg (by rw [hd2]; simp)]
  refine ⟨?_, by rw [hd2]; rfl, by rw [e2]; exact e1.1, by rw [e2]; exact e1.2.1, by rw [e2]; exact e1.2.2⟩
  rw [hd]
  cases d
  · exact (h.opn rfl).1
  · rfl
end Go.Gsp

namespace Go.Gsp
open Go.Osp Go.Num
structure PAct where
  do_ : Int
  nm : Int
  sec : Nat
  tot : Int
  by_ : Int
  lst : Int
  part : Part
  ht : Int
deriving DecidableEq
def noPAct : PAct := ⟨0, 0, 0, 0, 0, 0, noPart, 0⟩
end Go.Gsp

namespace Go.Gsp
set_option linter.unusedSimpArgs false
set_option linter.unusedVariables false
open Go.Osp Go.Num
theorem getP_cons (n : Int) (y : Int × Pay) (s : PSt) : getP n (y :: s) = if y.1 = n then some y.2 else getP n s := by
  unfold getP
  rw [List.find?_cons]
  by_cases h : y.1 = n
  · simp [h]
  · simp [h]
theorem getP_late (n ht : Int) : ∀ s : PSt, getP n (lateS s ht).1 = (getP n s).map (lateP ht)
  | [] => rfl
  | y :: s => by
    have ih := getP_late n ht s
    show getP n ((y.1, lateP ht y.2) :: (lateS s ht).1) = _
    rw [getP_cons, getP_cons, ih]
    split <;> rfl
theorem want_len (s : PSt) (nm : Int) (sc : Nat) (to by_ le : Int) : (wantS s nm sc to by_ le).1.length ≤ s.length + 1 := by
  unfold wantS
  split
  · split
    · exact Nat.le_succ _
    · rw [(insP_perm _ s).length_eq]; exact Nat.le_refl _
  · exact Nat.le_succ _
theorem add_len (s : PSt) (nm : Int) (x : Part) (ht : Int) : (addT s nm x ht).1.length = s.length := by
  unfold addT
  split
  · rfl
  · split
    · rfl
    · split <;> simp [updP]
theorem add_out {s : PSt} (h : GoodP s) (nm : Int) (x : Part) (ht : Int) : (addT s nm x ht).2.1.length ≤ 9 := by
  unfold addT
  split
  · simp
  · rename_i p hg
    have := (h.pay _ (getP_mem hg)).few
    split
    · simp
    · split
      · simp
      · simp at this ⊢; omega
theorem late_len (s : PSt) (ht : Int) : (lateS s ht).1.length = s.length := by simp [lateS]
theorem mem_upd {n : Int} {p : Pay} {s : PSt} {y : Int × Pay} (h : y ∈ updP n p s) : y = (n, p) ∨ y ∈ s := by
  obtain ⟨z, hz, rfl⟩ := List.mem_map.1 h
  by_cases hh : z.1 = n
  · rw [if_pos hh]; exact .inl rfl
  · rw [if_neg hh]; exact .inr hz
/-- One pool has both payments, the other one the first alone. -/
structure AP (s t : PSt) : Prop where
  gs : GoodP s
  gt : GoodP t
  get : getP 1 s = getP 1 t
  s1 : ∀ y ∈ s, y.1 = 1 ∨ (y.1 = 2 ∧ ∀ x ∈ y.2.held, x.ch = 2)
  t1 : ∀ y ∈ t, y.1 = 1
theorem AP.nil : AP [] [] := ⟨GoodP.nil, GoodP.nil, rfl, by simp, by simp⟩
variable {s t : PSt}
theorem AP.over (h : AP s t) : overP s 1 = overP t 1 := by unfold overP; rw [h.get]
theorem AP.held (h : AP s t) : heldP s 1 = heldP t 1 := by unfold heldP; rw [h.get]
theorem AP.hk (h : AP s t) {x : Part} (hx : x.ch = 1) : hkS s (keyP x) = hkS t (keyP x) := by
  rw [Bool.eq_iff_iff, hkS_iff, hkS_iff]
  unfold keysS
  rw [List.mem_flatMap, List.mem_flatMap]
  constructor
  · rintro ⟨y, hy, hk⟩
    rcases h.s1 y hy with e | ⟨e, hc⟩
    · have h1 : getP 1 s = some y.2 := getP_of h.gs.names (by rw [← e]; exact hy)
      rw [h.get] at h1
      exact ⟨_, getP_mem h1, hk⟩
    · obtain ⟨z, hz, ez⟩ := List.mem_map.1 hk
      have := hc z hz
      have e2 : z.ch = x.ch := congrArg Prod.fst ez
      omega
  · rintro ⟨y, hy, hk⟩
    have e := h.t1 y hy
    have h1 : getP 1 t = some y.2 := getP_of h.gt.names (by rw [← e]; exact hy)
    rw [← h.get] at h1
    exact ⟨_, getP_mem h1, hk⟩
theorem AP.addN (h : AP s t) {nm : Int} (hn : nm = 2) {x : Part} (hx : x.ch = 2) (ht : Int) : AP (addT s nm x ht).1 t := by
  subst hn
  refine ⟨h.gs.add _ _ _, h.gt, ?_, ?_, h.t1⟩
  · unfold addT
    split
    · exact h.get
    · rename_i p hg
      split
      · exact h.get
      · split
        · rw [getP_upd hg]; exact h.get
        · rw [getP_upd hg]; exact h.get
  · intro y hy
    unfold addT at hy
    split at hy
    · exact h.s1 y hy
    · rename_i p hg
      have hp : ∀ z ∈ p.held, z.ch = 2 := by
        rcases h.s1 _ (getP_mem hg) with e | ⟨_, e⟩
        · simp at e
        · exact e
      split at hy
      · exact h.s1 y hy
      · split at hy
        · rcases mem_upd hy with rfl | hy
          · refine .inr ⟨rfl, fun z hz => ?_⟩
            rcases List.mem_append.1 hz with hz | hz
            · exact hp z hz
            · simp at hz; subst hz; exact hx
          · exact h.s1 y hy
        · rcases mem_upd hy with rfl | hy
          · exact .inr ⟨rfl, by simp⟩
          · exact h.s1 y hy
theorem AP.late (h : AP s t) (ht : Int) : AP (lateS s ht).1 (lateS t ht).1 := by
  refine ⟨h.gs.late ht, h.gt.late ht, ?_, ?_, ?_⟩
  · rw [getP_late, getP_late, h.get]
  · intro y hy
    obtain ⟨z, hz, rfl⟩ := List.mem_map.1 hy
    rcases h.s1 z hz with e | ⟨e, hc⟩
    · exact .inl e
    · refine .inr ⟨e, fun x hx => ?_⟩
      unfold lateP at hx
      split at hx
      · simp at hx
      · exact hc x hx
  · intro y hy
    obtain ⟨z, hz, rfl⟩ := List.mem_map.1 hy
    exact h.t1 z hz
end Go.Gsp

namespace Go.Gsp
set_option linter.unusedSimpArgs false
set_option linter.unusedVariables false
open Go.Osp Go.Num Go.Hsp
def prtH (sec : Nat) (am : List Int) (bl : List Nat) (i : Nat) : Part := ⟨3, i, am.getD i 0, 60, base (addS sec (bl.getD i 0)), bl.getD i 0⟩
def sumA (am : List Int) (n : Nat) : Int := (am.take n).sum
theorem sumA_zero (am : List Int) : sumA am 0 = 0 := by simp [sumA]
theorem sumA_next {am : List Int} {n : Nat} (h : n < am.length) : sumA am (n + 1) = sumA am n + am.getD n 0 := by
  unfold sumA
  rw [List.take_add_one, List.sum_append]
  simp [h]
/-- What is asked of the numbers. -/
structure PH (am : List Int) (bl : List Nat) (n : Nat) : Prop where
  one : 1 ≤ n
  eight : n ≤ 8
  am_ : n ≤ am.length
  low : ∀ j, j < n → 1 ≤ am.getD j 0 ∧ am.getD j 0 ≤ 1099511627776
  bl_ : ∀ j, j < n → bl.getD j 0 < q
theorem PH.sum {am : List Int} {bl : List Nat} {n : Nat} (h : PH am bl n) : ∀ i, i ≤ n → (i : Int) ≤ sumA am i ∧ sumA am i ≤ 1099511627776 * i
  | 0, _ => by rw [sumA_zero]; omega
  | i + 1, hi => by
    have := h.sum i (by omega)
    have := h.low i (by omega)
    have := h.am_
    rw [sumA_next (by omega)]
    omega
theorem PH.lt {am : List Int} {bl : List Nat} {n : Nat} (h : PH am bl n) : ∀ d i, i + d + 1 = n → sumA am i < sumA am n
  | 0, i, e => by
    have := h.low i (by omega)
    have := h.am_
    rw [← e, Nat.add_zero, sumA_next (by omega)]
    omega
  | d + 1, i, e => by
    have := h.lt d (i + 1) (by omega)
    have := h.low i (by omega)
    have := h.am_
    rw [sumA_next (by omega)] at *
    omega
theorem addC_of {a b : Int} (h1 : 0 ≤ a) (h2 : 0 ≤ b) (h3 : a + b ≤ 1125899906842624) : addC a b = (a + b, true) := by
  unfold addC
  rw [if_pos]
  simp [coinB, inB]
  omega
theorem mayP_of {p : Pay} {hk : Int × Int → Bool} {x : Part} {ht : Int} (h1 : p.ovr = false) (h2 : ht < p.by_) (h3 : 1 ≤ x.am) (h4 : x.am ≤ 1125899906842624) (h5 : p.lst ≤ x.ex) (h6 : hk (keyP x) = false) (h7 : opensP p.sec x = true) (h8 : p.held.length < 8) (h9 : 0 ≤ p.sum) (h10 : p.sum + x.am ≤ 1125899906842624) : mayP p hk x ht = (p.sum + x.am, 0) := by
  unfold mayP
  rw [addC_of h9 (by omega) h10, if_neg (by simp [h1]), if_neg (by omega), if_neg (by omega), if_neg (by omega), if_neg (by simp [h6]), if_neg (by simp [h7]), if_neg (by omega), if_neg (by simp)]
/-- A payment of which i parts have come. -/
structure PW (sec : Nat) (am : List Int) (bl : List Nat) (n i : Nat) (p : Pay) (out : List Paid) : Prop where
  sec_ : p.sec = sec
  tot_ : p.tot = sumA am n
  by_ : p.by_ = 50
  lst_ : p.lst = 60
  opn : i < n → p.ovr = false ∧ p.paid = false ∧ p.held = (List.range i).map (prtH sec am bl) ∧ p.sum = sumA am i ∧ out = []
  cls : i = n → p.ovr = true ∧ p.paid = true ∧ out = (List.range n).map (fun j => paidOf sec (prtH sec am bl j))
variable {sec n i : Nat} {am : List Int} {bl : List Nat} {p : Pay} {out : List Paid}
theorem PW.zero (h : PH am bl n) : PW sec am bl n 0 (newP sec (sumA am n) 50 60) [] := ⟨rfl, rfl, rfl, rfl, fun _ => ⟨rfl, rfl, rfl, by rw [sumA_zero]; rfl, rfl⟩, fun e => by have := h.one; omega⟩
theorem PH.want (h : PH am bl n) (h0 : sec ≠ 0) (hq : sec < q) : wantOk 9 sec (sumA am n) 50 60 := by
  have := h.sum n (Nat.le_refl _)
  have := h.one
  have := h.eight
  exact ⟨by omega, h0, hq, by omega, by omega, by omega, by omega, by omega, by omega⟩
theorem PW.may (h : PW sec am bl n i p out) (hp : PH am bl n) (hi : i < n) : mayP p (hkS [(5, p)]) (prtH sec am bl i) 10 = (sumA am (i + 1), 0) := by
  obtain ⟨o1, o2, o3, o4, o5⟩ := h.opn hi
  have l1 := hp.low i hi
  have l2 := hp.sum i (by omega)
  have l3 := hp.eight
  have l4 := hp.am_
  have l5 := hp.sum (i + 1) (by omega)
  rw [sumA_next (by omega)] at l5 ⊢
  rw [← o4] at l2 l5 ⊢
  refine mayP_of o1 (by rw [h.by_]; omega) l1.1 (by show am.getD i 0 ≤ _; omega) (by rw [h.lst_]; exact Int.le_refl _) ?_ ?_ (by rw [o3]; simp; omega) (by omega) (by show p.sum + am.getD i 0 ≤ _; omega)
  · rw [Bool.eq_false_iff]
    intro hk
    rw [hkS_iff, keysS_cons] at hk
    simp only [keysS, List.flatMap_nil, List.append_nil] at hk
    rw [o3, List.map_map] at hk
    obtain ⟨j, hj, e⟩ := List.mem_map.1 hk
    have e2 := congrArg Prod.snd e
    simp only [Function.comp, keyP, prtH] at e2
    have := List.mem_range.1 hj
    omega
  · unfold opensP
    rw [h.sec_]
    simp [prtH, hp.bl_ i hi, -List.getD_eq_getElem?_getD]
theorem PW.step (h : PW sec am bl n i p out) (hp : PH am bl n) (hi : i < n) :
    errP p (prtH sec am bl i) 10 = 0 ∧ (decide ((0 : Int) < (((outP p (prtH sec am bl i) 10).length : Nat) : Int)) = decide (((i : Nat) : Int) = ((n : Nat) : Int) - 1)) ∧ PW sec am bl n (i + 1) (nextP p (prtH sec am bl i) 10) (outP p (prtH sec am bl i) 10) := by
  obtain ⟨o1, o2, o3, o4, o5⟩ := h.opn hi
  have hm := h.may hp hi
  have l4 := hp.am_
  refine ⟨by unfold errP; rw [hm], ?_, ?_⟩
  · by_cases hl : i + 1 = n
    · have eo : outP p (prtH sec am bl i) 10 = (p.held ++ [prtH sec am bl i]).map (paidOf p.sec) := by unfold outP; rw [hm, if_neg (by simp), h.tot_, hl, if_neg (by simp)]
      rw [eo]
      simp
      omega
    · have := hp.lt (n - (i + 1) - 1) (i + 1) (by omega)
      have eo : outP p (prtH sec am bl i) 10 = [] := by unfold outP; rw [hm, if_neg (by simp), h.tot_, if_pos (by simpa using this)]
      rw [eo]
      simp
      omega
  · by_cases hl : i + 1 = n
    · have eo : outP p (prtH sec am bl i) 10 = (p.held ++ [prtH sec am bl i]).map (paidOf p.sec) := by unfold outP; rw [hm, if_neg (by simp), h.tot_, hl, if_neg (by simp)]
      have en : nextP p (prtH sec am bl i) 10 = { p with held := [], sum := sumA am (i + 1), ovr := true, paid := true } := by unfold nextP; rw [hm, if_neg (by simp), h.tot_, hl, if_neg (by simp)]
      rw [eo, en]
      refine ⟨h.sec_, h.tot_, h.by_, h.lst_, fun hh => by omega, fun _ => ⟨rfl, rfl, ?_⟩⟩
      rw [o3, h.sec_, ← hl, List.range_succ, List.map_append, List.map_append, List.map_map]
      rfl
    · have := hp.lt (n - (i + 1) - 1) (i + 1) (by omega)
      have eo : outP p (prtH sec am bl i) 10 = [] := by unfold outP; rw [hm, if_neg (by simp), h.tot_, if_pos (by simpa using this)]
      have en : nextP p (prtH sec am bl i) 10 = { p with held := p.held ++ [prtH sec am bl i], sum := sumA am (i + 1) } := by unfold nextP; rw [hm, if_neg (by simp), h.tot_, if_pos (by simpa using this)]
      rw [eo, en]
      refine ⟨h.sec_, h.tot_, h.by_, h.lst_, fun hh => ⟨o1, o2, ?_, rfl, rfl⟩, fun hh => absurd hh hl⟩
      show p.held ++ [prtH sec am bl i] = _
      rw [o3, List.range_succ, List.map_append]
      rfl
end Go.Gsp

