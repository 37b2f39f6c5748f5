/- LedgerTells: for every input the law answers true and leaves its arguments as they were. -/

namespace Go.Num
/-- Powers modulo, by squaring. -/
def pm (m : Nat) : Nat → Nat → Nat → Nat → Nat
  | 0, _, _, out => out
  | f + 1, a, n, out => pm m f (a * a % m) (n / 2) (if n % 2 = 1 then out * a % m else out)
theorem pm_eq (m : Nat) : ∀ (f a n out : Nat), n < 2 ^ f → out < m → pm m f a n out = out * a ^ n % m
  | 0, a, n, out, h, ho => by
    have : n = 0 := by simpa using h
    subst this
    simp [pm, Nat.mod_eq_of_lt ho]
  | f + 1, a, n, out, h, ho => by
    have hm : 0 < m := by omega
    have hn : n / 2 < 2 ^ f := by rw [Nat.pow_succ] at h; omega
    rw [pm]
    by_cases hp : n % 2 = 1
    · rw [if_pos hp, pm_eq m f _ _ _ hn (Nat.mod_lt _ hm)]
      have e : a ^ n = a * (a * a) ^ (n / 2) := by
        have hn2 : n = 2 * (n / 2) + 1 := by omega
        conv => lhs; rw [hn2]
        rw [Nat.pow_succ, Nat.pow_mul, Nat.pow_two, Nat.mul_comm]
      rw [e, Nat.mul_mod, Nat.mod_mod, ← Nat.pow_mod, ← Nat.mul_mod, Nat.mul_assoc]
    · rw [if_neg hp, pm_eq m f _ _ _ hn ho]
      have e : a ^ n = (a * a) ^ (n / 2) := by
        have hn2 : n = 2 * (n / 2) := by omega
        conv => lhs; rw [hn2]
        rw [Nat.pow_mul, Nat.pow_two]
      rw [e, Nat.mul_mod, ← Nat.pow_mod, ← Nat.mul_mod]
/-- The least number that has a property. -/
theorem least {p : Nat → Prop} [DecidablePred p] (n : Nat) (h : p n) : ∃ k, k ≤ n ∧ p k ∧ ∀ j, j < k → ¬ p j := by
  induction n using Nat.strongRecOn with
  | ind n ih =>
    by_cases hs : ∃ j, j < n ∧ p j
    · obtain ⟨j, hj, hp⟩ := hs
      obtain ⟨k, h1, h2, h3⟩ := ih j hj hp
      exact ⟨k, by omega, h2, h3⟩
    · exact ⟨n, Nat.le_refl _, h, fun j hj hp => hs ⟨j, hj, hp⟩⟩
end Go.Num

namespace Go.Num
def q : Nat := 2305843009213688669
def M : Nat := 4611686018427377339
theorem M_one : 1 < M := by decide
/-- A power modulo the modulus, of an exponent below 2^64. -/
def pw (a n : Nat) : Nat := pm M 64 a n 1
theorem pw_eq (a n : Nat) (h : n < 18446744073709551616) : pw a n = a ^ n % M := by
  have h64 : n < 2 ^ 64 := by rw [show (2 : Nat) ^ 64 = 18446744073709551616 by decide]; exact h
  rw [pw, pm_eq M 64 a n 1 h64 M_one, Nat.one_mul]
theorem step1 (a n out : Nat) (h : n % 2 = 1) : (out * a % M) * (a * a % M) ^ (n / 2) % M = out * a ^ n % M := by
  have e : a ^ n = a * (a * a) ^ (n / 2) := by
    have hn2 : n = 2 * (n / 2) + 1 := by omega
    conv => lhs; rw [hn2]
    rw [Nat.pow_succ, Nat.pow_mul, Nat.pow_two, Nat.mul_comm]
  rw [e, Nat.mul_mod, Nat.mod_mod, ← Nat.pow_mod, ← Nat.mul_mod, Nat.mul_assoc]
theorem step0 (a n out : Nat) (h : ¬ n % 2 = 1) : out * (a * a % M) ^ (n / 2) % M = out * a ^ n % M := by
  have e : a ^ n = (a * a) ^ (n / 2) := by
    have hn2 : n = 2 * (n / 2) := by omega
    conv => lhs; rw [hn2]
    rw [Nat.pow_mul, Nat.pow_two]
  rw [e, Nat.mul_mod, ← Nat.pow_mod, ← Nat.mul_mod]
theorem pw_start (a n : Nat) (h : n < 18446744073709551616) : 1 * a ^ n % M = pw a n := by rw [pw_eq a n h, Nat.one_mul]
theorem pw_end (a out : Nat) (h : out < M) : out * a ^ 0 % M = out := by rw [Nat.pow_zero, Nat.mul_one, Nat.mod_eq_of_lt h]
theorem q_lt : q < 18446744073709551616 := by decide
def right (p : Nat) : Bool := decide (0 < p) && decide (p < M) && decide (pw p q = 1)
theorem right_iff (p : Nat) : right p = true ↔ 0 < p ∧ p < M ∧ p ^ q % M = 1 := by
  unfold right
  rw [pw_eq p q q_lt]
  simp [and_assoc]
def taken (p : Nat) : Nat := if right p then p else 1
def scale (p k : Nat) : Nat := pw (taken p) (k % q)
def base (k : Nat) : Nat := scale 4 k
def addS (a b : Nat) : Nat := (a % q + b % q) % q
theorem right_one : right 1 = true := by decide +kernel
theorem right_taken (p : Nat) : right (taken p) = true := by
  unfold taken
  split
  · assumption
  · exact right_one
end Go.Num

namespace Go.Hsp
abbrev Byte := BitVec 8
abbrev Word := BitVec 32
/-- A number as eight bytes. -/
def be8 (m : Nat) : List Byte := [56, 48, 40, 32, 24, 16, 8, 0].map fun k => BitVec.ofNat 8 (m >>> k)
/-- A word turned to the right by k. -/
def rot (x : Word) (k : Nat) : Word := x <<< (32 - k) ||| x >>> k
def be32 (b : List Byte) : Word := (b.getD 0 0).setWidth 32 <<< 24 ||| (b.getD 1 0).setWidth 32 <<< 16 ||| (b.getD 2 0).setWidth 32 <<< 8 ||| (b.getD 3 0).setWidth 32
def nextWord (w : List Word) (k : Nat) : Word :=
  w.getD (k - 16) 0 + (rot (w.getD (k - 15) 0) 7 ^^^ rot (w.getD (k - 15) 0) 18 ^^^ (w.getD (k - 15) 0) >>> 3) + w.getD (k - 7) 0
    + (rot (w.getD (k - 2) 0) 17 ^^^ rot (w.getD (k - 2) 0) 19 ^^^ (w.getD (k - 2) 0) >>> 10)
def schedTo (b : List Byte) : Nat → List Word
  | 0 => []
  | k + 1 => schedTo b k ++ [if k < 16 then be32 (b.drop (4 * k)) else nextWord (schedTo b k) k]
def sched (b : List Byte) : List Word := schedTo b 64
def table : List Word := [
  0x428a2f98, 0x71374491, 0xb5c0fbcf, 0xe9b5dba5, 0x3956c25b, 0x59f111f1, 0x923f82a4, 0xab1c5ed5,
  0xd807aa98, 0x12835b01, 0x243185be, 0x550c7dc3, 0x72be5d74, 0x80deb1fe, 0x9bdc06a7, 0xc19bf174,
  0xe49b69c1, 0xefbe4786, 0x0fc19dc6, 0x240ca1cc, 0x2de92c6f, 0x4a7484aa, 0x5cb0a9dc, 0x76f988da,
  0x983e5152, 0xa831c66d, 0xb00327c8, 0xbf597fc7, 0xc6e00bf3, 0xd5a79147, 0x06ca6351, 0x14292967,
  0x27b70a85, 0x2e1b2138, 0x4d2c6dfc, 0x53380d13, 0x650a7354, 0x766a0abb, 0x81c2c92e, 0x92722c85,
  0xa2bfe8a1, 0xa81a664b, 0xc24b8b70, 0xc76c51a3, 0xd192e819, 0xd6990624, 0xf40e3585, 0x106aa070,
  0x19a4c116, 0x1e376c08, 0x2748774c, 0x34b0bcb5, 0x391c0cb3, 0x4ed8aa4a, 0x5b9cca4f, 0x682e6ff3,
  0x748f82ee, 0x78a5636f, 0x84c87814, 0x8cc70208, 0x90befffa, 0xa4506ceb, 0xbef9a3f7, 0xc67178f2]
def first : List Word := [0x6a09e667, 0xbb67ae85, 0x3c6ef372, 0xa54ff53a, 0x510e527f, 0x9b05688c, 0x1f83d9ab, 0x5be0cd19]
/-- One round. -/
def stepW (v : List Word) (k w : Word) : List Word :=
  let s := rot (v.getD 4 0) 6 ^^^ rot (v.getD 4 0) 11 ^^^ rot (v.getD 4 0) 25
  let t := v.getD 7 0 + s + (v.getD 6 0 ^^^ v.getD 4 0 &&& (v.getD 5 0 ^^^ v.getD 6 0)) + k + w
  let r := rot (v.getD 0 0) 2 ^^^ rot (v.getD 0 0) 13 ^^^ rot (v.getD 0 0) 22
  let most := v.getD 0 0 &&& v.getD 1 0 ||| v.getD 2 0 &&& (v.getD 0 0 ||| v.getD 1 0)
  [t + r + most, v.getD 0 0, v.getD 1 0, v.getD 2 0, v.getD 3 0 + t, v.getD 4 0, v.getD 5 0, v.getD 6 0]
def roundsTo (h : List Word) (ws : List Word) : Nat → List Word
  | 0 => h
  | i + 1 => stepW (roundsTo h ws i) (table.getD i 0) (ws.getD i 0)
/-- The first i words added. -/
def addTo (v h : List Word) (i : Nat) : List Word := (List.range 8).map fun j => if j < i then v.getD j 0 + h.getD j 0 else v.getD j 0
def mix (h : List Word) (b : List Byte) : List Word := addTo (roundsTo h (sched b) 64) h 8
/-- All whole blocks mixed in. -/
def mixN (h : List Word) (b : List Byte) : Nat → List Word
  | 0 => h
  | n + 1 => mixN (mix h (b.take 64)) (b.drop 64) n
def mixAll (h : List Word) (b : List Byte) : List Word := mixN h b (b.length / 64)
/-- How many noughts are wanted. -/
def noughts (n : Nat) : Nat := (64 + 55 - n % 64) % 64
def tail (b : List Byte) : List Byte := b.drop (b.length - b.length % 64) ++ [128] ++ List.replicate (noughts b.length) 0 ++ be8 (8 * b.length)
def digest (h : List Word) : List Byte := (List.range 32).map fun k => ((h.getD (k / 4) 0) >>> (24 - 8 * (k % 4))).setWidth 8
def sum (b : List Byte) : List Byte := digest (mixAll (mixAll first b) (tail b))
/-- A name and parts, each behind its length. -/
def tagBytes (name : List Byte) : List (List Byte) → List Byte
  | parts => be8 name.length ++ name ++ (parts.map fun p => be8 p.length ++ p).flatten
def tag (name : List Byte) (parts : List (List Byte)) : List Byte := sum (tagBytes name parts)
end Go.Hsp

namespace Go.Hsp
def nStream : List Byte := [115, 116, 114, 101, 97, 109]
def streamTo (key : List Byte) (j : Nat) : List Byte := ((List.range j).map fun i => tag nStream [key, be8 i]).flatten
def stream (key : List Byte) (n : Nat) : List Byte := (streamTo key ((n + 31) / 32)).take n
def xorB (a b : List Byte) : List Byte := List.zipWith (· ^^^ ·) a b
end Go.Hsp

namespace Go.Osp
open Go.Hsp Go.Num
abbrev Stop := Nat × List Byte
def nRho : List Byte := [114, 104, 111]
def rho (s : Stop) (n : Nat) : List Byte := stream (tag nRho [s.2]) n
def zeros (n : Nat) : List Byte := List.replicate n 0
def put (r f : List Byte) : List Byte := r.take (r.length - f.length) ++ f
/-- All that is seen by who peels a route at a stop. -/
def opened (s : Stop) (r : List Byte) : List Byte := xorB (r ++ zeros 80) (rho s 720)
end Go.Osp

namespace Go.Gsp
set_option linter.unusedSimpArgs false
set_option linter.unusedVariables false
open Go.Osp
structure Pol where
  b : Int
  p : Int
  d : Int
  l : Int
  m : Int
deriving DecidableEq
structure Edge where
  f : Int
  t : Int
  c : Int
  r : Int
  pol : Pol
deriving DecidableEq
def noPol : Pol := ⟨0, 0, 0, 0, 0⟩
def noEdge : Edge := ⟨0, 0, 0, 0, noPol⟩
def inB (n lo hi : Int) : Bool := decide (lo ≤ n ∧ n ≤ hi)
/-- Is a policy right? -/
def polOk (p : Pol) : Bool := inB p.b 0 1125899906842624 && inB p.l 0 p.m && inB p.m 0 1125899906842624 && inB p.p 0 1000000 && inB p.d 0 1048576
def edgeOk (e : Edge) : Bool := inB e.f 0 11 && inB e.t 0 11 && decide (e.f ≠ e.t) && inB e.c 0 39 && inB e.r 1 1125899906842624 && polOk e.pol
def coinB (a : Int) : Bool := inB a 0 1125899906842624
/-- Coins added up. -/
def addC (a b : Int) : Int × Bool := if coinB a && coinB b && decide (a ≤ 1125899906842624 - b) then (a + b, true) else (0, false)
def cmpI (a b : Int) : Int := if a < b then -1 else if b < a then 1 else 0
/-- Which edge stands ahead. -/
def ordE (a b : Edge) : Int := if cmpI a.c b.c ≠ 0 then cmpI a.c b.c else cmpI a.f b.f
/-- Does the edge at i fit to those ahead of it? -/
def RightAt (l : List Edge) (i : Nat) : Prop :=
  edgeOk (l.getD i noEdge) = true ∧ (0 < i → ordE (l.getD (i - 1) noEdge) (l.getD i noEdge) < 0) ∧
    ((0 < i ∧ (l.getD (i - 1) noEdge).c = (l.getD i noEdge).c) → ¬ (1 < i ∧ (l.getD (i - 2) noEdge).c = (l.getD i noEdge).c) ∧ (l.getD (i - 1) noEdge).f = (l.getD i noEdge).t ∧ (l.getD (i - 1) noEdge).t = (l.getD i noEdge).f ∧ (l.getD (i - 1) noEdge).r = (l.getD i noEdge).r)
instance (l : List Edge) (i : Nat) : Decidable (RightAt l i) := by unfold RightAt; infer_instance
def RightP (l : List Edge) : Prop := ∀ i, i < l.length → RightAt l i
instance (l : List Edge) : Decidable (RightP l) := by unfold RightP; infer_instance
/-- Edges that are a way. -/
def WayAt (l : List Edge) (i : Nat) : Prop := edgeOk (l.getD i noEdge) = true ∧ (0 < i → (l.getD (i - 1) noEdge).t = (l.getD i noEdge).f) ∧ ∀ k, k ≤ i → (l.getD k noEdge).f ≠ (l.getD i noEdge).t
instance (l : List Edge) (i : Nat) : Decidable (WayAt l i) := by unfold WayAt; infer_instance
def WayP (l : List Edge) : Prop := (1 ≤ l.length ∧ l.length ≤ 8) ∧ ∀ i, i < l.length → WayAt l i
instance (l : List Edge) : Decidable (WayP l) := by unfold WayP; infer_instance
theorem inB_T {n lo hi : Int} (h : inB n lo hi = true) : lo ≤ n ∧ n ≤ hi := of_decide_eq_true h
end Go.Gsp

namespace Go.Gsp
set_option linter.unusedSimpArgs false
set_option linter.unusedVariables false
open Go.Osp
variable {a x am ex er : Int} {l : List (Int × Int)} {xs : List Edge} {j : Nat}
theorem addC_val {a b : Int} (h : (addC a b).2 = true) : (addC a b).1 = a + b ∧ 0 ≤ a + b ∧ a + b ≤ 1125899906842624 := by
  unfold addC at *
  split at h
  · rename_i hc
    simp only [coinB, Bool.and_eq_true, decide_eq_true_eq] at hc
    have h1 := inB_T hc.1.1
    have h2 := inB_T hc.1.2
    exact ⟨by rw [if_pos (by simp [coinB, hc])], by omega, by omega⟩
  · cases h
end Go.Gsp
namespace Go.Gsp
set_option linter.unusedSimpArgs false
set_option linter.unusedVariables false
end Go.Gsp
namespace Go.Gsp
set_option linter.unusedSimpArgs false
set_option linter.unusedVariables false
variable {a x : Int}
end Go.Gsp
namespace Go.Gsp
set_option linter.unusedSimpArgs false
set_option linter.unusedVariables false
variable {a x : Int}
end Go.Gsp
namespace Go.Gsp
set_option linter.unusedSimpArgs false
set_option linter.unusedVariables false
open Go.Osp Go.Num
end Go.Gsp

namespace Go.Lsp
set_option linter.unusedSimpArgs false
set_option linter.unusedVariables false
open Go.Gsp Go.Num
structure Seat where
  ch : Int
  p0 : Int
  p1 : Int
  h0 : Int
  h1 : Int
deriving DecidableEq
def noSeat : Seat := ⟨0, 0, 0, 0, 0⟩
structure Hold where
  am : Int
  pt : Nat
deriving DecidableEq
def noHold : Hold := ⟨0, 0⟩
structure Spot where
  ch : Int
  side : Int
  id : Int
deriving DecidableEq
def noSpot : Spot := ⟨0, 0, 0⟩
structure Leg where
  ch : Int
  side : Int
  am : Int
deriving DecidableEq
def noLeg : Leg := ⟨0, 0, 0⟩
def Seat.p (s : Seat) (i : Nat) : Int := if i = 0 then s.p0 else s.p1
def Seat.h (s : Seat) (i : Nat) : Int := if i = 0 then s.h0 else s.h1
def Seat.setH (s : Seat) (i : Nat) (v : Int) : Seat := if i = 0 then { s with h0 := v } else { s with h1 := v }
def coinL (n : Int) : Bool := decide (0 ≤ n ∧ n ≤ 1125899906842624)
/-- May a seat be, among so many parties? -/
def mayL (n : Nat) (s : Seat) : Prop := (0 ≤ s.p0 ∧ s.p0 < n ∧ 0 ≤ s.h0 ∧ s.h0 ≤ 1125899906842624) ∧ (0 ≤ s.p1 ∧ s.p1 < n ∧ 0 ≤ s.h1 ∧ s.h1 ≤ 1125899906842624) ∧ 0 ≤ s.ch ∧ s.ch < 40 ∧ s.p0 ≠ s.p1
instance mayL_dec (n : Nat) (s : Seat) : Decidable (mayL n s) := by unfold mayL; infer_instance
theorem mayL_all {n : Nat} {s : Seat} : mayL n s ↔ (∀ i, i < 2 → 0 ≤ s.p i ∧ s.p i < n ∧ 0 ≤ s.h i ∧ s.h i ≤ 1125899906842624) ∧ 0 ≤ s.ch ∧ s.ch < 40 ∧ s.p0 ≠ s.p1 := by
  unfold mayL
  constructor
  · rintro ⟨h0, h1, h2⟩
    refine ⟨fun i hi => ?_, h2⟩
    have : i = 0 ∨ i = 1 := by omega
    rcases this with rfl | rfl
    · exact h0
    · exact h1
  · rintro ⟨h, h2⟩
    exact ⟨h 0 (by omega), h 1 (by omega), h2⟩
theorem perm_sumI {a b : List Int} (h : a.Perm b) : a.sum = b.sum := by
  induction h with
  | nil => rfl
  | cons x _ ih => simp [ih]
  | swap x y l => simp; omega
  | trans _ _ h1 h2 => exact h1.trans h2
section
variable {κ β : Type}
/-- A sum over a map's entries. -/
def sumF (f : κ → β → Int) (l : List (Nat × κ × β)) : Int := (l.map fun x => f x.2.1 x.2.2).sum
theorem sumF_nil (f : κ → β → Int) : sumF f [] = 0 := rfl
theorem sumF_cons (f : κ → β → Int) (x : Nat × κ × β) (l : List (Nat × κ × β)) : sumF f (x :: l) = f x.2.1 x.2.2 + sumF f l := rfl
theorem sumF_perm {f : κ → β → Int} {a b : List (Nat × κ × β)} (h : a.Perm b) : sumF f a = sumF f b := by
  unfold sumF
  exact perm_sumI (h.map _)
theorem sumF_nonneg {f : κ → β → Int} : ∀ {l : List (Nat × κ × β)}, (∀ x ∈ l, 0 ≤ f x.2.1 x.2.2) → 0 ≤ sumF f l
  | [], _ => by simp [sumF]
  | x :: l, h => by
    have h1 := sumF_nonneg (l := l) (fun y hy => h y (List.mem_cons_of_mem _ hy))
    have h2 := h x List.mem_cons_self
    rw [sumF_cons]
    omega
end
/-- What a side offers. -/
def heldF (ch side : Int) (k : Spot) (h : Hold) : Int := if k.ch = ch ∧ k.side = side then h.am else 0
abbrev HM := List (Nat × Spot × Hold)
abbrev SM := List (Nat × Int × Seat)
def heldL (lh : HM) (ch side : Int) : Int := sumF (heldF ch side) lh
def worthF (lh : HM) (party : Int) (ch : Int) (s : Seat) : Int := (if s.p0 = party then s.h0 + heldL lh ch 0 else 0) + (if s.p1 = party then s.h1 + heldL lh ch 1 else 0)
def ownL (own : List Int) (party : Int) : Int := if 0 ≤ party ∧ party < own.length then own.getD party.toNat 0 else 0
def worthL (own : List Int) (ls : SM) (lh : HM) (party : Int) : Int := ownL own party + sumF (worthF lh party) ls
/-- A ledger: what parties own, channels, what is offered, what is lost; the maps with their entries' stamps. -/
structure Led where
  own : List Int
  ls : SM
  cs : Nat
  lh : HM
  ck : Nat
  lost : Int
deriving DecidableEq
def giveO (own : List Int) (s : Seat) (j : Nat) (am fee : Int) : List Int := own.set (s.p j).toNat (own.getD (s.p j).toNat 0 - (am + fee))
theorem giveO_len (own : List Int) (s : Seat) (j : Nat) (am fee : Int) : (giveO own s j am fee).length = own.length := by simp [giveO]
theorem giveO_ne {own : List Int} {s : Seat} {j k : Nat} {am fee : Int} (h0 : 0 ≤ s.p j) (h1 : 0 ≤ s.p k) (hn : s.p j ≠ s.p k) : (giveO own s j am fee).getD (s.p k).toNat 0 = own.getD (s.p k).toNat 0 := by
  unfold giveO
  rw [List.getD_eq_getElem?_getD, List.getElem?_set_ne (by omega), ← List.getD_eq_getElem?_getD]
def updM {κ β : Type} [DecidableEq κ] (key : κ) (u : β) (l : List (Nat × κ × β)) : List (Nat × κ × β) := l.map fun y => if y.2.1 = key then (y.1, key, u) else y
def delM {κ β : Type} [DecidableEq κ] (key : κ) (l : List (Nat × κ × β)) : List (Nat × κ × β) := l.filter fun y => decide (y.2.1 ≠ key)
theorem updM_new {κ β : Type} [DecidableEq κ] {key : κ} {z u : β} {l : List (Nat × κ × β)} {b : Nat} (h : ∀ x ∈ l, x.2.1 ≠ key) : updM key u (l ++ [(b, key, z)]) = l ++ [(b, key, u)] := by
  unfold updM
  rw [List.map_append]
  have : (l.map fun y => if y.2.1 = key then (y.1, key, u) else y) = l.map id := List.map_congr_left fun y hy => by rw [if_neg (h y hy)]; rfl
  rw [this, List.map_id]
  simp
/-- What may be offered. -/
def offerOk (side id am : Int) (pt : Nat) : Prop := (0 ≤ side ∧ side ≤ 1) ∧ 1 ≤ id ∧ (1 ≤ am ∧ am ≤ 1125899906842624) ∧ pt ≠ 1 ∧ right pt = true
/-- May a ledger begin with these numbers? -/
def newOk (own : List Int) : Prop := (1 ≤ own.length ∧ own.length ≤ 12) ∧ (∀ x ∈ own, 0 ≤ x) ∧ own.sum ≤ 1125899906842624
instance newOk_dec (own : List Int) : Decidable (newOk own) := by unfold newOk; infer_instance
theorem sum_take_le : ∀ (l : List Int), (∀ x ∈ l, 0 ≤ x) → ∀ k, 0 ≤ (l.take k).sum ∧ (l.take k).sum ≤ l.sum
  | [], _, k => by simp
  | x :: l, h, 0 => by
    have h1 := sum_take_le l (fun y hy => h y (List.mem_cons_of_mem _ hy)) l.length
    rw [List.take_length] at h1
    have h2 := h x List.mem_cons_self
    simp only [List.take_zero, List.sum_nil, List.sum_cons]
    omega
  | x :: l, h, k + 1 => by
    have h1 := sum_take_le l (fun y hy => h y (List.mem_cons_of_mem _ hy)) k
    have h2 := h x List.mem_cons_self
    simp only [List.take_succ_cons, List.sum_cons]
    omega
theorem sum_take_next {l : List Int} {k : Nat} (h : k < l.length) : (l.take (k + 1)).sum = (l.take k).sum + l.getD k 0 := by
  rw [List.take_add_one, List.sum_append]
  simp [h]
theorem new_bad {own : List Int} {k : Nat} (hk : k < own.length) (h : (addC (own.take k).sum (own.getD k 0)).2 = false) : ¬ newOk own := by
  rintro ⟨_, h1, h2⟩
  have h3 := sum_take_le own h1 k
  have h4 := sum_take_le own h1 (k + 1)
  rw [sum_take_next hk] at h4
  have h5 : 0 ≤ own.getD k 0 := h1 _ (by rw [List.getD_eq_getElem?_getD, List.getElem?_eq_getElem hk]; exact List.getElem_mem hk)
  unfold addC at h
  rw [if_pos] at h
  · cases h
  · simp [coinB, inB, -List.getD_eq_getElem?_getD]
    omega
theorem new_next {own : List Int} {k : Nat} (hk : k < own.length) (hn : ∀ j, j < k → 0 ≤ own.getD j 0) (h : (addC (own.take k).sum (own.getD k 0)).2 = true) : (addC (own.take k).sum (own.getD k 0)).1 = (own.take (k + 1)).sum ∧ (own.take (k + 1)).sum ≤ 1125899906842624 ∧ ∀ j, j < k + 1 → 0 ≤ own.getD j 0 := by
  have h1 := addC_val h
  rw [sum_take_next hk]
  refine ⟨h1.1, h1.2.2, fun j hj => ?_⟩
  by_cases e : j = k
  · subst e
    unfold addC at h
    split at h
    · rename_i hc
      simp only [coinB, Bool.and_eq_true] at hc
      exact (inB_T hc.1.2).1
    · cases h
  · exact hn j (by omega)
/-- One leg of a payment. -/
def legOk (g : Leg) : Prop := (0 ≤ g.side ∧ g.side ≤ 1) ∧ 1 ≤ g.am ∧ g.am ≤ 1125899906842624
instance legOk_dec (g : Leg) : Decidable (legOk g) := by unfold legOk; infer_instance
def legS (s : Seat) (g : Leg) : Seat := (s.setH g.side.toNat (s.h g.side.toNat - g.am)).setH (1 - g.side).toNat ((s.setH g.side.toNat (s.h g.side.toNat - g.am)).h (1 - g.side).toNat + g.am)
structure Pair where
  a : Int
  b : Int
deriving DecidableEq
def noPair : Pair := ⟨0, 0⟩
def Pair.ix (d : Pair) (i : Nat) : Int := if i = 0 then d.a else d.b
/-- What is owned behind so many sides of a channel have been paid back. -/
def backO (own : List Int) (s : Seat) (fee : Pair) : Nat → List Int
  | 0 => own
  | k + 1 => giveO (backO own s fee k) s k (-s.h k) (fee.ix k)
def backF (lost : Int) (fee : Pair) : Nat → Int
  | 0 => lost
  | k + 1 => backF lost fee k + fee.ix k
def totalL (own : List Int) (ls : SM) (lh : HM) (k : Nat) : Int := ((List.range k).map fun (i : Nat) => worthL own ls lh (i : Int)).sum
theorem totalL_next (own : List Int) (ls : SM) (lh : HM) (k : Nat) : totalL own ls lh (k + 1) = totalL own ls lh k + worthL own ls lh (k : Int) := by
  unfold totalL
  rw [List.range_succ, List.map_append, List.sum_append]
  simp
theorem backO_len (own : List Int) (s : Seat) (fee : Pair) : ∀ k, (backO own s fee k).length = own.length
  | 0 => rfl
  | k + 1 => by rw [backO, giveO_len, backO_len own s fee k]
theorem backO_at {own : List Int} {s : Seat} {fee : Pair} {k : Nat} (hk : k < 2) (h0 : 0 ≤ s.p0) (h1 : 0 ≤ s.p1) (hn : s.p0 ≠ s.p1) : (backO own s fee k).getD (s.p k).toNat 0 = own.getD (s.p k).toNat 0 := by
  have : k = 0 ∨ k = 1 := by omega
  rcases this with rfl | rfl
  · rfl
  · exact giveO_ne (j := 0) (k := 1) h0 h1 hn
theorem backF_le {lost : Int} {fee : Pair} {k : Nat} (hk : k ≤ 2) (h : 0 ≤ lost ∧ lost ≤ 1125899906842624) (ha : 0 ≤ fee.a ∧ fee.a ≤ 1125899906842624) (hb : 0 ≤ fee.b ∧ fee.b ≤ 1125899906842624) : 0 ≤ backF lost fee k ∧ backF lost fee k ≤ 1125899906842624 * (k + 1) := by
  have : k = 0 ∨ k = 1 ∨ k = 2 := by omega
  rcases this with rfl | rfl | rfl
  · simp [backF]; omega
  · simp [backF, Pair.ix]; omega
  · simp [backF, Pair.ix]; omega
/-- A channel's numbers are right. -/
def seatOk (n : Nat) (s : Seat) : Prop := (0 ≤ s.p0 ∧ s.p0 < n) ∧ (0 ≤ s.p1 ∧ s.p1 < n) ∧ s.p0 ≠ s.p1 ∧ (0 ≤ s.h0 ∧ s.h0 ≤ 1125899906842624) ∧ (0 ≤ s.h1 ∧ s.h1 ≤ 1125899906842624)
theorem seatOk_at {n : Nat} {s : Seat} (h : seatOk n s) {k : Nat} (hk : k < 2) : (0 ≤ s.p k ∧ s.p k < n) ∧ 0 ≤ s.h k ∧ s.h k ≤ 1125899906842624 := by
  obtain ⟨a, b, c, d, e⟩ := h
  have : k = 0 ∨ k = 1 := by omega
  rcases this with rfl | rfl
  · exact ⟨a, d⟩
  · exact ⟨b, e⟩
def addK (s : Seat) (d : Pair) : Nat → Seat
  | 0 => s
  | k + 1 => (addK s d k).setH k ((addK s d k).h k + d.ix k)
theorem setH_p (s : Seat) (i j : Nat) (v : Int) : (s.setH i v).p j = s.p j := by
  unfold Seat.setH
  by_cases h : i = 0
  · rw [if_pos h]; rfl
  · rw [if_neg h]; rfl
theorem addK_p (s : Seat) (d : Pair) (j : Nat) : ∀ k, (addK s d k).p j = s.p j
  | 0 => rfl
  | k + 1 => by rw [addK, setH_p, addK_p s d j k]
theorem addK_h {s : Seat} {d : Pair} {k : Nat} (hk : k < 2) : (addK s d k).h k = s.h k := by
  have : k = 0 ∨ k = 1 := by omega
  rcases this with rfl | rfl <;> rfl
theorem setH_h {s : Seat} {i : Nat} {v : Int} (hi : i < 2) : (s.setH i v).h i = v := by
  have : i = 0 ∨ i = 1 := by omega
  rcases this with rfl | rfl <;> rfl
def spO (own : List Int) (s : Seat) (d fee : Pair) : Nat → List Int
  | 0 => own
  | k + 1 => giveO (spO own s d fee k) s k (d.ix k) (fee.ix k)
theorem spO_len (own : List Int) (s : Seat) (d fee : Pair) : ∀ k, (spO own s d fee k).length = own.length
  | 0 => rfl
  | k + 1 => by rw [spO, giveO_len, spO_len own s d fee k]
theorem spO_at {own : List Int} {s : Seat} {d fee : Pair} {k : Nat} (hk : k < 2) (h0 : 0 ≤ s.p 0) (h1 : 0 ≤ s.p 1) (hn : s.p 0 ≠ s.p 1) : (spO own s d fee k).getD (s.p k).toNat 0 = own.getD (s.p k).toNat 0 := by
  have : k = 0 ∨ k = 1 := by omega
  rcases this with rfl | rfl
  · rfl
  · exact giveO_ne (j := 0) (k := 1) h0 h1 hn
def spOk (d fee : Pair) : Prop := ∀ k, k < 2 → (-1125899906842624 ≤ d.ix k ∧ d.ix k ≤ 1125899906842624) ∧ 0 ≤ fee.ix k ∧ fee.ix k ≤ 1125899906842624
/-- A side has not enough. -/
def spNo (own : List Int) (s : Seat) (d fee : Pair) (k : Nat) : Prop := s.h k + d.ix k < 0 ∨ own.getD (s.p k).toNat 0 < d.ix k + fee.ix k
end Go.Lsp

