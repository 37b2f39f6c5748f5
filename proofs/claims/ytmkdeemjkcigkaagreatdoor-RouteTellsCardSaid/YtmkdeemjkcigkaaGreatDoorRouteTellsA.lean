/- RouteTells: for every input the law answers true and leaves its arguments as they were. -/

set_option linter.unusedVariables false
set_option linter.unusedSimpArgs false
namespace Go.Hsp
abbrev Byte := BitVec 8
abbrev Word := BitVec 32
def be8 (m : Nat) : List Byte := [56, 48, 40, 32, 24, 16, 8, 0].map fun k => BitVec.ofNat 8 (m >>> k)
def rot (x : Word) (k : Nat) : Word := x <<< (32 - k) ||| x >>> k
def be32 (b : List Byte) : Word := (b.getD 0 0).setWidth 32 <<< 24 ||| (b.getD 1 0).setWidth 32 <<< 16 ||| (b.getD 2 0).setWidth 32 <<< 8 ||| (b.getD 3 0).setWidth 32
def nextWord (w : List Word) (k : Nat) : Word :=
  w.getD (k - 16) 0 + (rot (w.getD (k - 15) 0) 7 ^^^ rot (w.getD (k - 15) 0) 18 ^^^ (w.getD (k - 15) 0) >>> 3) + w.getD (k - 7) 0
    + (rot (w.getD (k - 2) 0) 17 ^^^ rot (w.getD (k - 2) 0) 19 ^^^ (w.getD (k - 2) 0) >>> 10)
def schedTo (b : List Byte) : Nat → List Word
  | 0 => []
  | k + 1 => schedTo b k ++ [if k < 16 then be32 (b.drop (4 * k)) else nextWord (schedTo b k) k]
def sched (b : List Byte) : List Word := schedTo b 64
def table : List Word := [
  0x428a2f98, 0x71374491, 0xb5c0fbcf, 0xe9b5dba5, 0x3956c25b, 0x59f111f1, 0x923f82a4, 0xab1c5ed5,
  0xd807aa98, 0x12835b01, 0x243185be, 0x550c7dc3, 0x72be5d74, 0x80deb1fe, 0x9bdc06a7, 0xc19bf174,
  0xe49b69c1, 0xefbe4786, 0x0fc19dc6, 0x240ca1cc, 0x2de92c6f, 0x4a7484aa, 0x5cb0a9dc, 0x76f988da,
  0x983e5152, 0xa831c66d, 0xb00327c8, 0xbf597fc7, 0xc6e00bf3, 0xd5a79147, 0x06ca6351, 0x14292967,
  0x27b70a85, 0x2e1b2138, 0x4d2c6dfc, 0x53380d13, 0x650a7354, 0x766a0abb, 0x81c2c92e, 0x92722c85,
  0xa2bfe8a1, 0xa81a664b, 0xc24b8b70, 0xc76c51a3, 0xd192e819, 0xd6990624, 0xf40e3585, 0x106aa070,
  0x19a4c116, 0x1e376c08, 0x2748774c, 0x34b0bcb5, 0x391c0cb3, 0x4ed8aa4a, 0x5b9cca4f, 0x682e6ff3,
  0x748f82ee, 0x78a5636f, 0x84c87814, 0x8cc70208, 0x90befffa, 0xa4506ceb, 0xbef9a3f7, 0xc67178f2]
def first : List Word := [0x6a09e667, 0xbb67ae85, 0x3c6ef372, 0xa54ff53a, 0x510e527f, 0x9b05688c, 0x1f83d9ab, 0x5be0cd19]
def stepW (v : List Word) (k w : Word) : List Word :=
  let s := rot (v.getD 4 0) 6 ^^^ rot (v.getD 4 0) 11 ^^^ rot (v.getD 4 0) 25
  let t := v.getD 7 0 + s + (v.getD 6 0 ^^^ v.getD 4 0 &&& (v.getD 5 0 ^^^ v.getD 6 0)) + k + w
  let r := rot (v.getD 0 0) 2 ^^^ rot (v.getD 0 0) 13 ^^^ rot (v.getD 0 0) 22
  let most := v.getD 0 0 &&& v.getD 1 0 ||| v.getD 2 0 &&& (v.getD 0 0 ||| v.getD 1 0)
  [t + r + most, v.getD 0 0, v.getD 1 0, v.getD 2 0, v.getD 3 0 + t, v.getD 4 0, v.getD 5 0, v.getD 6 0]
def roundsTo (h : List Word) (ws : List Word) : Nat → List Word
  | 0 => h
  | i + 1 => stepW (roundsTo h ws i) (table.getD i 0) (ws.getD i 0)
def addTo (v h : List Word) (i : Nat) : List Word := (List.range 8).map fun j => if j < i then v.getD j 0 + h.getD j 0 else v.getD j 0
def mix (h : List Word) (b : List Byte) : List Word := addTo (roundsTo h (sched b) 64) h 8
def mixN (h : List Word) (b : List Byte) : Nat → List Word
  | 0 => h
  | n + 1 => mixN (mix h (b.take 64)) (b.drop 64) n
def mixAll (h : List Word) (b : List Byte) : List Word := mixN h b (b.length / 64)
def noughts (n : Nat) : Nat := (64 + 55 - n % 64) % 64
def tail (b : List Byte) : List Byte := b.drop (b.length - b.length % 64) ++ [128] ++ List.replicate (noughts b.length) 0 ++ be8 (8 * b.length)
def digest (h : List Word) : List Byte := (List.range 32).map fun k => ((h.getD (k / 4) 0) >>> (24 - 8 * (k % 4))).setWidth 8
def sum (b : List Byte) : List Byte := digest (mixAll (mixAll first b) (tail b))
def tagBytes (name : List Byte) : List (List Byte) → List Byte
  | parts => be8 name.length ++ name ++ (parts.map fun p => be8 p.length ++ p).flatten
def tag (name : List Byte) (parts : List (List Byte)) : List Byte := sum (tagBytes name parts)
end Go.Hsp

namespace Go.Hsp
def nStream : List Byte := [115, 116, 114, 101, 97, 109]
def streamTo (key : List Byte) (j : Nat) : List Byte := ((List.range j).map fun i => tag nStream [key, be8 i]).flatten
def stream (key : List Byte) (n : Nat) : List Byte := (streamTo key ((n + 31) / 32)).take n
def xorB (a b : List Byte) : List Byte := List.zipWith (· ^^^ ·) a b
def overB (key b : List Byte) : List Byte := xorB (stream key b.length) b
def inner (key s : List Byte) : List Byte := overB key (s.take (s.length - 8))
end Go.Hsp

namespace Go.Num
def pm (m : Nat) : Nat → Nat → Nat → Nat → Nat
  | 0, _, _, out => out
  | f + 1, a, n, out => pm m f (a * a % m) (n / 2) (if n % 2 = 1 then out * a % m else out)
theorem least {p : Nat → Prop} [DecidablePred p] (n : Nat) (h : p n) : ∃ k, k ≤ n ∧ p k ∧ ∀ j, j < k → ¬ p j := by
  induction n using Nat.strongRecOn with
  | ind n ih =>
    by_cases hs : ∃ j, j < n ∧ p j
    · obtain ⟨j, hj, hp⟩ := hs
      obtain ⟨k, h1, h2, h3⟩ := ih j hj hp
      exact ⟨k, by omega, h2, h3⟩
    · exact ⟨n, Nat.le_refl _, h, fun j hj hp => hs ⟨j, hj, hp⟩⟩
end Go.Num

namespace Go.Num
def q : Nat := 2305843009213688669
def M : Nat := 4611686018427377339
def pw (a n : Nat) : Nat := pm M 64 a n 1
def right (p : Nat) : Bool := decide (0 < p) && decide (p < M) && decide (pw p q = 1)
def taken (p : Nat) : Nat := if right p then p else 1
def scale (p k : Nat) : Nat := pw (taken p) (k % q)
def base (k : Nat) : Nat := scale 4 k
end Go.Num

namespace Go.Osp
open Go.Hsp Go.Num
abbrev Hop := Int × Int × Int × Int × Nat × Nat
abbrev Stop := Nat × List Byte
def nRho : List Byte := [114, 104, 111]
def nMac : List Byte := [109, 97, 99]
def usg (i : Int) : Nat := (i % 18446744073709551616).toNat
def layB (h : Hop) : List Byte := be8 (usg h.1) ++ be8 (usg h.2.1) ++ be8 (usg h.2.2.1) ++ be8 (usg h.2.2.2.1) ++ be8 h.2.2.2.2.1 ++ be8 h.2.2.2.2.2
def rho (s : Stop) (n : Nat) : List Byte := stream (tag nRho [s.2]) n
def macB (s : Stop) (b : List Byte) : List Byte := tag nMac [s.2, b]
def zeros (n : Nat) : List Byte := List.replicate n 0
def fillS (f : List Byte) (s : Stop) : List Byte := xorB (f ++ zeros 80) ((rho s 720).drop (720 - (f.length + 80)))
def fillTo : List Byte → List Stop → List Byte
  | f, [] => f
  | f, s :: l => fillTo (fillS f s) l
def filler (l : List Stop) : List Byte := fillTo [] (l.take (l.length - 1))
def put (r f : List Byte) : List Byte := r.take (r.length - f.length) ++ f
def layer (s : Stop) (h : Hop) (m r : List Byte) : List Byte := xorB (layB h ++ m ++ r.take 560) (rho s 640)
def opened (s : Stop) (r : List Byte) : List Byte := xorB (r ++ zeros 80) (rho s 720)
def noHop : Hop := (0, 0, 0, 0, 0, 0)
end Go.Osp

namespace Go.Osp
open Go.Hsp Go.Num
def stepR (l : List Stop) (hs : List Hop) (st : List Byte × List Byte) (k : Nat) : List Byte × List Byte :=
  ((if k + 1 = l.length then put (layer (l.getD k (0, [])) (hs.getD k noHop) st.2 st.1) (filler l) else layer (l.getD k (0, [])) (hs.getD k noHop) st.2 st.1),
   macB (l.getD k (0, [])) (if k + 1 = l.length then put (layer (l.getD k (0, [])) (hs.getD k noHop) st.2 st.1) (filler l) else layer (l.getD k (0, [])) (hs.getD k noHop) st.2 st.1))
end Go.Osp

namespace Go.Osp
open Go.Hsp Go.Num
theorem getD_lt {l : List Nat} {b : Nat} (h : ∀ x ∈ l, x < b) (hb : 0 < b) (i : Nat) : l.getD i 0 < b := by
  rw [List.getD_eq_getElem?_getD]
  cases e : l[i]? with
  | none => exact hb
  | some x => exact h x (List.mem_of_getElem? e)
end Go.Osp

namespace Go.Gsp
open Go.Osp
structure Pol where
  b : Int
  p : Int
  d : Int
  l : Int
  m : Int
deriving DecidableEq
structure Edge where
  f : Int
  t : Int
  c : Int
  r : Int
  pol : Pol
deriving DecidableEq
def noPol : Pol := ⟨0, 0, 0, 0, 0⟩
def noEdge : Edge := ⟨0, 0, 0, 0, noPol⟩
def inB (n lo hi : Int) : Bool := decide (lo ≤ n ∧ n ≤ hi)
def polOk (p : Pol) : Bool := inB p.b 0 1125899906842624 && inB p.l 0 p.m && inB p.m 0 1125899906842624 && inB p.p 0 1000000 && inB p.d 0 1048576
def edgeOk (e : Edge) : Bool := inB e.f 0 11 && inB e.t 0 11 && decide (e.f ≠ e.t) && inB e.c 0 39 && inB e.r 1 1125899906842624 && polOk e.pol
def coinB (a : Int) : Bool := inB a 0 1125899906842624
def addC (a b : Int) : Int × Bool := if coinB a && coinB b && decide (a ≤ 1125899906842624 - b) then (a + b, true) else (0, false)
def partC (a num : Int) : Int × Bool := if coinB a && decide (0 ≤ num) && decide (a * num / 1000000 ≤ 1125899906842624) then (a * num / 1000000, true) else (0, false)
def feeG (p : Pol) (a : Int) : Int × Bool := if (partC a p.p).2 && polOk p then addC p.b (partC a p.p).1 else (0, false)
def cmpI (a b : Int) : Int := if a < b then -1 else if b < a then 1 else 0
def ordE (a b : Edge) : Int := if cmpI a.c b.c ≠ 0 then cmpI a.c b.c else cmpI a.f b.f
def RightAt (l : List Edge) (i : Nat) : Prop :=
  edgeOk (l.getD i noEdge) = true ∧ (0 < i → ordE (l.getD (i - 1) noEdge) (l.getD i noEdge) < 0) ∧
    ((0 < i ∧ (l.getD (i - 1) noEdge).c = (l.getD i noEdge).c) → ¬ (1 < i ∧ (l.getD (i - 2) noEdge).c = (l.getD i noEdge).c) ∧ (l.getD (i - 1) noEdge).f = (l.getD i noEdge).t ∧ (l.getD (i - 1) noEdge).t = (l.getD i noEdge).f ∧ (l.getD (i - 1) noEdge).r = (l.getD i noEdge).r)
instance (l : List Edge) (i : Nat) : Decidable (RightAt l i) := by unfold RightAt; infer_instance
def RightP (l : List Edge) : Prop := ∀ i, i < l.length → RightAt l i
instance (l : List Edge) : Decidable (RightP l) := by unfold RightP; infer_instance
def rightG (l : List Edge) : Bool := decide (RightP l)
def WayAt (l : List Edge) (i : Nat) : Prop := edgeOk (l.getD i noEdge) = true ∧ (0 < i → (l.getD (i - 1) noEdge).t = (l.getD i noEdge).f) ∧ ∀ k, k ≤ i → (l.getD k noEdge).f ≠ (l.getD i noEdge).t
instance (l : List Edge) (i : Nat) : Decidable (WayAt l i) := by unfold WayAt; infer_instance
def WayP (l : List Edge) : Prop := (1 ≤ l.length ∧ l.length ≤ 8) ∧ ∀ i, i < l.length → WayAt l i
instance (l : List Edge) : Decidable (WayP l) := by unfold WayP; infer_instance
def wayG (l : List Edge) : Bool := decide (WayP l)
def nextC (e : Edge) (a x : Int) : Option (Int × Int) := if (feeG e.pol a).2 && (addC a (feeG e.pol a).1).2 then some (a + (feeG e.pol a).1, x + e.pol.d) else none
def costF (a x : Int) : List Edge → Except Int (Option (Int × Int) × List (Int × Int))
  | [] => .ok (some (a, x), [])
  | e :: t => match costF a x t with
    | .error er => .error er
    | .ok (none, _) => .error 6
    | .ok (some (a1, x1), l) => if inB a1 e.pol.l (min e.pol.m e.r) = false then .error 6 else if 1048576 < x1 then .error 16 else .ok (nextC e a1 x1, (a1, x1) :: l)
def costG (w : List Edge) (a x : Int) : List Int × List Int × Int :=
  if wayG w = false then ([], [], 19) else if inB a 1 1125899906842624 = false ∨ inB x 1 1048576 = false then ([], [], 1)
  else match costF a x w with
    | .error er => ([], [], er)
    | .ok (_, l) => (l.map Prod.fst, l.map Prod.snd, 0)
theorem inB_T {n lo hi : Int} (h : inB n lo hi = true) : lo ≤ n ∧ n ≤ hi := of_decide_eq_true h
theorem inB_F {n lo hi : Int} (h : inB n lo hi = false) : ¬ (lo ≤ n ∧ n ≤ hi) := of_decide_eq_false h
theorem polOk_T {p : Pol} (h : polOk p = true) : (0 ≤ p.b ∧ p.b ≤ 1125899906842624) ∧ (0 ≤ p.l ∧ p.l ≤ p.m) ∧ (0 ≤ p.m ∧ p.m ≤ 1125899906842624) ∧ (0 ≤ p.p ∧ p.p ≤ 1000000) ∧ 0 ≤ p.d ∧ p.d ≤ 1048576 := by
  simp only [polOk, Bool.and_eq_true] at h
  exact ⟨inB_T h.1.1.1.1, inB_T h.1.1.1.2, inB_T h.1.1.2, inB_T h.1.2, inB_T h.2⟩
theorem edgeOk_T {e : Edge} (h : edgeOk e = true) : (0 ≤ e.f ∧ e.f ≤ 11) ∧ (0 ≤ e.t ∧ e.t ≤ 11) ∧ e.f ≠ e.t ∧ (0 ≤ e.c ∧ e.c ≤ 39) ∧ (1 ≤ e.r ∧ e.r ≤ 1125899906842624) ∧ polOk e.pol = true := by
  simp only [edgeOk, Bool.and_eq_true, decide_eq_true_eq] at h
  exact ⟨inB_T h.1.1.1.1.1, inB_T h.1.1.1.1.2, h.1.1.1.2, inB_T h.1.1.2, inB_T h.1.2, h.2⟩
def PolI (p : Pol) : Prop := (-9223372036854775808 ≤ p.b ∧ p.b ≤ 9223372036854775807) ∧ (-9223372036854775808 ≤ p.p ∧ p.p ≤ 9223372036854775807) ∧ (-9223372036854775808 ≤ p.d ∧ p.d ≤ 9223372036854775807) ∧ (-9223372036854775808 ≤ p.l ∧ p.l ≤ 9223372036854775807) ∧ (-9223372036854775808 ≤ p.m ∧ p.m ≤ 9223372036854775807)
def EdgeI (e : Edge) : Prop := (-9223372036854775808 ≤ e.f ∧ e.f ≤ 9223372036854775807) ∧ (-9223372036854775808 ≤ e.t ∧ e.t ≤ 9223372036854775807) ∧ (-9223372036854775808 ≤ e.c ∧ e.c ≤ 9223372036854775807) ∧ (-9223372036854775808 ≤ e.r ∧ e.r ≤ 9223372036854775807) ∧ PolI e.pol
end Go.Gsp

namespace Go.Gsp
open Go.Osp
variable {a x am ex er : Int} {l : List (Int × Int)} {xs : List Edge} {j : Nat}
theorem drop_pred (xs : List Edge) (j : Nat) (h0 : 0 < j) (hj : j ≤ xs.length) : xs.drop (j - 1) = xs.getD (j - 1) noEdge :: xs.drop j := by
  rw [List.drop_eq_getElem_cons (by omega), show j - 1 + 1 = j by omega]
  simp [List.getD, show j - 1 < xs.length by omega]
theorem costF_err : ∀ (xs : List Edge) (j : Nat), costF a x (xs.drop j) = .error er → costF a x xs = .error er
  | _, 0, h => h
  | [], j + 1, h => by simpa using h
  | e :: xs, j + 1, h => by
    have := costF_err xs j (by simpa using h)
    simp [costF, this]
theorem costF_six (h0 : 0 < j) (hj : j ≤ xs.length) (h : costF a x (xs.drop j) = .ok (some (am, ex), l)) (h1 : ¬ inB am (xs.getD (j - 1) noEdge).pol.l (min (xs.getD (j - 1) noEdge).pol.m (xs.getD (j - 1) noEdge).r) = true) : costF a x xs = .error 6 := by
  refine costF_err xs (j - 1) ?_
  rw [drop_pred xs j h0 hj, costF, h]
  simp only [Bool.eq_false_iff.2 h1, if_true]
theorem costF_late (h0 : 0 < j) (hj : j ≤ xs.length) (h : costF a x (xs.drop j) = .ok (some (am, ex), l)) (h1 : inB am (xs.getD (j - 1) noEdge).pol.l (min (xs.getD (j - 1) noEdge).pol.m (xs.getD (j - 1) noEdge).r) = true) (h2 : 1048576 < ex) : costF a x xs = .error 16 := by
  refine costF_err xs (j - 1) ?_
  rw [drop_pred xs j h0 hj, costF, h]
  simp [-List.getD_eq_getElem?_getD, h1, h2]
theorem costF_step (h0 : 0 < j) (hj : j ≤ xs.length) (h : costF a x (xs.drop j) = .ok (some (am, ex), l)) (h1 : inB am (xs.getD (j - 1) noEdge).pol.l (min (xs.getD (j - 1) noEdge).pol.m (xs.getD (j - 1) noEdge).r) = true) (h2 : ¬ 1048576 < ex) :
    costF a x (xs.drop (j - 1)) = .ok (nextC (xs.getD (j - 1) noEdge) am ex, (am, ex) :: l) := by
  rw [drop_pred xs j h0 hj, costF, h]
  simp [-List.getD_eq_getElem?_getD, h1, h2]
theorem costF_none (h0 : 0 < j) (hj : j ≤ xs.length) (h : costF a x (xs.drop j) = .ok (none, l)) : costF a x xs = .error 6 := by
  refine costF_err xs (j - 1) ?_
  rw [drop_pred xs j h0 hj, costF, h]
theorem nextC_none {e : Edge} (h : ¬ (feeG e.pol am).2 = true ∨ ¬ (addC am (feeG e.pol am).1).2 = true) : nextC e am ex = none := by
  unfold nextC
  rw [if_neg]
  rw [Bool.and_eq_true]
  rintro ⟨h1, h2⟩
  rcases h with h | h <;> contradiction
theorem addC_val {a b : Int} (h : (addC a b).2 = true) : (addC a b).1 = a + b ∧ 0 ≤ a + b ∧ a + b ≤ 1125899906842624 := by
  unfold addC at *
  split at h
  · rename_i hc
    simp only [coinB, Bool.and_eq_true, decide_eq_true_eq] at hc
    have h1 := inB_T hc.1.1
    have h2 := inB_T hc.1.2
    exact ⟨by rw [if_pos (by simp [coinB, hc])], by omega, by omega⟩
  · cases h
theorem nextC_some {e : Edge} (h1 : (feeG e.pol am).2 = true) (h2 : (addC am (feeG e.pol am).1).2 = true) : nextC e am ex = some ((addC am (feeG e.pol am).1).1, ex + e.pol.d) := by
  unfold nextC
  rw [if_pos (by simp [h1, h2]), (addC_val h2).1]
theorem costG_way {xs : List Edge} {a x : Int} (h : ¬ wayG xs = true) : costG xs a x = ([], [], 19) := by unfold costG; rw [if_pos (by simpa using h)]
theorem costG_arg {xs : List Edge} {a x : Int} (h : wayG xs = true) (h1 : ¬ inB a 1 1125899906842624 = true ∨ ¬ inB x 1 1048576 = true) : costG xs a x = ([], [], 1) := by
  unfold costG
  rw [if_neg (by simp [h]), if_pos (by simpa using h1)]
theorem costG_er {xs : List Edge} {a x er : Int} (h : wayG xs = true) (h1 : inB a 1 1125899906842624 = true) (h2 : inB x 1 1048576 = true) (h3 : costF a x xs = .error er) : costG xs a x = ([], [], er) := by
  unfold costG
  rw [if_neg (by simp [h]), if_neg (by simp [h1, h2]), h3]
theorem costG_ok {xs : List Edge} {a x : Int} {nx : Option (Int × Int)} {l : List (Int × Int)} (h : wayG xs = true) (h1 : inB a 1 1125899906842624 = true) (h2 : inB x 1 1048576 = true) (h3 : costF a x xs = .ok (nx, l)) : costG xs a x = (l.map Prod.fst, l.map Prod.snd, 0) := by
  unfold costG
  rw [if_neg (by simp [h]), if_neg (by simp [h1, h2]), h3]
theorem rep_set (l : List Int) (v : Int) (j : Nat) (h : 0 < j) : (List.replicate j 0 ++ l).set (j - 1) v = List.replicate (j - 1) 0 ++ v :: l := by
  rw [List.set_append_left _ _ (by simp; omega)]
  obtain ⟨k, rfl⟩ : ∃ k, j = k + 1 := ⟨j - 1, by omega⟩
  rw [Nat.add_sub_cancel, List.replicate_succ', List.set_append_right _ _ (by simp)]
  simp
theorem polI_ok {p : Pol} (h : polOk p = true) : PolI p := by
  have := polOk_T h
  refine ⟨⟨?_, ?_⟩, ⟨?_, ?_⟩, ⟨?_, ?_⟩, ⟨?_, ?_⟩, ⟨?_, ?_⟩⟩ <;> omega
theorem costF_len : ∀ (w : List Edge) (n : Option (Int × Int)) (l : List (Int × Int)), costF a x w = .ok (n, l) → l.length = w.length
  | [], n, l, h => by simp [costF] at h; rw [h.2]; rfl
  | e :: t, n, l, h => by
    rw [costF] at h
    split at h
    · cases h
    · cases h
    · rename_i a1 x1 l1 heq
      have ih := costF_len t _ _ heq
      split at h
      · cases h
      · split at h
        · cases h
        · injection h with h
          injection h with _ h
          rw [← h, List.length_cons, List.length_cons, ih]
theorem costG_inv {w : List Edge} {a x : Int} (h : (costG w a x).2.2 = 0) : wayG w = true ∧ inB a 1 1125899906842624 = true ∧ inB x 1 1048576 = true ∧ ∃ nx l, costF a x w = .ok (nx, l) ∧ costG w a x = (l.map Prod.fst, l.map Prod.snd, 0) ∧ l.length = w.length := by
  by_cases h1 : wayG w = true
  · by_cases h2 : inB a 1 1125899906842624 = true
    · by_cases h3 : inB x 1 1048576 = true
      · refine ⟨h1, h2, h3, ?_⟩
        cases hf : costF a x w with
        | error er =>
          have he := costG_er h1 h2 h3 hf
          rw [he] at h
          have hne : ∀ (w : List Edge) (er : Int), costF a x w = .error er → er = 6 ∨ er = 16 := by
            intro w
            induction w with
            | nil => intro er h; simp [costF] at h
            | cons e t ih =>
              intro er h
              rw [costF] at h
              split at h
              · rename_i heq; injection h with h; exact ih er (by rw [heq, h])
              · injection h with h; exact .inl h.symm
              · split at h
                · injection h with h; exact .inl h.symm
                · split at h
                  · injection h with h; exact .inr h.symm
                  · cases h
          have := hne w er hf
          simp at h
          omega
        | ok p => obtain ⟨nx, l⟩ := p; exact ⟨nx, l, rfl, costG_ok h1 h2 h3 hf, costF_len w nx l hf⟩
      · rw [costG_arg h1 (.inr h3)] at h; simp at h
    · rw [costG_arg h1 (.inl h2)] at h; simp at h
  · rw [costG_way h1] at h; simp at h
theorem costG_lens {w : List Edge} {a x : Int} (h : (costG w a x).2.2 = 0) : (costG w a x).1.length = w.length ∧ (costG w a x).2.1.length = w.length := by
  obtain ⟨_, _, _, nx, l, _, h2, h3⟩ := costG_inv h
  rw [h2]; simp [h3]
theorem wayG_at {xs : List Edge} (h : wayG xs = true) {i : Nat} (hi : i < xs.length) : WayAt xs i := (of_decide_eq_true h : WayP xs).2 i hi
theorem wayG_len {xs : List Edge} (h : wayG xs = true) : 1 ≤ xs.length ∧ xs.length ≤ 8 := (of_decide_eq_true h : WayP xs).1
end Go.Gsp
namespace Go.Gsp
end Go.Gsp
namespace Go.Gsp
variable {a x : Int}
theorem costF_at : ∀ (xs : List Edge) (nx : Option (Int × Int)) (l : List (Int × Int)), costF a x xs = .ok (nx, l) →
    (∀ i, i < xs.length → inB (l.getD i (0, 0)).1 (xs.getD i noEdge).pol.l (min (xs.getD i noEdge).pol.m (xs.getD i noEdge).r) = true ∧ ¬ 1048576 < (l.getD i (0, 0)).2) ∧
    (∀ i, i + 1 < xs.length → nextC (xs.getD (i + 1) noEdge) (l.getD (i + 1) (0, 0)).1 (l.getD (i + 1) (0, 0)).2 = some (l.getD i (0, 0))) ∧
    (0 < xs.length → l.getD (xs.length - 1) (0, 0) = (a, x)) ∧ nx = (if xs.length = 0 then some (a, x) else nextC (xs.getD 0 noEdge) (l.getD 0 (0, 0)).1 (l.getD 0 (0, 0)).2)
  | [], nx, l, h => by
    simp [costF] at h
    obtain ⟨rfl, rfl⟩ := h
    exact ⟨fun i hi => absurd hi (Nat.not_lt_zero _), fun i hi => absurd hi (Nat.not_lt_zero _), fun h => absurd h (Nat.lt_irrefl _), rfl⟩
  | e :: t, nx, l, h => by
    rw [costF] at h
    split at h
    · cases h
    · cases h
    · rename_i a1 x1 l1 heq
      obtain ⟨h1, h2, h3, h4⟩ := costF_at t _ _ heq
      split at h
      · cases h
      · rename_i hin
        split at h
        · cases h
        · rename_i hx
          injection h with h
          injection h with hn hl
          subst hl
          refine ⟨?_, ?_, ?_, ?_⟩
          · intro i hi
            cases i with
            | zero => exact ⟨by simpa using hin, hx⟩
            | succ i => have := h1 i (by simpa using hi); simpa using this
          · intro i hi
            cases i with
            | zero =>
              have ht : 0 < t.length := by simpa using hi
              rw [if_neg (by omega)] at h4
              simp only [List.getD_cons_succ, List.getD_cons_zero] at *
              rw [← h4]
            | succ i => have := h2 i (by simpa using hi); simpa using this
          · intro _
            cases t with
            | nil => simp at h4; obtain ⟨rfl, rfl⟩ := h4; rfl
            | cons e2 t2 => have := h3 (by simp); simpa using this
          · rw [if_neg (by simp)]; exact hn.symm
theorem nextC_inv {e : Edge} {am ex : Int} {p : Int × Int} (h : nextC e am ex = some p) : (feeG e.pol am).2 = true ∧ (addC am (feeG e.pol am).1).2 = true ∧ p = (am + (feeG e.pol am).1, ex + e.pol.d) := by
  unfold nextC at h
  split at h
  · rename_i hc
    rw [Bool.and_eq_true] at hc
    injection h with h
    exact ⟨hc.1, hc.2, h.symm⟩
  · cases h
structure Costs (w : List Edge) (a x : Int) (S T : List Int) : Prop where
  way : wayG w = true
  amt : 1 ≤ a ∧ a ≤ 1125899906842624
  exp : 1 ≤ x ∧ x ≤ 1048576
  lenS : S.length = w.length
  lenT : T.length = w.length
  len : 1 ≤ w.length ∧ w.length ≤ 8
  room : ∀ i, i < w.length → ((w.getD i noEdge).pol.l ≤ S.getD i 0 ∧ S.getD i 0 ≤ (w.getD i noEdge).pol.m ∧ S.getD i 0 ≤ (w.getD i noEdge).r) ∧ T.getD i 0 ≤ 1048576
  endS : S.getD (w.length - 1) 0 = a
  endT : T.getD (w.length - 1) 0 = x
  step : ∀ i, i + 1 < w.length → (feeG (w.getD (i + 1) noEdge).pol (S.getD (i + 1) 0)).2 = true ∧ (addC (S.getD (i + 1) 0) (feeG (w.getD (i + 1) noEdge).pol (S.getD (i + 1) 0)).1).2 = true ∧ S.getD i 0 = S.getD (i + 1) 0 + (feeG (w.getD (i + 1) noEdge).pol (S.getD (i + 1) 0)).1 ∧ T.getD i 0 = T.getD (i + 1) 0 + (w.getD (i + 1) noEdge).pol.d
theorem map_getD {α β : Type} (f : α → β) (l : List α) (i : Nat) (z : α) : (l.map f).getD i (f z) = f (l.getD i z) := by
  simp only [List.getD, List.getElem?_map]
  cases l[i]? <;> rfl
theorem costs_of {w : List Edge} (h : (costG w a x).2.2 = 0) : Costs w a x (costG w a x).1 (costG w a x).2.1 := by
  obtain ⟨hw, ha, hx, nx, l, hF, hC, hl⟩ := costG_inv h
  obtain ⟨h1, h2, h3, h4⟩ := costF_at w nx l hF
  have hwl := wayG_len hw
  rw [hC]
  have e1 : ∀ i, (l.map Prod.fst).getD i 0 = (l.getD i (0, 0)).1 := fun i => map_getD Prod.fst l i (0, 0)
  have e2 : ∀ i, (l.map Prod.snd).getD i 0 = (l.getD i (0, 0)).2 := fun i => map_getD Prod.snd l i (0, 0)
  refine ⟨hw, inB_T ha, inB_T hx, by simp [hl], by simp [hl], hwl, ?_, ?_, ?_, ?_⟩
  · intro i hi
    obtain ⟨q1, q2⟩ := h1 i hi
    have := inB_T q1
    show (_ ≤ (l.map Prod.fst).getD i 0 ∧ (l.map Prod.fst).getD i 0 ≤ _ ∧ (l.map Prod.fst).getD i 0 ≤ _) ∧ (l.map Prod.snd).getD i 0 ≤ _
    rw [e1, e2]
    omega
  · show (l.map Prod.fst).getD _ 0 = a
    rw [e1, h3 (by omega)]
  · show (l.map Prod.snd).getD _ 0 = x
    rw [e2, h3 (by omega)]
  · intro i hi
    obtain ⟨q1, q2, q3⟩ := nextC_inv (h2 i hi)
    show (feeG _ ((l.map Prod.fst).getD _ 0)).2 = true ∧ (addC ((l.map Prod.fst).getD _ 0) (feeG _ ((l.map Prod.fst).getD _ 0)).1).2 = true ∧ (l.map Prod.fst).getD _ 0 = (l.map Prod.fst).getD _ 0 + (feeG _ ((l.map Prod.fst).getD _ 0)).1 ∧ (l.map Prod.snd).getD _ 0 = (l.map Prod.snd).getD _ 0 + _
    rw [e1, e2, e1, e2]
    exact ⟨q1, q2, by rw [q3], by rw [q3]⟩
theorem feeG_bound (p : Pol) (am : Int) : 0 ≤ (feeG p am).1 ∧ (feeG p am).1 ≤ 1125899906842624 := by
  unfold feeG
  split
  · unfold addC
    split
    · rename_i hc
      simp only [coinB, Bool.and_eq_true, decide_eq_true_eq] at hc
      have h1 := inB_T hc.1.1
      have h2 := inB_T hc.1.2
      show 0 ≤ _ + _ ∧ _ + _ ≤ _
      omega
    · show (0 : Int) ≤ 0 ∧ (0 : Int) ≤ _
      omega
  · show (0 : Int) ≤ 0 ∧ (0 : Int) ≤ _
    omega
end Go.Gsp
namespace Go.Gsp
theorem getD_drop' (xs : List Edge) (k i : Nat) : (xs.drop k).getD i noEdge = xs.getD (k + i) noEdge := by simp [List.getD, List.getElem?_drop]
theorem getD_take' (xs : List Edge) (k i : Nat) (h : i < k) : (xs.take k).getD i noEdge = xs.getD i noEdge := by simp [List.getD, List.getElem?_take, h]
theorem way_drop {xs : List Edge} {k : Nat} (h : wayG xs = true) (hk : k < xs.length) : wayG (xs.drop k) = true := by
  have hl := wayG_len h
  refine decide_eq_true ⟨by rw [List.length_drop]; omega, fun i hi => ?_⟩
  rw [List.length_drop] at hi
  obtain ⟨h1, h2, h3⟩ := wayG_at h (i := k + i) (by omega)
  refine ⟨by rw [getD_drop']; exact h1, fun h0 => ?_, fun q hq => ?_⟩
  · rw [getD_drop', getD_drop', show k + (i - 1) = k + i - 1 by omega]; exact h2 (by omega)
  · rw [getD_drop', getD_drop']; exact h3 (k + q) (by omega)
theorem way_take {xs : List Edge} {k : Nat} (h : wayG xs = true) (hk : k < xs.length) : wayG (xs.take (k + 1)) = true := by
  have hl := wayG_len h
  refine decide_eq_true ⟨by rw [List.length_take]; omega, fun i hi => ?_⟩
  rw [List.length_take] at hi
  obtain ⟨h1, h2, h3⟩ := wayG_at h (i := i) (by omega)
  refine ⟨by rw [getD_take' _ _ _ (by omega)]; exact h1, fun h0 => ?_, fun q hq => ?_⟩
  · rw [getD_take' _ _ _ (by omega), getD_take' _ _ _ (by omega)]; exact h2 h0
  · rw [getD_take' _ _ _ (by omega), getD_take' _ _ _ (by omega)]; exact h3 q hq
theorem way_once {xs : List Edge} (h : wayG xs = true) {i j : Nat} (hji : j < i) (hi : i < xs.length) : (xs.getD j noEdge).f ≠ (xs.getD i noEdge).f ∧ (xs.getD j noEdge).t ≠ (xs.getD i noEdge).t ∧ (xs.getD j noEdge).f ≠ (xs.getD i noEdge).t := by
  have hf : ∀ i, 0 < i → i < xs.length → (xs.getD (i - 1) noEdge).t = (xs.getD i noEdge).f := fun i h0 hi => (wayG_at h hi).2.1 h0
  have hn : ∀ i k, i < xs.length → k ≤ i → (xs.getD k noEdge).f ≠ (xs.getD i noEdge).t := fun i k hi hk => (wayG_at h hi).2.2 k hk
  refine ⟨fun he => ?_, fun he => ?_, hn i j hi (by omega)⟩
  · have h1 := hf i (by omega) hi
    exact hn (i - 1) j (by omega) (by omega) (by rw [he, h1])
  · have h1 := hf (j + 1) (by omega) (by omega)
    rw [show j + 1 - 1 = j by omega] at h1
    exact hn i (j + 1) hi (by omega) (by rw [← h1, he])
variable {a x : Int}
theorem costF_drop : ∀ (xs : List Edge) (k : Nat) (nx : Option (Int × Int)) (l : List (Int × Int)), costF a x xs = .ok (nx, l) → ∃ n2, costF a x (xs.drop k) = .ok (n2, l.drop k)
  | xs, 0, nx, l, h => ⟨nx, h⟩
  | [], k + 1, nx, l, h => by
    have : l = [] := by simp [costF] at h; exact h.2
    subst this
    exact ⟨nx, by simpa using h⟩
  | e :: t, k + 1, nx, l, h => by
    rw [costF] at h
    split at h
    · cases h
    · cases h
    · rename_i a1 x1 l1 heq
      split at h
      · cases h
      · split at h
        · cases h
        · injection h with h
          injection h with _ hl
          subst hl
          simpa using costF_drop t k _ _ heq
theorem costG_drop {w : List Edge} (h : (costG w a x).2.2 = 0) {k : Nat} (hk : k < w.length) : costG (w.drop k) a x = ((costG w a x).1.drop k, (costG w a x).2.1.drop k, 0) := by
  obtain ⟨hw, ha, hx, nx, l, hF, hC, hl⟩ := costG_inv h
  obtain ⟨n2, h2⟩ := costF_drop w k nx l hF
  rw [costG_ok (way_drop hw hk) ha hx h2, hC]
  simp [List.map_drop]
theorem Costs.ge {w : List Edge} {S T : List Int} (h : Costs w a x S T) : ∀ d i, i + d + 1 = w.length → a ≤ S.getD i 0 ∧ x ≤ T.getD i 0 := by
  intro d
  induction d with
  | zero => intro i hi; have h1 := h.endS; have h2 := h.endT; rw [show w.length - 1 = i by omega] at h1 h2; omega
  | succ d ih =>
    intro i hi
    have h1 := ih (i + 1) (by omega)
    obtain ⟨s1, s2, s3, s4⟩ := h.step i (by omega)
    have hf := feeG_bound (w.getD (i + 1) noEdge).pol (S.getD (i + 1) 0)
    have hok := edgeOk_T (wayG_at h.way (i := i + 1) (by omega)).1
    have hp := polOk_T hok.2.2.2.2.2
    omega
end Go.Gsp
namespace Go.Gsp
open Go.Osp Go.Num
end Go.Gsp

