/- A graph of channels in plain numbers: policies, edges, ways, what a way costs, what its hops are told. No program in sight. -/
import Derived.Test.YtfgakofjkldcjaaPsp
namespace Go.Gsp
set_option linter.unusedSimpArgs false
set_option linter.unusedVariables false
open Go.Osp
structure Pol where
  b : Int
  p : Int
  d : Int
  l : Int
  m : Int
deriving DecidableEq
structure Edge where
  f : Int
  t : Int
  c : Int
  r : Int
  pol : Pol
deriving DecidableEq
def noPol : Pol := ⟨0, 0, 0, 0, 0⟩
def noEdge : Edge := ⟨0, 0, 0, 0, noPol⟩
def inB (n lo hi : Int) : Bool := decide (lo ≤ n ∧ n ≤ hi)
/-- Is a policy right? -/
def polOk (p : Pol) : Bool := inB p.b 0 1125899906842624 && inB p.l 0 p.m && inB p.m 0 1125899906842624 && inB p.p 0 1000000 && inB p.d 0 1048576
def edgeOk (e : Edge) : Bool := inB e.f 0 11 && inB e.t 0 11 && decide (e.f ≠ e.t) && inB e.c 0 39 && inB e.r 1 1125899906842624 && polOk e.pol
def coinB (a : Int) : Bool := inB a 0 1125899906842624
/-- Coins added up. -/
def addC (a b : Int) : Int × Bool := if coinB a && coinB b && decide (a ≤ 1125899906842624 - b) then (a + b, true) else (0, false)
/-- A part of coins, downwards. -/
def partC (a num : Int) : Int × Bool := if coinB a && decide (0 ≤ num) && decide (a * num / 1000000 ≤ 1125899906842624) then (a * num / 1000000, true) else (0, false)
/-- What a party takes. -/
def feeG (p : Pol) (a : Int) : Int × Bool := if (partC a p.p).2 && polOk p then addC p.b (partC a p.p).1 else (0, false)
def cmpI (a b : Int) : Int := if a < b then -1 else if b < a then 1 else 0
/-- Which edge stands ahead. -/
def ordE (a b : Edge) : Int := if cmpI a.c b.c ≠ 0 then cmpI a.c b.c else cmpI a.f b.f
/-- Does the edge at i fit to those ahead of it? -/
def RightAt (l : List Edge) (i : Nat) : Prop :=
  edgeOk (l.getD i noEdge) = true ∧ (0 < i → ordE (l.getD (i - 1) noEdge) (l.getD i noEdge) < 0) ∧
    ((0 < i ∧ (l.getD (i - 1) noEdge).c = (l.getD i noEdge).c) → ¬ (1 < i ∧ (l.getD (i - 2) noEdge).c = (l.getD i noEdge).c) ∧ (l.getD (i - 1) noEdge).f = (l.getD i noEdge).t ∧ (l.getD (i - 1) noEdge).t = (l.getD i noEdge).f ∧ (l.getD (i - 1) noEdge).r = (l.getD i noEdge).r)
instance (l : List Edge) (i : Nat) : Decidable (RightAt l i) := by unfold RightAt; infer_instance
def RightP (l : List Edge) : Prop := ∀ i, i < l.length → RightAt l i
instance (l : List Edge) : Decidable (RightP l) := by unfold RightP; infer_instance
def rightG (l : List Edge) : Bool := decide (RightP l)
/-- Edges that are a way. -/
def WayAt (l : List Edge) (i : Nat) : Prop := edgeOk (l.getD i noEdge) = true ∧ (0 < i → (l.getD (i - 1) noEdge).t = (l.getD i noEdge).f) ∧ ∀ k, k ≤ i → (l.getD k noEdge).f ≠ (l.getD i noEdge).t
instance (l : List Edge) (i : Nat) : Decidable (WayAt l i) := by unfold WayAt; infer_instance
def WayP (l : List Edge) : Prop := (1 ≤ l.length ∧ l.length ≤ 8) ∧ ∀ i, i < l.length → WayAt l i
instance (l : List Edge) : Decidable (WayP l) := by unfold WayP; infer_instance
def wayG (l : List Edge) : Bool := decide (WayP l)
/-- What goes over the edge ahead, and till when; none: it is too much. -/
def nextC (e : Edge) (a x : Int) : Option (Int × Int) := if (feeG e.pol a).2 && (addC a (feeG e.pol a).1).2 then some (a + (feeG e.pol a).1, x + e.pol.d) else none
/-- What is sent over a way's edges: reckoned from its end. -/
def costF (a x : Int) : List Edge → Except Int (Option (Int × Int) × List (Int × Int))
  | [] => .ok (some (a, x), [])
  | e :: t => match costF a x t with
    | .error er => .error er
    | .ok (none, _) => .error 6
    | .ok (some (a1, x1), l) => if inB a1 e.pol.l (min e.pol.m e.r) = false then .error 6 else if 1048576 < x1 then .error 16 else .ok (nextC e a1 x1, (a1, x1) :: l)
def costG (w : List Edge) (a x : Int) : List Int × List Int × Int :=
  if wayG w = false then ([], [], 19) else if inB a 1 1125899906842624 = false ∨ inB x 1 1048576 = false then ([], [], 1)
  else match costF a x w with
    | .error er => ([], [], er)
    | .ok (_, l) => (l.map Prod.fst, l.map Prod.snd, 0)
/-- What the party behind edge i does. -/
def hopAt (w : List Edge) (sent till : List Int) (pts bl : List Nat) (i : Nat) : Hop := ((w.getD (i + 1) noEdge).t, (w.getD (i + 1) noEdge).c, sent.getD (i + 1) 0, till.getD (i + 1) 0, pts.getD (i + 1) 0, bl.getD i 0)
def hopsL (w : List Edge) (sent till : List Int) (pts bl : List Nat) (a x : Int) : List Hop :=
  (List.range (w.length - 1)).map (hopAt w sent till pts bl) ++ [(-1, 0, a, x, pts.getD (w.length - 1) 0, 0)]
def hopsG (w : List Edge) (a x : Int) (pts bl : List Nat) : List Hop × Int :=
  if (costG w a x).2.2 ≠ 0 then ([], (costG w a x).2.2) else if pts.length ≠ w.length ∨ bl.length ≠ w.length - 1 then ([], 1)
  else (hopsL w (costG w a x).1 (costG w a x).2.1 pts bl a x, 0)
theorem inB_T {n lo hi : Int} (h : inB n lo hi = true) : lo ≤ n ∧ n ≤ hi := of_decide_eq_true h
theorem inB_F {n lo hi : Int} (h : inB n lo hi = false) : ¬ (lo ≤ n ∧ n ≤ hi) := of_decide_eq_false h
theorem polOk_T {p : Pol} (h : polOk p = true) : (0 ≤ p.b ∧ p.b ≤ 1125899906842624) ∧ (0 ≤ p.l ∧ p.l ≤ p.m) ∧ (0 ≤ p.m ∧ p.m ≤ 1125899906842624) ∧ (0 ≤ p.p ∧ p.p ≤ 1000000) ∧ 0 ≤ p.d ∧ p.d ≤ 1048576 := by
  simp only [polOk, Bool.and_eq_true] at h
  exact ⟨inB_T h.1.1.1.1, inB_T h.1.1.1.2, inB_T h.1.1.2, inB_T h.1.2, inB_T h.2⟩
theorem edgeOk_T {e : Edge} (h : edgeOk e = true) : (0 ≤ e.f ∧ e.f ≤ 11) ∧ (0 ≤ e.t ∧ e.t ≤ 11) ∧ e.f ≠ e.t ∧ (0 ≤ e.c ∧ e.c ≤ 39) ∧ (1 ≤ e.r ∧ e.r ≤ 1125899906842624) ∧ polOk e.pol = true := by
  simp only [edgeOk, Bool.and_eq_true, decide_eq_true_eq] at h
  exact ⟨inB_T h.1.1.1.1.1, inB_T h.1.1.1.1.2, h.1.1.1.2, inB_T h.1.1.2, inB_T h.1.2, h.2⟩
/-- What an edge's numbers are. -/
def PolI (p : Pol) : Prop := (-9223372036854775808 ≤ p.b ∧ p.b ≤ 9223372036854775807) ∧ (-9223372036854775808 ≤ p.p ∧ p.p ≤ 9223372036854775807) ∧ (-9223372036854775808 ≤ p.d ∧ p.d ≤ 9223372036854775807) ∧ (-9223372036854775808 ≤ p.l ∧ p.l ≤ 9223372036854775807) ∧ (-9223372036854775808 ≤ p.m ∧ p.m ≤ 9223372036854775807)
def EdgeI (e : Edge) : Prop := (-9223372036854775808 ≤ e.f ∧ e.f ≤ 9223372036854775807) ∧ (-9223372036854775808 ≤ e.t ∧ e.t ≤ 9223372036854775807) ∧ (-9223372036854775808 ≤ e.c ∧ e.c ≤ 9223372036854775807) ∧ (-9223372036854775808 ≤ e.r ∧ e.r ≤ 9223372036854775807) ∧ PolI e.pol
end Go.Gsp
