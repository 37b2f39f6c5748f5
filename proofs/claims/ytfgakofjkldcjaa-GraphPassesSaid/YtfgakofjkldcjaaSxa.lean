/- The core of a symbolic executor for the model's code, over any program: frames as lists of known slots, plain regions in the text's order, drawn regions by a plan that is checked by the kernel. No program in sight. -/
import Derived.OrdersHeld
import Derived.WalkKit
namespace Go.Sx
open Go Go.RowKit

/-! ### Worlds that only grew -/
def Le (w w' : World) : Prop := Below w.heap.size w w'
theorem Le.refl (w : World) : Le w w := Below.refl _ _
theorem Le.trans {a b c : World} (h : Le a b) (k : Le b c) : Le a c := Below.trans h (Below.mono k h.size)
theorem Le.drew (w : World) : Le w { w with drawn := w.drawn + 1 } := ⟨rfl, rfl, rfl, Nat.le_refl _, fun _ _ => rfl⟩
theorem Le.size {w w' : World} (h : Le w w') : w.heap.size ≤ w'.heap.size := Below.size h
theorem Le.cell {w w' : World} (h : Le w w') {p : Addr} {v : Value} (hc : w.cell? p = some v) : w'.cell? p = some v :=
  (Below.cell h (block_lt_of_cell hc)).trans hc
theorem Le.block {w w' : World} (h : Le w w') {g : Nat} {o : Obj} (hg : w.heap[g]? = some o) : w'.heap[g]? = some o := by
  rcases Nat.lt_or_ge g w.heap.size with hlt | hge
  · exact (Below.block h g hlt).trans hg
  · rw [Array.getElem?_eq_none hge] at hg; cases hg

/-! ### Drawn regions -/
/-- 0: yields its value in whatever world; 1: in every world that only grew; 2: acts. -/
def kd : Op → Nat
  | .move _ | .assign _ | .pick .. | .nilCheck _ | .binOp .. | .unOp .. | .fieldAddr .. | .field .. | .indexAddr .. | .extract .. | .slice .. | .build ..
  | .makeFunc .. | .makeInterface .. | .index .. | .sliceToArrayPointer .. => 0
  | .convert .. | .load .. | .lookup .. | .typeAssert .. => 1
  | .call c => match c.callee with | .builtin .len | .builtin .cap | .builtin .min | .builtin .max => 1 | _ => 2
  | _ => 2

section
variable {P : Program} {ops : Array Oper}

/-- What number 'j' waits for, at last. -/
inductive Dep (ops : Array Oper) : Nat → Nat → Prop
  | one {j : Nat} {oj : Oper} {e : Edge} (hj : ops[j]? = some oj) (he : e ∈ oj.after) (hb : Region.binds .any e = true) : Dep ops j e.on
  | step {j i : Nat} {oj : Oper} {e : Edge} (hj : ops[j]? = some oj) (he : e ∈ oj.after) (hb : Region.binds .any e = true) (h : Dep ops e.on i) : Dep ops j i

def reachOf (r : Array Nat) (l : List Edge) : Nat := l.foldl (fun m e => if Region.binds .any e then m ||| (1 <<< e.on) ||| r.getD e.on 0 else m) 0
/-- For each operation, what it waits for, as bits. -/
def reach (ops : Array Oper) : Array Nat := ops.foldl (fun r o => r.push (reachOf r o.after.toList)) #[]

theorem reachOf_sound {r : Array Nat} {k : Nat} {ok : Oper} (hk : ops[k]? = some ok) (hr : ∀ j i, (r.getD j 0).testBit i = true → Dep ops j i) :
    ∀ (l : List Edge) (m : Nat), (∀ e ∈ l, e ∈ ok.after) → (∀ i, m.testBit i = true → Dep ops k i) →
      ∀ i, (l.foldl (fun m e => if Region.binds .any e then m ||| (1 <<< e.on) ||| r.getD e.on 0 else m) m).testBit i = true → Dep ops k i
  | [], m, _, hm, i, h => hm i h
  | e :: l, m, hl, hm, i, h => by
    rw [List.foldl_cons] at h
    refine reachOf_sound hk hr l _ (fun e' he' => hl e' (List.mem_cons_of_mem _ he')) ?_ i h
    intro i hi
    split at hi
    · rename_i hb
      have he := hl e List.mem_cons_self
      rw [Nat.testBit_or, Nat.testBit_or, Bool.or_eq_true, Bool.or_eq_true] at hi
      rcases hi with (hi | hi) | hi
      · exact hm i hi
      · have hie : e.on = i := by
          rw [Nat.testBit_shiftLeft] at hi
          simp only [Bool.and_eq_true, decide_eq_true_eq, Nat.testBit_one_eq_true_iff_self_eq_zero] at hi
          omega
        rw [← hie]
        exact .one hk he hb
      · exact .step hk he hb (hr _ _ hi)
    · exact hm i hi

theorem reach_sound (ops : Array Oper) : ∀ j i, ((reach ops).getD j 0).testBit i = true → Dep ops j i := by
  have key : (fun (n : Nat) (r : Array Nat) => r.size = n ∧ ∀ j i, (r.getD j 0).testBit i = true → Dep ops j i) ops.size (reach ops) := by
    unfold reach
    refine Array.foldl_induction (motive := fun (n : Nat) (r : Array Nat) => r.size = n ∧ ∀ j i, (r.getD j 0).testBit i = true → Dep ops j i) ⟨rfl, fun j i h => by simp at h⟩ ?_
    intro k r ⟨hs, hr⟩
    refine ⟨by simp [hs], fun j i h => ?_⟩
    by_cases hj : j < r.size
    · rw [Array.getD_eq_getD_getElem?, Array.getElem?_push_lt hj] at h
      exact hr j i (by rw [Array.getD_eq_getD_getElem?, Array.getElem?_eq_getElem hj]; exact h)
    · by_cases hjk : j = r.size
      · subst hjk
        rw [Array.getD_eq_getD_getElem?, Array.getElem?_push_size] at h
        have hk : ops[r.size]? = some ops[k] := by rw [hs]; exact Array.getElem?_eq_getElem k.2
        exact reachOf_sound hk hr _ 0 (fun e he => by simpa using he) (fun i hi => by simp at hi) i h
      · rw [Array.getD_eq_getD_getElem?, Array.getElem?_eq_none (by simp; omega)] at h
        simp at h
  exact key.2

/-- May some reading operation come up behind number 'j'? -/
def nS (ops : Array Oper) (j : Nat) : Bool :=
  (List.range ops.size).any fun i => i != j && (match ops[i]? with
    | some oi => kd oi.op == 1 && !(((reach ops).getD j 0).testBit i)
    | _ => false)

theorem nS_of {i j : Nat} {oi : Oper} (hi : ops[i]? = some oi) (hne : i ≠ j) (hk : kd oi.op = 1)
    (hno : ¬ Dep ops j i) : nS ops j = true := by
  unfold nS
  rw [List.any_eq_true]
  have hlt : i < ops.size := by
    rcases Nat.lt_or_ge i ops.size with h | h
    · exact h
    · simp [Array.getElem?_eq_none h] at hi
  refine ⟨i, by simpa using hlt, ?_⟩
  simp only [hi, hk, bne_iff_ne.2 hne, Bool.true_and, beq_self_eq_true, Bool.not_eq_true']
  rw [Bool.eq_false_iff]
  exact fun h => hno (reach_sound ops j i h)

/-- What has come up came up behind all that it waits for. -/
def Cl (ops : Array Oper) (listed : Array Bool) : Prop := ∀ k ok, ops[k]? = some ok → listed.getD k false = true → ∀ e ∈ ok.after, Region.binds .any e = true → listed.getD e.on false = true
theorem Cl.set {listed : Array Bool} (h : Cl ops listed) {j : Nat} (hj : j ∈ Region.ready .any ops listed) : Cl ops (listed.setIfInBounds j true) := by
  intro k ok hk hl e he hb
  obtain ⟨_, oj, hoj, hall⟩ := mem_ready.1 hj
  by_cases hkj : j = k
  · subst hkj
    rw [hoj] at hk
    injection hk with hk
    subst hk
    exact getD_set_true (hall e he hb)
  · rw [getD_set_ne false hkj] at hl
    exact getD_set_true (h k ok hk hl e he hb)
theorem Cl.dep {listed : Array Bool} (h : Cl ops listed) {j i : Nat} (hd : Dep ops j i) : (∀ oj, ops[j]? = some oj → ∀ e ∈ oj.after, Region.binds .any e = true → listed.getD e.on false = true) → listed.getD i false = true := by
  induction hd with
  | one hj he hb => exact fun hall => hall _ hj _ he hb
  | step hj he hb _ ih => exact fun hall => ih fun ok hk e' he' hb' => h _ ok hk (hall _ hj _ he hb) e' he' hb'
theorem Cl.none (n : Nat) : Cl ops (Array.replicate n false) := fun k ok _ hl => by
  rw [Array.getD_eq_getD_getElem?, Array.getElem?_replicate] at hl
  split at hl <;> simp at hl

def k2 (ops : Array Oper) (j : Nat) : Bool := match ops[j]? with | some o => kd o.op == 2 | none => false

/-- What is asked behind number 'j'. -/
def Ob (ops : Array Oper) (S : World → Prop) (j : Nat) (w w' : World) : Prop := if k2 ops j = true then (nS ops j = true → S w') else w' = w

def wpAnyC (P : Program) (ops : Array Oper) (Q : Exit → Act → World → Prop) (S : World → Prop) : Nat → Array Bool → Act → World → Prop
  | 0, listed, a, w => Region.ready .any ops listed = [] ∧ Q .normal a w
  | fuel + 1, listed, a, w =>
    (Region.ready .any ops listed = [] → Q .normal a w) ∧
    ∀ i ∈ Region.ready .any ops listed, wpOp P ops Q i (fun a' w' => Ob ops S i w w' ∧ wpAnyC P ops Q S fuel (listed.setIfInBounds i true) a' w') a w

theorem wpAny_of_C {Q : Exit → Act → World → Prop} {S : World → Prop} : ∀ (fuel : Nat) (listed : Array Bool) (a : Act) (w : World), wpAnyC P ops Q S fuel listed a w → wpAny P .any ops Q fuel listed a w
  | 0, _, _, _, h => h
  | fuel + 1, _, _, _, h => ⟨h.1, fun i hi => wpOp_mono (fun a' w' h' => wpAny_of_C fuel _ a' w' h'.2) (h.2 i hi)⟩

theorem Ob.mono {S S' : World → Prop} {j : Nat} {w w' : World} (hs : ∀ w, S w → S' w) (h : Ob ops S j w w') : Ob ops S' j w w' := by
  unfold Ob at *
  split
  · rename_i hk; rw [if_pos hk] at h; exact fun hn => hs _ (h hn)
  · rename_i hk; rw [if_neg hk] at h; exact h

theorem wpAnyC_mono {Q : Exit → Act → World → Prop} {S S' : World → Prop} (hs : ∀ w, S w → S' w) : ∀ (fuel : Nat) (listed : Array Bool) (a : Act) (w : World), wpAnyC P ops Q S fuel listed a w → wpAnyC P ops Q S' fuel listed a w
  | 0, _, _, _, h => h
  | fuel + 1, _, _, _, h => ⟨h.1, fun i hi => wpOp_mono (fun a' w' h' => ⟨h'.1.mono hs, wpAnyC_mono hs fuel _ a' w' h'.2⟩) (h.2 i hi)⟩

/-- No operation that has not come up asks for S. -/
def still (ops : Array Oper) (listed : Array Bool) : Bool := (List.range ops.size).all fun j => listed.getD j true || !nS ops j

theorem still_set {listed : Array Bool} (h : still ops listed = true) (i : Nat) : still ops (listed.setIfInBounds i true) = true := by
  unfold still at *
  rw [List.all_eq_true] at *
  intro j hj
  have := h j hj
  simp only [Bool.or_eq_true] at *
  rcases this with h' | h'
  · left
    by_cases hij : i = j
    · subst hij
      by_cases hlt : i < listed.size
      · simp [hlt]
      · simp [hlt]
    · rw [getD_set_ne true hij]; exact h'
  · exact .inr h'

theorem lt_of_op {i : Nat} {o : Oper} (h : ops[i]? = some o) : i < ops.size := by
  rcases Nat.lt_or_ge i ops.size with h' | h'
  · exact h'
  · simp [Array.getElem?_eq_none h'] at h

theorem still_ready {listed : Array Bool} (h : still ops listed = true) {i : Nat} (hi : i ∈ Region.ready .any ops listed) : nS ops i = false := by
  obtain ⟨hun, o, ho, _⟩ := mem_ready.1 hi
  unfold still at h
  rw [List.all_eq_true] at h
  have := h i (by simpa using lt_of_op ho)
  rw [hun] at this
  simpa using this

theorem wpAnyC_still {Q : Exit → Act → World → Prop} {S S' : World → Prop} : ∀ (fuel : Nat) (listed : Array Bool) (a : Act) (w : World), still ops listed = true → wpAnyC P ops Q S fuel listed a w → wpAnyC P ops Q S' fuel listed a w
  | 0, _, _, _, _, h => h
  | fuel + 1, _, _, _, hst, h => ⟨h.1, fun i hi => wpOp_mono (fun a' w' h' => ⟨by
      have h1 := h'.1
      unfold Ob at *
      split
      · intro hn; rw [still_ready hst hi] at hn; cases hn
      · rename_i hk; rw [if_neg hk] at h1; exact h1, wpAnyC_still fuel _ a' w' (still_set hst i) h'.2⟩) (h.2 i hi)⟩

theorem wpAnyC_first {Q : Exit → Act → World → Prop} {S : World → Prop} {i : Nat} {oi : Oper} {v : Value} (hi : ops[i]? = some oi) (hsel : ∀ (j : Nat) (o : Oper) cs b, ops[j]? = some o → o.op ≠ .select cs b)
    (hQ : ∀ c a w, ¬ Q (.panic c) a w) (hk : kd oi.op ≠ 2) :
    ∀ (fuel : Nat) (listed : Array Bool) (a : Act) (w : World), Cl ops listed →
      (∀ j oj, ops[j]? = some oj → j ≠ i → listed.getD j true = false → (∀ e ∈ oj.after, Region.binds .any e = true → e.on ≠ i) → oi.apart ops oj = true) →
      i ∈ Region.ready .any ops listed → YieldsIf P ops (fun w' => kd oi.op = 1 → S w') oi v a → (kd oi.op = 1 → S w) →
      wpAnyC P ops Q S fuel (listed.setIfInBounds i true) (a.put oi.dst v) w → wpAnyC P ops Q S (fuel + 1) listed a w := by
  intro fuel
  have hQ' : ∀ c a w, Q (.panic c) (a.put oi.dst v) w → Q (.panic c) a w := fun c a w h => absurd h (hQ _ _ _)
  have hk2 : k2 ops i = false := by unfold k2; rw [hi]; simpa using hk
  have hob : ∀ w, Ob ops S i w w := fun w => by unfold Ob; rw [if_neg (by rw [hk2]; simp)]
  induction fuel with
  | zero =>
    intro listed a w _ _ hr hy hS H
    refine ⟨fun h => (by rw [h] at hr; cases hr), fun j hj => ?_⟩
    by_cases hji : j = i
    · subst hji; exact hy.wpOp hi hS ⟨hob w, H⟩
    · have := ready_mono hj hji
      rw [H.1] at this
      cases this
  | succ fuel ih =>
    intro listed a w hcl hfree hr hy hS H
    refine ⟨fun h => (by rw [h] at hr; cases hr), fun j hj => ?_⟩
    by_cases hji : j = i
    · subst hji; exact hy.wpOp hi hS ⟨hob w, H⟩
    · have h1 := H.2 j (ready_mono hj hji)
      obtain ⟨hjun, oj, hoj, hall⟩ := mem_ready.1 hj
      have hnot : ∀ e ∈ oj.after, Region.binds .any e = true → e.on ≠ i := fun e he hb heq => by
        have h1 := hall e he hb
        have h0 := (mem_ready.1 hr).1
        rw [heq] at h1
        rcases Nat.lt_or_ge i listed.size with h' | h'
        · simp [h'] at h0 h1; rw [h0] at h1; cases h1
        · simp [Array.getElem?_eq_none h'] at h1
      have hdep : ¬ Dep ops j i := fun hd => by
        have h1 := hcl.dep hd (fun oj' hoj' => by rw [hoj] at hoj'; injection hoj' with hoj'; subst hoj'; exact hall)
        have h0 := (mem_ready.1 hr).1
        rcases Nat.lt_or_ge i listed.size with h' | h'
        · simp [h'] at h0 h1; rw [h0] at h1; cases h1
        · simp [Array.getElem?_eq_none h'] at h1
      have h2 := wpOp_putIf hoj (hfree j oj hoj hji hjun hnot) (fun cs b => hsel i oi cs b hi) (fun cs b => hsel j oj cs b hoj) hQ' hy h1
      have hfree' : ∀ k ok, ops[k]? = some ok → k ≠ i → (listed.setIfInBounds j true).getD k true = false →
          (∀ e ∈ ok.after, Region.binds .any e = true → e.on ≠ i) → oi.apart ops ok = true := fun k ok hk hki hun hno => by
        refine hfree k ok hk hki ?_ hno
        by_cases hjk : j = k
        · subst hjk; exact hjun
        · rw [getD_set_ne true hjk] at hun; exact hun
      refine wpOp_mono (fun a' w' h3 => ⟨h3.2.1, ih (listed.setIfInBounds j true) a' w' (hcl.set hj) hfree' (ready_mono hr (Ne.symm hji)) h3.1 ?_ ?_⟩) h2
      · intro hk1
        have hob' := h3.2.1
        unfold Ob at hob'
        split at hob'
        · exact hob' (nS_of hi (Ne.symm hji) hk1 hdep)
        · rw [hob']; exact hS hk1
      · rw [Array.setIfInBounds_comm _ _ hji]
        exact h3.2.2

def noQ : Exit → Act → World → Prop := fun _ _ _ => False
/-- Only the normal end. -/
def onlyN (Q : Exit → Act → World → Prop) : Exit → Act → World → Prop := fun e a w => e = .normal ∧ Q .normal a w

theorem wpOp_noQ {i : Nat} {K : Act → World → Prop} {Q : Exit → Act → World → Prop} {a : Act} {w : World} (h : wpOp P ops noQ i K a w) : wpOp P ops Q i K a w := by
  unfold wpOp at *
  split
  · rename_i hn; simpa [hn] using h
  · rename_i o ho
    simp only [ho] at h
    split
    · rename_i hw
      simp only [hw, if_true] at h
      rcases h with h | ⟨_, _, _, hf⟩
      · left
        unfold Oper.wp at *
        generalize (execOp a.eval o).run P w = r at *
        cases r with
        | ok n w' =>
          cases n <;> simp only [Oper.upon] at h ⊢ <;> first | exact h | skip
          case enter f args =>
            refine Calls.mono h fun e w'' he => ?_
            cases e with
            | returned v => exact he
            | panicked c => exact he.elim
            | outgrown => obtain ⟨_, _, hf⟩ := he; exact hf.elim
        | halt x w' => cases x <;> simp only [Oper.upon] at h ⊢ <;> exact h.elim
      · exact hf.elim
    · rename_i hw; simp only [hw] at h; exact h

/-- The walk of a drawn region in the order of a plan. -/
def wpG (P : Program) (ops : Array Oper) (Q : Exit → Act → World → Prop) : List Nat → Act → World → Prop
  | [], a, w => Q .normal a w
  | i :: rest, a, w => ∃ o, ops[i]? = some o ∧
    if kd o.op = 2 then wpOp P ops noQ i (fun a' w' => ((nS ops i || rest.any (nS ops)) = true → Le w w') ∧ wpG P ops Q rest a' w') a w
    else ∃ v, YieldsIf P ops (fun w' => kd o.op = 1 → Le w w') o v a ∧ wpG P ops Q rest (a.put o.dst v) w

def planB (ops : Array Oper) : List Nat → Array Bool → Bool
  | [], listed => (Region.ready .any ops listed).isEmpty
  | i :: rest, listed =>
    (if k2 ops i then (Region.ready .any ops listed == [i]) && ((nS ops i || rest.any (nS ops)) || still ops (listed.setIfInBounds i true))
     else (Region.ready .any ops listed).contains i && Region.free .any ops listed i) && planB ops rest (listed.setIfInBounds i true)

def planOK (ops : Array Oper) (plan : List Nat) : Bool := plan.length == ops.size && Region.noSelect ops && planB ops plan (Array.replicate ops.size false)

theorem plan_main {Q : Exit → Act → World → Prop} (hs : Region.noSelect ops = true) : ∀ (L : List Nat) (listed : Array Bool) (a : Act) (w : World),
    Cl ops listed → planB ops L listed = true → wpG P ops Q L a w → wpAnyC P ops (onlyN Q) (Le w) L.length listed a w := by
  intro L
  induction L with
  | nil =>
    intro listed a w _ hp h
    refine ⟨by simpa [planB] using hp, rfl, h⟩
  | cons i rest ih =>
    intro listed a w hcl hp h
    obtain ⟨o, ho, h⟩ := h
    simp only [planB, Bool.and_eq_true] at hp
    obtain ⟨hp1, hp2⟩ := hp
    by_cases hk : kd o.op = 2
    · rw [if_pos hk] at h
      have hk2 : k2 ops i = true := by unfold k2; rw [ho]; simpa using hk
      rw [if_pos hk2] at hp1
      rw [Bool.and_eq_true, beq_iff_eq, Bool.or_eq_true] at hp1
      obtain ⟨hr, hst⟩ := hp1
      refine ⟨fun h0 => (by rw [hr] at h0; cases h0), fun j hj => ?_⟩
      rw [hr] at hj
      obtain rfl : j = i := by simpa using hj
      refine wpOp_mono (fun a' w' h' => ⟨?_, ?_⟩) (wpOp_noQ h)
      · unfold Ob; rw [if_pos hk2]; exact fun hn => h'.1 (by rw [hn, Bool.true_or])
      · have := ih (listed.setIfInBounds j true) a' w' (hcl.set (by rw [hr]; simp)) hp2 h'.2
        rcases hst with hst | hst
        · exact wpAnyC_mono (fun _ hw => (h'.1 hst).trans hw) _ _ _ _ this
        · exact wpAnyC_still _ _ _ _ hst this
    · rw [if_neg hk] at h
      obtain ⟨v, hy, h⟩ := h
      have hk2 : ¬ k2 ops i = true := by unfold k2; rw [ho]; simpa using hk
      rw [if_neg hk2] at hp1
      simp only [Bool.and_eq_true] at hp1
      exact wpAnyC_first ho (Region.noSelect_spec hs) (fun _ _ _ hf => by cases hf.1) hk _ listed a w hcl (Region.free_spec ho hp1.2) (by simpa using hp1.1) hy (fun _ => Le.refl w) (ih _ _ _ (hcl.set (by simpa using hp1.1)) hp2 h)

theorem wp_draw {Q : Exit → Act → World → Prop} {id : Nat} {a : Act} {w : World} (plan : List Nat) (hm : P.follows .mixedOrders = true) (hp : planOK ops plan = true)
    (h : wpG P ops Q plan a { w with drawn := w.drawn + 1 }) : (Code.region id ops true).wp P Q a w := by
  simp only [planOK, Bool.and_eq_true, beq_iff_eq] at hp
  obtain ⟨⟨hl, hs⟩, hp⟩ := hp
  have := plan_main hs plan _ a _ (Cl.none _) hp h
  rw [hl] at this
  refine wp_mono (wp_region_any hm (wpAny_of_C _ _ _ _ this)) ?_
  rintro e a w ⟨rfl, hq⟩
  exact hq
end
end Go.Sx
