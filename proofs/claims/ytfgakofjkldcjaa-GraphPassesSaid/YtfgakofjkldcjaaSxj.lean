/- Drawn regions in which one row may change while other cells are read. No program in sight. -/
import Derived.Test.YtfgakofjkldcjaaSxi
namespace Go.Sx
open Go Go.RowKit
section
variable {P : Program} {ops : Array Oper} {Q : Exit → Act → World → Prop} {n : Nat} {S : World → Prop}
def wpGS (P : Program) (ops : Array Oper) (Q : Exit → Act → World → Prop) (S : World → Prop) : List Nat → Act → World → Prop
  | [], a, w => Q .normal a w
  | i :: rest, a, w => ∃ o, ops[i]? = some o ∧
    if kd o.op = 2 then wpOp P ops noQ i (fun a' w' => S w' ∧ wpGS P ops Q S rest a' w') a w
    else ∃ v, YieldsIf P ops (fun w' => kd o.op = 1 → S w') o v a ∧ wpGS P ops Q S rest (a.put o.dst v) w
def planS (ops : Array Oper) : List Nat → Array Bool → Bool
  | [], listed => (Region.ready .any ops listed).isEmpty
  | i :: rest, listed =>
    (if k2 ops i then (Region.ready .any ops listed == [i])
     else (Region.ready .any ops listed).contains i && Region.free .any ops listed i) && planS ops rest (listed.setIfInBounds i true)
def planSOK (ops : Array Oper) (plan : List Nat) : Bool := plan.length == ops.size && Region.noSelect ops && planS ops plan (Array.replicate ops.size false)
theorem planS_main (hs : Region.noSelect ops = true) : ∀ (L : List Nat) (listed : Array Bool) (a : Act) (w : World),
    S w → Cl ops listed → planS ops L listed = true → wpGS P ops Q S L a w → wpAnyC P ops (onlyN Q) S L.length listed a w := by
  intro L
  induction L with
  | nil =>
    intro listed a w _ _ hp h
    refine ⟨by simpa [planS] using hp, rfl, h⟩
  | cons i rest ih =>
    intro listed a w hS hcl hp h
    obtain ⟨o, ho, h⟩ := h
    simp only [planS, Bool.and_eq_true] at hp
    obtain ⟨hp1, hp2⟩ := hp
    by_cases hk : kd o.op = 2
    · rw [if_pos hk] at h
      have hk2 : k2 ops i = true := by unfold k2; rw [ho]; simpa using hk
      rw [if_pos hk2, beq_iff_eq] at hp1
      refine ⟨fun h0 => (by rw [hp1] at h0; cases h0), fun j hj => ?_⟩
      rw [hp1] at hj
      obtain rfl : j = i := by simpa using hj
      refine wpOp_mono (fun a' w' h' => ⟨?_, ?_⟩) (wpOp_noQ h)
      · unfold Ob; rw [if_pos hk2]; exact fun _ => h'.1
      · exact ih (listed.setIfInBounds j true) a' w' h'.1 (hcl.set (by rw [hp1]; simp)) hp2 h'.2
    · rw [if_neg hk] at h
      obtain ⟨v, hy, h⟩ := h
      have hk2 : ¬ k2 ops i = true := by unfold k2; rw [ho]; simpa using hk
      rw [if_neg hk2] at hp1
      simp only [Bool.and_eq_true] at hp1
      exact wpAnyC_first ho (Region.noSelect_spec hs) (fun _ _ _ hf => by cases hf.1) hk _ listed a w hcl (Region.free_spec ho hp1.2) (by simpa using hp1.1) hy (fun _ => hS) (ih _ _ _ hS (hcl.set (by simpa using hp1.1)) hp2 h)
def GS (P : Program) (ops : Array Oper) (Q : Exit → Act → World → Prop) (n : Nat) (S : World → Prop) (plan : List Nat) (env : Env) (w : World) : Prop := ∀ a, Rep a n env → wpGS P ops Q S plan a w
theorem GS.nil {env : Env} {w : World} (h : E Q n .normal env w) : GS P ops Q n S [] env w := fun a ha => h a ha
theorem GS.any {env : Env} {w : World} {i : Nat} {o : Oper} {plan : List Nat} {v : Value} {d : Nat} (ho : ops[i]? = some o) (hk : kd o.op = 0) (hr : Any P env n o v) (hg : o.guard = none) (hd : o.dst = some d)
    (hn : Nat.blt d n = true) (h : GS P ops Q n S plan ((d, v) :: env) w) : GS P ops Q n S (i :: plan) env w := fun a ha =>
  ⟨o, ho, by
    rw [if_neg (by rw [hk]; decide)]
    refine ⟨v, .inl ⟨by unfold Region.wanted; rw [hg], fun w' _ => hr a ha w'⟩, ?_⟩
    rw [hd]
    exact h _ (ha.put hn v)⟩
theorem GS.rd {env : Env} {w : World} {i : Nat} {o : Oper} {plan : List Nat} {v : Value} {d : Nat} (ho : ops[i]? = some o) (hk : kd o.op = 1) (hr : ∀ w', S w' → Rd P w' env n o v) (hg : o.guard = none) (hd : o.dst = some d)
    (hn : Nat.blt d n = true) (h : GS P ops Q n S plan ((d, v) :: env) w) : GS P ops Q n S (i :: plan) env w := fun a ha =>
  ⟨o, ho, by
    rw [if_neg (by rw [hk]; decide)]
    refine ⟨v, .inl ⟨by unfold Region.wanted; rw [hg], fun w' hw => hr w' (hw hk) a ha w' (Le.refl w')⟩, ?_⟩
    rw [hd]
    exact h _ (ha.put hn v)⟩
theorem GS.ef {env : Env} {w : World} {i : Nat} {o : Oper} {plan : List Nat} {d : Nat} (ho : ops[i]? = some o) (hk : kd o.op = 2) (hg : o.guard = none) (hd : o.dst = some d) (hn : Nat.blt d n = true)
    (h : Ef P env n o w fun v w' => S w' ∧ GS P ops Q n S plan ((d, v) :: env) w') : GS P ops Q n S (i :: plan) env w := fun a ha =>
  ⟨o, ho, by
    rw [if_pos hk]
    unfold wpOp
    simp only [ho]
    rw [if_pos (by unfold Region.wanted; rw [hg])]
    left
    exact Oper.wp_mono (fun a' w' ⟨v, h1, h2, h3⟩ => ⟨h2, by subst h1; rw [hd]; exact h3 _ (ha.put hn v)⟩) (h a ha)⟩
theorem GS.ef0 {env : Env} {w : World} {i : Nat} {o : Oper} {plan : List Nat} (ho : ops[i]? = some o) (hk : kd o.op = 2) (hg : o.guard = none) (hd : o.dst = none)
    (h : Ef P env n o w fun _ w' => S w' ∧ GS P ops Q n S plan env w') : GS P ops Q n S (i :: plan) env w := fun a ha =>
  ⟨o, ho, by
    rw [if_pos hk]
    unfold wpOp
    simp only [ho]
    rw [if_pos (by unfold Region.wanted; rw [hg])]
    left
    exact Oper.wp_mono (fun a' w' ⟨v, h1, h2, h3⟩ => ⟨h2, by subst h1; rw [hd]; exact h3 _ ha⟩) (h a ha)⟩
/-- S: what stands in whatever order they come. -/
theorem WC.drawS {env : Env} {w : World} {id : Nat} (S : World → World → Prop) (plan : List Nat) (hm : P.follows .mixedOrders = true) (hp : planSOK ops plan = true)
    (h : ∀ w', Le w w' → S w' w' ∧ GS P ops Q n (S w') plan env w') : WC P Q n (.region id ops true) env w := fun a ha => by
  simp only [planSOK, Bool.and_eq_true, beq_iff_eq] at hp
  obtain ⟨⟨hl, hs⟩, hp⟩ := hp
  obtain ⟨h1, h2⟩ := h _ (Le.drew w)
  have := planS_main hs plan _ a _ h1 (Cl.none _) hp (h2 a ha)
  rw [hl] at this
  refine wp_mono (wp_region_any hm (wpAny_of_C _ _ _ _ this)) ?_
  rintro e a w ⟨rfl, hq⟩
  exact hq
end
end Go.Sx
