/- Drawn regions in which two acting operations may come up in either order: plans that branch. No program in sight. -/
import Derived.Test.YtfgakofjkldcjaaSxf
namespace Go.Sx
open Go Go.RowKit
section
variable {P : Program} {ops : Array Oper} {Q : Exit → Act → World → Prop} {n : Nat}
inductive Tr
  | nil
  | op (need : Bool) (i : Nat) (t : Tr)
  | br (t u : Tr)
def Tr.size : Tr → Nat
  | .nil => 0
  | .op _ _ t => t.size + 1
  | .br t _ => t.size
/-- A line of operations ahead of a tree. -/
def app (ops : Array Oper) : List Nat → Tr → Tr
  | [], t => t
  | i :: rest, t => .op (nS ops i || rest.any (nS ops)) i (app ops rest t)
def wpT (P : Program) (ops : Array Oper) (Q : Exit → Act → World → Prop) : Tr → Act → World → Prop
  | .nil, a, w => Q .normal a w
  | .op need i t, a, w => ∃ o, ops[i]? = some o ∧
    if kd o.op = 2 then wpOp P ops noQ i (fun a' w' => (need = true → Le w w') ∧ wpT P ops Q t a' w') a w
    else ∃ v, YieldsIf P ops (fun w' => kd o.op = 1 → Le w w') o v a ∧ wpT P ops Q t (a.put o.dst v) w
  | .br t u, a, w => wpT P ops Q t a w ∧ wpT P ops Q u a w
def effOK (ops : Array Oper) (need : Bool) (i : Nat) (listed : Array Bool) : Bool := k2 ops i && (!nS ops i || need) && (need || still ops (listed.setIfInBounds i true))
def planT (ops : Array Oper) : Tr → Array Bool → Bool
  | .nil, listed => (Region.ready .any ops listed).isEmpty
  | .op need i t, listed => (if k2 ops i then (Region.ready .any ops listed == [i]) && effOK ops need i listed else (Region.ready .any ops listed).contains i && Region.free .any ops listed i) && planT ops t (listed.setIfInBounds i true)
  | .br (.op n i t) (.op m j u), listed => Region.ready .any ops listed == [i, j] && effOK ops n i listed && effOK ops m j listed && t.size == u.size && planT ops t (listed.setIfInBounds i true) && planT ops u (listed.setIfInBounds j true)
  | .br _ _, _ => false
theorem tr_eff {need : Bool} {i : Nat} {t : Tr} {listed : Array Bool} {a : Act} {w : World} (ih : ∀ a' w', wpT P ops Q t a' w' → wpAnyC P ops (onlyN Q) (Le w') t.size (listed.setIfInBounds i true) a' w')
    (he : effOK ops need i listed = true) (h : wpT P ops Q (.op need i t) a w) :
    wpOp P ops (onlyN Q) i (fun a' w' => Ob ops (Le w) i w w' ∧ wpAnyC P ops (onlyN Q) (Le w) t.size (listed.setIfInBounds i true) a' w') a w := by
  simp only [effOK, Bool.and_eq_true, Bool.or_eq_true, Bool.not_eq_true'] at he
  obtain ⟨⟨hk2, hn⟩, hst⟩ := he
  obtain ⟨o, ho, h⟩ := h
  have hk : kd o.op = 2 := by unfold k2 at hk2; rw [ho] at hk2; simpa using hk2
  rw [if_pos hk] at h
  refine wpOp_mono (fun a' w' h' => ⟨?_, ?_⟩) (wpOp_noQ h)
  · unfold Ob
    rw [if_pos hk2]
    intro hs
    rcases hn with hn | hn
    · rw [hn] at hs; cases hs
    · exact h'.1 hn
  · have := ih a' w' h'.2
    rcases hst with hst | hst
    · exact wpAnyC_mono (fun _ hw => (h'.1 hst).trans hw) _ _ _ _ this
    · exact wpAnyC_still _ _ _ _ hst this
theorem tr_main (hs : Region.noSelect ops = true) : ∀ (t : Tr) (listed : Array Bool) (a : Act) (w : World),
    Cl ops listed → planT ops t listed = true → wpT P ops Q t a w → wpAnyC P ops (onlyN Q) (Le w) t.size listed a w
  | .nil, listed, a, w, _, hp, h => ⟨by simpa [planT] using hp, rfl, h⟩
  | .op need i t, listed, a, w, hcl, hp, h => by
    simp only [planT, Bool.and_eq_true] at hp
    obtain ⟨hp1, hp2⟩ := hp
    by_cases hk2 : k2 ops i = true
    · rw [if_pos hk2, Bool.and_eq_true, beq_iff_eq] at hp1
      obtain ⟨hr, he⟩ := hp1
      refine ⟨fun h0 => (by rw [hr] at h0; cases h0), fun j hj => ?_⟩
      rw [hr] at hj
      obtain rfl : j = i := by simpa using hj
      exact tr_eff (fun a' w' h' => tr_main hs t _ a' w' (hcl.set (by rw [hr]; simp)) hp2 h') he h
    · rw [if_neg hk2] at hp1
      simp only [Bool.and_eq_true] at hp1
      obtain ⟨o, ho, h⟩ := h
      have hk : ¬ kd o.op = 2 := by unfold k2 at hk2; rw [ho] at hk2; simpa using hk2
      rw [if_neg hk] at h
      obtain ⟨v, hy, h⟩ := h
      have hi : i ∈ Region.ready .any ops listed := by simpa using hp1.1
      exact wpAnyC_first ho (Region.noSelect_spec hs) (fun _ _ _ hf => by cases hf.1) hk _ listed a w hcl (Region.free_spec ho hp1.2) hi hy (fun _ => Le.refl w) (tr_main hs t _ _ _ (hcl.set hi) hp2 h)
  | .br (.op n i t) (.op m j u), listed, a, w, hcl, hp, h => by
    simp only [planT, Bool.and_eq_true, beq_iff_eq] at hp
    obtain ⟨⟨⟨⟨⟨hr, he1⟩, he2⟩, hsz⟩, hp1⟩, hp2⟩ := hp
    refine ⟨fun h0 => (by rw [hr] at h0; cases h0), fun k hk => ?_⟩
    rw [hr] at hk
    simp only [List.mem_cons, List.not_mem_nil, or_false] at hk
    rcases hk with rfl | rfl
    · exact tr_eff (fun a' w' h' => tr_main hs t _ a' w' (hcl.set (by rw [hr]; simp)) hp1 h') he1 h.1
    · show wpOp P ops (onlyN Q) k (fun a' w' => Ob ops (Le w) k w w' ∧ wpAnyC P ops (onlyN Q) (Le w) t.size (listed.setIfInBounds k true) a' w') a w
      rw [hsz]
      exact tr_eff (fun a' w' h' => tr_main hs u _ a' w' (hcl.set (by rw [hr]; simp)) hp2 h') he2 h.2
  | .br .nil _, _, _, _, _, hp, _ => by simp [planT] at hp
  | .br (.br _ _) _, _, _, _, _, hp, _ => by simp [planT] at hp
  | .br (.op _ _ _) .nil, _, _, _, _, hp, _ => by simp [planT] at hp
  | .br (.op _ _ _) (.br _ _), _, _, _, _, hp, _ => by simp [planT] at hp
def planTOK (ops : Array Oper) (t : Tr) : Bool := t.size == ops.size && Region.noSelect ops && planT ops t (Array.replicate ops.size false)
def GT (P : Program) (ops : Array Oper) (Q : Exit → Act → World → Prop) (n : Nat) (t : Tr) (env : Env) (w : World) : Prop := ∀ a, Rep a n env → wpT P ops Q t a w
theorem wpT_app {t : Tr} : ∀ (L : List Nat) (a : Act) (w : World), wpG P ops (fun _ a w => wpT P ops Q t a w) L a w → wpT P ops Q (app ops L t) a w
  | [], _, _, h => h
  | i :: rest, a, w, h => by
    obtain ⟨o, ho, h⟩ := h
    refine ⟨o, ho, ?_⟩
    split
    · rename_i hk
      rw [if_pos hk] at h
      exact wpOp_mono (fun a' w' h' => ⟨h'.1, wpT_app rest a' w' h'.2⟩) h
    · rename_i hk
      rw [if_neg hk] at h
      obtain ⟨v, hy, h⟩ := h
      exact ⟨v, hy, wpT_app rest _ _ h⟩
theorem GT.app {t : Tr} {L : List Nat} {env : Env} {w : World} (h : G P ops (fun _ a w => wpT P ops Q t a w) n L env w) : GT P ops Q n (Sx.app ops L t) env w := fun a ha => wpT_app L a w (h a ha)
theorem GT.br {t u : Tr} {env : Env} {w : World} (h1 : GT P ops Q n t env w) (h2 : GT P ops Q n u env w) : E (fun _ a w => wpT P ops Q (.br t u) a w) n .normal env w := fun a ha => ⟨h1 a ha, h2 a ha⟩
theorem wpG_weak : ∀ (L : List Nat) (a : Act) (w : World), wpG P ops Q L a w → wpG P ops (fun _ a w => wpT P ops Q .nil a w) L a w
  | [], _, _, h => h
  | i :: rest, a, w, h => by
    obtain ⟨o, ho, h⟩ := h
    refine ⟨o, ho, ?_⟩
    split
    · rename_i hk
      rw [if_pos hk] at h
      exact wpOp_mono (fun a' w' h' => ⟨h'.1, wpG_weak rest a' w' h'.2⟩) h
    · rename_i hk
      rw [if_neg hk] at h
      obtain ⟨v, hy, h⟩ := h
      exact ⟨v, hy, wpG_weak rest _ _ h⟩
theorem GT.last {L : List Nat} {env : Env} {w : World} (h : G P ops Q n L env w) : GT P ops Q n (Sx.app ops L .nil) env w := fun a ha => wpT_app L a w (wpG_weak L a w (h a ha))
theorem WC.drawT {env : Env} {w : World} {id : Nat} (t : Array Oper → Tr) (hm : P.follows .mixedOrders = true) (hp : planTOK ops (t ops) = true)
    (h : ∀ w', Le w w' → GT P ops Q n (t ops) env w') : WC P Q n (.region id ops true) env w := fun a ha => by
  simp only [planTOK, Bool.and_eq_true, beq_iff_eq] at hp
  obtain ⟨⟨hl, hs⟩, hp⟩ := hp
  have := tr_main hs (t ops) _ a _ (Cl.none _) hp (h _ (Le.drew w) a ha)
  rw [hl] at this
  refine wp_mono (wp_region_any hm (wpAny_of_C _ _ _ _ this)) ?_
  rintro e a w ⟨rfl, hq⟩
  exact hq
end
end Go.Sx
