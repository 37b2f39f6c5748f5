/- The judgments of the symbolic executor: what is known of a frame is a list of slots with their values. No program in sight. -/
import Derived.Test.YtfgakofjkldcjaaSxa
namespace Go.Sx
open Go Go.RowKit

abbrev Env := List (Nat × Value)
def look : Env → Nat → Option Value
  | [], _ => none
  | (j, v) :: e, i => bif Nat.beq j i then some v else look e i
def ev (env : Env) : Operand → Option Value
  | .tmp t => look env t
  | .const v => some v
  | .global g => some (.pointer (some ⟨g, 0, none⟩))
  | .func f => some (.func (.func f) #[] #[])
def evs (env : Env) : List Operand → Option (List Value)
  | [] => some []
  | x :: xs => match ev env x, evs env xs with
    | some v, some vs => some (v :: vs)
    | _, _ => none

def Rep (a : Act) (n : Nat) (env : Env) : Prop := a.defers = [] ∧ a.tmps.size = n ∧ ∀ i v, look env i = some v → a.tmps[i]? = some v

theorem look_same (e : Env) (i : Nat) (v : Value) : look ((i, v) :: e) i = some v := by simp [look]
theorem look_other (e : Env) {i j : Nat} (v : Value) (h : j ≠ i) : look ((j, v) :: e) i = look e i := by
  have : Nat.beq j i = false := by rw [Bool.eq_false_iff]; intro hb; exact h (Nat.eq_of_beq_eq_true hb)
  simp [look, this]

theorem Rep.eval {a : Act} {n : Nat} {env : Env} (h : Rep a n env) {x : Operand} {v : Value} (hx : ev env x = some v) : a.eval x = v := by
  cases x with
  | tmp t => have := h.2.2 t v hx; simp [Act.eval, this]
  | const u => simpa [ev, Act.eval] using hx
  | global g => simpa [ev, Act.eval] using hx
  | func f => simpa [ev, Act.eval] using hx

theorem Rep.evals {a : Act} {n : Nat} {env : Env} (h : Rep a n env) : ∀ {xs : List Operand} {vs : List Value}, evs env xs = some vs → xs.map a.eval = vs
  | [], vs, hv => by simp [evs] at hv; simp [hv]
  | x :: xs, vs, hv => by
    simp only [evs] at hv
    split at hv
    · rename_i v vs' h1 h2
      injection hv with hv
      subst hv
      simp [h.eval h1, h.evals h2]
    · cases hv

theorem Rep.put {a : Act} {n : Nat} {env : Env} (h : Rep a n env) {d : Nat} (hd : Nat.blt d n = true) (v : Value) : Rep (a.put (some d) v) n ((d, v) :: env) := by
  have hlt : d < n := by simpa [Nat.blt_eq] using hd
  refine ⟨h.1, by simp [Act.put, h.2.1], fun i u hu => ?_⟩
  by_cases hdi : d = i
  · subst hdi
    rw [look_same] at hu
    injection hu with hu
    subst hu
    simp [Act.put, h.2.1, hlt]
  · rw [look_other _ _ hdi] at hu
    have := h.2.2 i u hu
    simp [Act.put, hdi, this]

def Sub (e' e : Env) : Prop := ∀ i v, look e' i = some v → look e i = some v
theorem Sub.nil (e : Env) : Sub [] e := fun i v h => by simp [look] at h
theorem Sub.cons {e' e : Env} {s : Nat} {v : Value} (h : look e s = some v) (hs : Sub e' e) : Sub ((s, v) :: e') e := fun i u hu => by
  by_cases hsi : s = i
  · subst hsi; rw [look_same] at hu; rw [← hu]; exact h
  · rw [look_other _ _ hsi] at hu; exact hs i u hu
theorem Sub.cons' {e' e : Env} {s : Nat} {v u : Value} (h : look e s = some u) (hv : u = v) (hs : Sub e' e) : Sub ((s, v) :: e') e := by subst hv; exact .cons h hs
theorem Sub.refl (e : Env) : Sub e e := fun _ _ h => h
theorem Rep.sub {a : Act} {n : Nat} {env e' : Env} (h : Rep a n env) (hs : Sub e' env) : Rep a n e' := ⟨h.1, h.2.1, fun i v hv => h.2.2 i v (hs i v hv)⟩

/-- The first frame of a call. -/
def envOfArgs : Nat → List Value → Env
  | _, [] => []
  | k, v :: vs => (k, v) :: envOfArgs (k + 1) vs
theorem look_envOfArgs : ∀ (vs : List Value) (k i : Nat) (v : Value), look (envOfArgs k vs) i = some v → k ≤ i ∧ vs[i - k]? = some v
  | [], _, _, _, h => by simp [envOfArgs, look] at h
  | u :: vs, k, i, v, h => by
    by_cases hki : k = i
    · subst hki
      rw [envOfArgs, look_same] at h
      simpa using h
    · rw [envOfArgs, look_other _ _ hki] at h
      obtain ⟨h1, h2⟩ := look_envOfArgs vs (k + 1) i v h
      refine ⟨by omega, ?_⟩
      rw [show i - k = (i - (k + 1)) + 1 by omega]
      simpa using h2

/-! ### What pure and reading operations yield -/
section
variable {P : Program}
def Any (P : Program) (env : Env) (n : Nat) (o : Oper) (v : Value) : Prop := ∀ a, Rep a n env → ∀ w, (execOp a.eval o).run P w = .ok (.value v) w
def Rd (P : Program) (w0 : World) (env : Env) (n : Nat) (o : Oper) (v : Value) : Prop := ∀ a, Rep a n env → ∀ w, Le w0 w → (execOp a.eval o).run P w = .ok (.value v) w
theorem Any.rd {env : Env} {n : Nat} {o : Oper} {v : Value} (h : Any P env n o v) (w0 : World) : Rd P w0 env n o v := fun a ha w _ => h a ha w
/-- What an acting operation comes to. -/
def Ef (P : Program) (env : Env) (n : Nat) (o : Oper) (w : World) (K : Value → World → Prop) : Prop :=
  ∀ a, Rep a n env → o.wp P a w (fun a' w' => ∃ v, a' = a.put o.dst v ∧ K v w') noQ

theorem Oper.wp_noQ {o : Oper} {a : Act} {w : World} {K : Act → World → Prop} {Q : Exit → Act → World → Prop} (h : o.wp P a w K noQ) : o.wp P a w K Q := by
  unfold Oper.wp at *
  generalize (execOp a.eval o).run P w = r at *
  cases r with
  | ok n w' =>
    cases n <;> simp only [Oper.upon] at h ⊢ <;> first | exact h | skip
    case enter f args =>
      refine Calls.mono h fun e w'' he => ?_
      cases e with
      | returned v => exact he
      | panicked c => exact he.elim
      | outgrown => obtain ⟨_, _, hf⟩ := he; exact hf.elim
  | halt x w' => cases x <;> simp only [Oper.upon] at h ⊢ <;> exact h.elim

variable {ops : Array Oper} {Q : Exit → Act → World → Prop} {n : Nat}

/-! ### Plain regions -/
def W (P : Program) (ops : Array Oper) (Q : Exit → Act → World → Prop) (n : Nat) (rest : List Oper) (env : Env) (w : World) : Prop := ∀ a, Rep a n env → wpList P ops Q rest a w
def E (Q : Exit → Act → World → Prop) (n : Nat) (ex : Exit) (env : Env) (w : World) : Prop := ∀ a, Rep a n env → Q ex a w
def WC (P : Program) (Q : Exit → Act → World → Prop) (n : Nat) (c : Code) (env : Env) (w : World) : Prop := ∀ a, Rep a n env → Code.wp P c Q a w

theorem W.nil {env : Env} {w : World} (h : E Q n .normal env w) : W P ops Q n [] env w := fun a ha => h a ha
theorem W.rd {env : Env} {w : World} {o : Oper} {rest : List Oper} {v : Value} {d : Nat} (hr : Rd P w env n o v) (hg : o.guard = none) (hd : o.dst = some d) (hn : Nat.blt d n = true)
    (h : W P ops Q n rest ((d, v) :: env) w) : W P ops Q n (o :: rest) env w := fun a ha =>
  wpList_plain hg fun K hK => by
    unfold Oper.wp
    rw [hr a ha w (Le.refl w), Oper.upon_value, hd]
    exact hK _ _ (h _ (ha.put hn v))
theorem W.any {env : Env} {w : World} {o : Oper} {rest : List Oper} {v : Value} {d : Nat} (hr : Any P env n o v) (hg : o.guard = none) (hd : o.dst = some d) (hn : Nat.blt d n = true)
    (h : W P ops Q n rest ((d, v) :: env) w) : W P ops Q n (o :: rest) env w := W.rd (hr.rd w) hg hd hn h
theorem W.ef {env : Env} {w : World} {o : Oper} {rest : List Oper} {d : Nat} (hg : o.guard = none) (hd : o.dst = some d) (hn : Nat.blt d n = true)
    (h : Ef P env n o w fun v w' => W P ops Q n rest ((d, v) :: env) w') : W P ops Q n (o :: rest) env w := fun a ha =>
  wpList_plain hg fun K hK => Oper.wp_noQ (Oper.wp_mono (fun a' w' ⟨v, h1, h2⟩ => hK _ _ (by subst h1; rw [hd]; exact h2 _ (ha.put hn v))) (h a ha))
theorem W.ef0 {env : Env} {w : World} {o : Oper} {rest : List Oper} (hg : o.guard = none) (hd : o.dst = none)
    (h : Ef P env n o w fun _ w' => W P ops Q n rest env w') : W P ops Q n (o :: rest) env w := fun a ha =>
  wpList_plain hg fun K hK => Oper.wp_noQ (Oper.wp_mono (fun a' w' ⟨v, h1, h2⟩ => hK _ _ (by subst h1; rw [hd]; exact h2 _ ha)) (h a ha))

theorem yielded_of {env : Env} {a : Act} (ha : Rep a n env) {j dj : Nat} {b : Bool} (hj : (ops[j]?).bind (·.dst) = some dj) (hv : look env dj = some (.bool b)) : yielded ops a.tmps j = some b := by
  unfold yielded
  rw [hj]
  simp [ha.2.2 dj _ hv]
theorem wanted_of {env : Env} {a : Act} (ha : Rep a n env) {o : Oper} {j dj : Nat} {b want : Bool} (hg : o.guard = some (j, want)) (hj : (ops[j]?).bind (·.dst) = some dj) (hv : look env dj = some (.bool b)) :
    Region.wanted o (yielded ops a.tmps) = (b == want) := by
  unfold Region.wanted
  rw [hg]
  simp only [yielded_of ha hj hv]
  cases b <;> cases want <;> rfl

/-- A guarded operation that is wanted. -/
theorem W.rdg {env : Env} {w : World} {o : Oper} {rest : List Oper} {v : Value} {d j dj : Nat} {b want : Bool} (hr : Rd P w env n o v) (hg : o.guard = some (j, want)) (hj : (ops[j]?).bind (·.dst) = some dj)
    (hv : look env dj = some (.bool b)) (hb : b = want) (hd : o.dst = some d) (hn : Nat.blt d n = true)
    (h : W P ops Q n rest ((d, v) :: env) w) : W P ops Q n (o :: rest) env w := fun a ha => by
  refine wpList_step fun K hK => ?_
  rw [wanted_of ha hg hj hv, hb]
  simp only [beq_self_eq_true, if_true]
  unfold Oper.wp
  rw [hr a ha w (Le.refl w), Oper.upon_value, hd]
  exact hK _ _ (h _ (ha.put hn v))
theorem W.efg {env : Env} {w : World} {o : Oper} {rest : List Oper} {d j dj : Nat} {b want : Bool} (hg : o.guard = some (j, want)) (hj : (ops[j]?).bind (·.dst) = some dj)
    (hv : look env dj = some (.bool b)) (hb : b = want) (hd : o.dst = some d) (hn : Nat.blt d n = true)
    (h : Ef P env n o w fun v w' => W P ops Q n rest ((d, v) :: env) w') : W P ops Q n (o :: rest) env w := fun a ha => by
  refine wpList_step fun K hK => ?_
  rw [wanted_of ha hg hj hv, hb]
  simp only [beq_self_eq_true, if_true]
  exact Oper.wp_noQ (Oper.wp_mono (fun a' w' ⟨v, h1, h2⟩ => hK _ _ (by subst h1; rw [hd]; exact h2 _ (ha.put hn v))) (h a ha))
/-- A guarded operation that is passed over. -/
theorem W.skip {env : Env} {w : World} {o : Oper} {rest : List Oper} {d j dj : Nat} {b want : Bool} (hg : o.guard = some (j, want)) (hj : (ops[j]?).bind (·.dst) = some dj)
    (hv : look env dj = some (.bool b)) (hb : b = !want) (hd : o.dst = some d) (hn : Nat.blt d n = true)
    (h : W P ops Q n rest ((d, undef) :: env) w) : W P ops Q n (o :: rest) env w := fun a ha => by
  refine wpList_step fun K hK => ?_
  rw [wanted_of ha hg hj hv, hb, hd]
  have : ((!want) == want) = false := by cases want <;> rfl
  simp only [this, Bool.false_eq_true, if_false]
  exact hK _ _ (h _ (ha.put hn undef))
theorem yielded_none {env : Env} {a : Act} (ha : Rep a n env) {j dj : Nat} (hj : (ops[j]?).bind (·.dst) = some dj) (hv : look env dj = some undef) : yielded ops a.tmps j = none := by
  unfold yielded
  rw [hj]
  simp [ha.2.2 dj _ hv, undef]
theorem unwanted_of {env : Env} {a : Act} (ha : Rep a n env) {o : Oper} {j dj : Nat} {want : Bool} (hg : o.guard = some (j, want)) (hj : (ops[j]?).bind (·.dst) = some dj) (hv : look env dj = some undef) :
    Region.wanted o (yielded ops a.tmps) = false := by
  unfold Region.wanted
  rw [hg]
  simp only [yielded_none ha hj hv]
  cases want <;> rfl
/-- A guarded operation whose guard was passed over. -/
theorem W.skipu {env : Env} {w : World} {o : Oper} {rest : List Oper} {d j dj : Nat} {want : Bool} (hg : o.guard = some (j, want)) (hj : (ops[j]?).bind (·.dst) = some dj)
    (hv : look env dj = some undef) (hd : o.dst = some d) (hn : Nat.blt d n = true)
    (h : W P ops Q n rest ((d, undef) :: env) w) : W P ops Q n (o :: rest) env w := fun a ha => by
  refine wpList_step fun K hK => ?_
  rw [unwanted_of ha hg hj hv, hd]
  simp only [Bool.false_eq_true, if_false]
  exact hK _ _ (h _ (ha.put hn undef))

/-! ### Drawn regions -/
def G (P : Program) (ops : Array Oper) (Q : Exit → Act → World → Prop) (n : Nat) (plan : List Nat) (env : Env) (w : World) : Prop := ∀ a, Rep a n env → wpG P ops Q plan a w
theorem G.nil {env : Env} {w : World} (h : E Q n .normal env w) : G P ops Q n [] env w := fun a ha => h a ha

theorem G.any {env : Env} {w : World} {i : Nat} {o : Oper} {plan : List Nat} {v : Value} {d : Nat} (ho : ops[i]? = some o) (hk : kd o.op = 0) (hr : Any P env n o v) (hg : o.guard = none) (hd : o.dst = some d)
    (hn : Nat.blt d n = true) (h : G P ops Q n plan ((d, v) :: env) w) : G P ops Q n (i :: plan) env w := fun a ha =>
  ⟨o, ho, by
    rw [if_neg (by rw [hk]; decide)]
    refine ⟨v, .inl ⟨by unfold Region.wanted; rw [hg], fun w' _ => hr a ha w'⟩, ?_⟩
    rw [hd]
    exact h _ (ha.put hn v)⟩
theorem G.rd {env : Env} {w : World} {i : Nat} {o : Oper} {plan : List Nat} {v : Value} {d : Nat} (ho : ops[i]? = some o) (hk : kd o.op = 1) (hr : Rd P w env n o v) (hg : o.guard = none) (hd : o.dst = some d)
    (hn : Nat.blt d n = true) (h : G P ops Q n plan ((d, v) :: env) w) : G P ops Q n (i :: plan) env w := fun a ha =>
  ⟨o, ho, by
    rw [if_neg (by rw [hk]; decide)]
    refine ⟨v, .inl ⟨by unfold Region.wanted; rw [hg], fun w' hw => hr a ha w' (hw hk)⟩, ?_⟩
    rw [hd]
    exact h _ (ha.put hn v)⟩
theorem G.anyg {env : Env} {w : World} {i : Nat} {o : Oper} {plan : List Nat} {v : Value} {d j dj : Nat} {b want : Bool} (ho : ops[i]? = some o) (hk : kd o.op = 0) (hr : Any P env n o v) (hg : o.guard = some (j, want))
    (hj : (ops[j]?).bind (·.dst) = some dj) (hv : look env dj = some (.bool b)) (hb : b = want) (hd : o.dst = some d)
    (hn : Nat.blt d n = true) (h : G P ops Q n plan ((d, v) :: env) w) : G P ops Q n (i :: plan) env w := fun a ha =>
  ⟨o, ho, by
    rw [if_neg (by rw [hk]; decide)]
    refine ⟨v, .inl ⟨by rw [wanted_of ha hg hj hv, hb]; simp, fun w' _ => hr a ha w'⟩, ?_⟩
    rw [hd]
    exact h _ (ha.put hn v)⟩
theorem G.rdg {env : Env} {w : World} {i : Nat} {o : Oper} {plan : List Nat} {v : Value} {d j dj : Nat} {b want : Bool} (ho : ops[i]? = some o) (hk : kd o.op = 1) (hr : Rd P w env n o v) (hg : o.guard = some (j, want))
    (hj : (ops[j]?).bind (·.dst) = some dj) (hv : look env dj = some (.bool b)) (hb : b = want) (hd : o.dst = some d)
    (hn : Nat.blt d n = true) (h : G P ops Q n plan ((d, v) :: env) w) : G P ops Q n (i :: plan) env w := fun a ha =>
  ⟨o, ho, by
    rw [if_neg (by rw [hk]; decide)]
    refine ⟨v, .inl ⟨by rw [wanted_of ha hg hj hv, hb]; simp, fun w' hw => hr a ha w' (hw hk)⟩, ?_⟩
    rw [hd]
    exact h _ (ha.put hn v)⟩
theorem G.ef {env : Env} {w : World} {i : Nat} {o : Oper} {plan : List Nat} {d : Nat} (ho : ops[i]? = some o) (hk : kd o.op = 2) (hg : o.guard = none) (hd : o.dst = some d) (hn : Nat.blt d n = true)
    (h : Ef P env n o w fun v w' => ((nS ops i || plan.any (nS ops)) = true → Le w w') ∧ G P ops Q n plan ((d, v) :: env) w') : G P ops Q n (i :: plan) env w := fun a ha =>
  ⟨o, ho, by
    rw [if_pos hk]
    unfold wpOp
    simp only [ho]
    rw [if_pos (by unfold Region.wanted; rw [hg])]
    left
    exact Oper.wp_mono (fun a' w' ⟨v, h1, h2, h3⟩ => ⟨h2, by subst h1; rw [hd]; exact h3 _ (ha.put hn v)⟩) (h a ha)⟩
theorem G.ef0 {env : Env} {w : World} {i : Nat} {o : Oper} {plan : List Nat} (ho : ops[i]? = some o) (hk : kd o.op = 2) (hg : o.guard = none) (hd : o.dst = none)
    (h : Ef P env n o w fun _ w' => ((nS ops i || plan.any (nS ops)) = true → Le w w') ∧ G P ops Q n plan env w') : G P ops Q n (i :: plan) env w := fun a ha =>
  ⟨o, ho, by
    rw [if_pos hk]
    unfold wpOp
    simp only [ho]
    rw [if_pos (by unfold Region.wanted; rw [hg])]
    left
    exact Oper.wp_mono (fun a' w' ⟨v, h1, h2, h3⟩ => ⟨h2, by subst h1; rw [hd]; exact h3 _ ha⟩) (h a ha)⟩
theorem G.efg {env : Env} {w : World} {i : Nat} {o : Oper} {plan : List Nat} {d j dj : Nat} {b want : Bool} (ho : ops[i]? = some o) (hk : kd o.op = 2) (hg : o.guard = some (j, want))
    (hj : (ops[j]?).bind (·.dst) = some dj) (hv : look env dj = some (.bool b)) (hb : b = want) (hd : o.dst = some d) (hn : Nat.blt d n = true)
    (h : Ef P env n o w fun v w' => ((nS ops i || plan.any (nS ops)) = true → Le w w') ∧ G P ops Q n plan ((d, v) :: env) w') : G P ops Q n (i :: plan) env w := fun a ha =>
  ⟨o, ho, by
    rw [if_pos hk]
    unfold wpOp
    simp only [ho]
    rw [if_pos (by rw [wanted_of ha hg hj hv, hb]; simp)]
    left
    exact Oper.wp_mono (fun a' w' ⟨v, h1, h2, h3⟩ => ⟨h2, by subst h1; rw [hd]; exact h3 _ (ha.put hn v)⟩) (h a ha)⟩
theorem G.skip {env : Env} {w : World} {i : Nat} {o : Oper} {plan : List Nat} {d j dj : Nat} {b want : Bool} (ho : ops[i]? = some o) (hg : o.guard = some (j, want))
    (hj : (ops[j]?).bind (·.dst) = some dj) (hv : look env dj = some (.bool b)) (hb : b = !want) (hd : o.dst = some d) (hn : Nat.blt d n = true)
    (h : G P ops Q n plan ((d, undef) :: env) w) : G P ops Q n (i :: plan) env w := fun a ha =>
  ⟨o, ho, by
    have hw : Region.wanted o (yielded ops a.tmps) = false := by rw [wanted_of ha hg hj hv, hb]; cases want <;> rfl
    split
    · unfold wpOp
      simp only [ho]
      rw [if_neg (by rw [hw]; simp)]
      refine ⟨fun _ => Le.refl w, ?_⟩
      rw [hd]
      exact h _ (ha.put hn undef)
    · refine ⟨undef, .inr ⟨hw, rfl⟩, ?_⟩
      rw [hd]
      exact h _ (ha.put hn undef)⟩
theorem G.skipu {env : Env} {w : World} {i : Nat} {o : Oper} {plan : List Nat} {d j dj : Nat} {want : Bool} (ho : ops[i]? = some o) (hg : o.guard = some (j, want))
    (hj : (ops[j]?).bind (·.dst) = some dj) (hv : look env dj = some undef) (hd : o.dst = some d) (hn : Nat.blt d n = true)
    (h : G P ops Q n plan ((d, undef) :: env) w) : G P ops Q n (i :: plan) env w := fun a ha =>
  ⟨o, ho, by
    have hw : Region.wanted o (yielded ops a.tmps) = false := unwanted_of ha hg hj hv
    split
    · unfold wpOp
      simp only [ho]
      rw [if_neg (by rw [hw]; simp)]
      refine ⟨fun _ => Le.refl w, ?_⟩
      rw [hd]
      exact h _ (ha.put hn undef)
    · refine ⟨undef, .inr ⟨hw, rfl⟩, ?_⟩
      rw [hd]
      exact h _ (ha.put hn undef)⟩

/-! ### Code -/
theorem WC.seq {env : Env} {w : World} {x y : Code} (h : WC P (Exit.then (y.wp P Q) Q) n x env w) : WC P Q n (.seq x y) env w := fun a ha => wp_seq (h a ha)
theorem WC.region {env : Env} {w : World} {id : Nat} {l : List Oper} (h : W P l.toArray Q n l env w) : WC P Q n (.region id l.toArray false) env w := fun a ha => wp_region_lit (h a ha)
theorem WC.draw {env : Env} {w : World} {id : Nat} (plan : List Nat) (hm : P.follows .mixedOrders = true) (hp : planOK ops plan = true)
    (h : ∀ w', Le w w' → G P ops Q n plan env w') : WC P Q n (.region id ops true) env w := fun a ha => wp_draw plan hm hp (h _ (Le.drew w) a ha)
theorem WC.block {env : Env} {w : World} {id : Nat} {c : Code} (h : WC P (Exit.inBlock id Q) n c env w) : WC P Q n (.block id c) env w := fun a ha => wp_block (h a ha)
theorem WC.ret {env : Env} {w : World} (h : E Q n .ret env w) : WC P Q n .ret env w := fun a ha => wp_ret (h a ha)
theorem WC.skip {env : Env} {w : World} (h : E Q n .normal env w) : WC P Q n .skip env w := fun a ha => wp_skip (h a ha)
theorem WC.exit {env : Env} {w : World} {id : Nat} (h : E Q n (.exit id) env w) : WC P Q n (.exit id) env w := fun a ha => wp_exit (h a ha)
theorem WC.label {env : Env} {w : World} {l : Nat} (h : E Q n .normal env w) : WC P Q n (.label l) env w := fun a ha => wp_label (h a ha)
theorem WC.condB {env : Env} {w : World} {c : Operand} {x y : Code} {b : Bool} (hc : ev env c = some (.bool b)) (ht : b = true → WC P Q n x env w) (hf : b = false → WC P Q n y env w) :
    WC P Q n (.cond c x y) env w := fun a ha => wp_cond_split (ha.eval hc) (fun h => ht h a ha) (fun h => hf h a ha)
theorem WC.cond {env : Env} {w : World} {c : Operand} {x y : Code} {p : Prop} [Decidable p] (hc : ev env c = some (.bool (decide p))) (ht : p → WC P Q n x env w) (hf : ¬ p → WC P Q n y env w) :
    WC P Q n (.cond c x y) env w := .condB hc (fun h => ht (of_decide_eq_true h)) (fun h => hf (of_decide_eq_false h))
theorem WC.condT {env : Env} {w : World} {c : Operand} {x y : Code} (hc : ev env c = some (.bool true)) (ht : WC P Q n x env w) : WC P Q n (.cond c x y) env w := fun a ha => wp_cond_true (ha.eval hc) (ht a ha)
theorem WC.condF {env : Env} {w : World} {c : Operand} {x y : Code} (hc : ev env c = some (.bool false)) (hf : WC P Q n y env w) : WC P Q n (.cond c x y) env w := fun a ha => wp_cond_false (ha.eval hc) (hf a ha)
theorem WC.sub {env e' : Env} {w : World} {c : Code} (hs : Sub e' env) (h : WC P Q n c e' w) : WC P Q n c env w := fun a ha => h a (ha.sub hs)
theorem W.sub {env e' : Env} {w : World} {l : List Oper} (hs : Sub e' env) (h : W P ops Q n l e' w) : W P ops Q n l env w := fun a ha => h a (ha.sub hs)
theorem E.sub {env e' : Env} {w : World} {ex : Exit} (hs : Sub e' env) (h : E Q n ex e' w) : E Q n ex env w := fun a ha => h a (ha.sub hs)

theorem E.thenN {env : Env} {w : World} {y : Code} {Q Q' : Exit → Act → World → Prop} (h : WC P Q n y env w) : E (Exit.then (y.wp P Q) Q') n .normal env w := h
theorem E.thenX {env : Env} {w : World} {K : Act → World → Prop} {id : Nat} (h : E Q n (.exit id) env w) : E (Exit.then K Q) n (.exit id) env w := h
theorem E.thenR {env : Env} {w : World} {K : Act → World → Prop} (h : E Q n .ret env w) : E (Exit.then K Q) n .ret env w := h
theorem E.blkN {env : Env} {w : World} {id : Nat} (h : E Q n .normal env w) : E (Exit.inBlock id Q) n .normal env w := h
theorem E.blkR {env : Env} {w : World} {id : Nat} (h : E Q n .ret env w) : E (Exit.inBlock id Q) n .ret env w := h
theorem E.blkH {env : Env} {w : World} {id : Nat} (h : E Q n .normal env w) : E (Exit.inBlock id Q) n (.exit id) env w := fun a ha => by
  show (if id = id then _ else _); rw [if_pos rfl]; exact h a ha
theorem E.blkX {env : Env} {w : World} {id id' : Nat} (hne : Nat.beq id' id = false) (h : E Q n (.exit id') env w) : E (Exit.inBlock id Q) n (.exit id') env w := fun a ha => by
  show (if id' = id then _ else _)
  rw [if_neg (fun he => by subst he; simp at hne)]
  exact h a ha

/-- Ways that meet: behind 'x' only 'M' is known. -/
theorem WC.cut {ι : Type} {env : Env} {w : World} {x y : Code} (envOf : ι → Env) (M : ι → World → Prop)
    (hx : WC P (Exit.then (fun a w' => ∃ i, Rep a n (envOf i) ∧ M i w') Q) n x env w) (hy : ∀ i w', M i w' → WC P Q n y (envOf i) w') : WC P Q n (.seq x y) env w := fun a ha =>
  wp_seq (wp_mono (hx a ha) fun e a' w' h => by
    cases e with
    | normal => obtain ⟨i, hr, hm⟩ := h; exact hy i w' hm a' hr
    | exit id => exact h
    | goto l => exact h
    | ret => exact h
    | panic c => exact h
    | outgrown => exact h)
theorem E.meet {ι : Type} {env : Env} {w : World} {envOf : ι → Env} {M : ι → World → Prop} (i : ι) (hs : Sub (envOf i) env) (hm : M i w) :
    E (Exit.then (fun a w' => ∃ i, Rep a n (envOf i) ∧ M i w') Q) n .normal env w := fun _ ha => ⟨i, ha.sub hs, hm⟩

def LInv {ι : Type} (n : Nat) (envOf : ι → Env) (I : ι → World → Prop) (μ : ι → Nat) (i : ι) (a : Act) (w : World) : Prop := ∃ j, Rep a n (envOf j) ∧ I j w ∧ μ j < μ i
theorem WC.loop {ι : Type} {env : Env} {w : World} {c : Code} (envOf : ι → Env) (I : ι → World → Prop) (μ : ι → Nat) (i0 : ι) (he : Sub (envOf i0) env) (h0 : I i0 w)
    (round : ∀ i w, I i w → WC P (Exit.then (LInv n envOf I μ i) Q) n c (envOf i) w) : WC P Q n (.loop c) env w := fun a ha => by
  have key : ∀ m i a w, μ i = m → Rep a n (envOf i) → I i w → Code.wp P (.loop c) Q a w := by
    intro m i a w hm hr hI
    refine wp_loop (fun a' w' => ∃ j, Rep a' n (envOf j) ∧ I j w') (fun a' w' => Classical.epsilon fun k => (∃ j, Rep a' n (envOf j) ∧ I j w' ∧ μ j = k) ∧ ∀ k', (∃ j, Rep a' n (envOf j) ∧ I j w' ∧ μ j = k') → k ≤ k') ⟨i, hr, hI⟩ ?_
    intro a1 w1 ⟨j0, hr0, hI0⟩
    -- the least measure
    have hex : ∃ k, (∃ j, Rep a1 n (envOf j) ∧ I j w1 ∧ μ j = k) ∧ ∀ k', (∃ j, Rep a1 n (envOf j) ∧ I j w1 ∧ μ j = k') → k ≤ k' := least ⟨j0, hr0, hI0, rfl⟩
    obtain ⟨⟨j, hrj, hIj, hμ⟩, _⟩ := Classical.epsilon_spec hex
    refine wp_mono (round j w1 hIj a1 hrj) fun e a2 w2 h => ?_
    cases e with
    | normal =>
      obtain ⟨j', hr', hI', hlt⟩ := h
      refine ⟨⟨j', hr', hI'⟩, ?_⟩
      have hex' : ∃ k, (∃ j, Rep a2 n (envOf j) ∧ I j w2 ∧ μ j = k) ∧ ∀ k', (∃ j, Rep a2 n (envOf j) ∧ I j w2 ∧ μ j = k') → k ≤ k' := least ⟨j', hr', hI', rfl⟩
      have := (Classical.epsilon_spec hex').2 (μ j') ⟨j', hr', hI', rfl⟩
      exact Nat.lt_of_le_of_lt this (by rw [← hμ]; exact hlt)
    | exit id => exact h
    | goto l => exact h
    | ret => exact h
    | panic c => exact h
    | outgrown => exact h
  exact key _ i0 a w rfl (ha.sub he) h0
where
  least {p : Nat → Prop} {m : Nat} (h : p m) : ∃ k, p k ∧ ∀ k', p k' → k ≤ k' := by
    induction m using Nat.strongRecOn with
    | _ m ih =>
      by_cases hl : ∃ k, k < m ∧ p k
      · obtain ⟨k, hk, hp⟩ := hl; exact ih k hk hp
      · exact ⟨m, h, fun k' hp => Nat.le_of_not_lt fun hlt => hl ⟨k', hlt, hp⟩⟩
theorem E.again {ι : Type} {env : Env} {w : World} {envOf : ι → Env} {I : ι → World → Prop} {μ : ι → Nat} {i : ι} (j : ι) (hs : Sub (envOf j) env) (hI : I j w) (hμ : μ j < μ i) :
    E (Exit.then (LInv n envOf I μ i) Q) n .normal env w := fun _ ha => ⟨j, ha.sub hs, hI, hμ⟩

/-! ### Entering and leaving -/
theorem enter {f : FuncId} {fn : Func} {c : Code} {args : List Value} {w : World} {R : Ending → World → Prop} (hf : P.funcs[f]? = some fn) (hb : fn.body = some c) (hl : Nat.ble args.length fn.ntmps = true)
    (h : WC P (bodyPost P fn R) fn.ntmps c (envOfArgs 0 args) w) : Calls P f args.toArray w R := by
  have hl' : args.length ≤ fn.ntmps := Nat.le_of_ble_eq_true hl
  refine calls_of_wp hf hb (h _ ⟨rfl, ?_, fun i v hv => ?_⟩)
  · simp; omega
  · obtain ⟨_, h2⟩ := look_envOfArgs args 0 i v hv
    simp only [Nat.sub_zero] at h2
    rw [Array.getElem?_append_left (by simpa using (List.getElem?_eq_some_iff.1 h2).1)]
    simpa using h2
theorem E.ret1 {fn : Func} {R : Ending → World → Prop} {env : Env} {w : World} {t : Nat} {v : Value} (hr : fn.results = #[.tmp t]) (hv : look env t = some v) (h : R (.returned v) w) : E (bodyPost P fn R) n .ret env w := fun a ha =>
  bodyPost_ret (by rw [results_tmp hr]; simp [ha.2.2 t v hv]) ha.1 h
theorem E.ret2 {fn : Func} {R : Ending → World → Prop} {env : Env} {w : World} {t u : Nat} {v x : Value} (hr : fn.results = #[.tmp t, .tmp u]) (hv : look env t = some v) (hx : look env u = some x) (h : R (.returned (.tuple #[v, x])) w) :
    E (bodyPost P fn R) n .ret env w := fun a ha => bodyPost_ret (by rw [results_tmp2 hr]; simp [ha.2.2 t v hv, ha.2.2 u x hx]) ha.1 h
theorem E.ret3 {fn : Func} {R : Ending → World → Prop} {env : Env} {w : World} {t u s : Nat} {v x y : Value} (hr : fn.results = #[.tmp t, .tmp u, .tmp s]) (hv : look env t = some v) (hx : look env u = some x) (hy : look env s = some y)
    (h : R (.returned (.tuple #[v, x, y])) w) : E (bodyPost P fn R) n .ret env w := fun a ha =>
  bodyPost_ret (v := .tuple #[v, x, y]) (by simp [results, hr, ha.2.2 t v hv, ha.2.2 u x hx, ha.2.2 s y hy]) ha.1 h
theorem E.ret0 {fn : Func} {R : Ending → World → Prop} {env : Env} {w : World} (hr : fn.results = #[]) (h : R (.returned (.tuple #[])) w) : E (bodyPost P fn R) n .ret env w := fun _ ha =>
  bodyPost_ret (results_none hr _ _ _) ha.1 h
theorem E.end_ {fn : Func} {R : Ending → World → Prop} {env : Env} {w : World} (h : E (bodyPost P fn R) n .ret env w) : E (bodyPost P fn R) n .normal env w := h
end
end Go.Sx
