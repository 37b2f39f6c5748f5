/- Rounds of a range over a function, in the symbolic executor. No program in sight. -/
import Derived.Test.YtpmjdiccekkadaaSxj
import Derived.RangeFuncNested
import Derived.RangeFuncBound
import Derived.RangeFuncCalls
import Derived.RangeFuncLeaves
import Derived.OrdersIn
namespace Go.Sx
open Go Go.RowKit
section
variable {P : Program} {ops : Array Oper} {Q : Exit → Act → World → Prop} {n l m : Nat}
abbrev rF (l : Nat) : Fence := Fence.wide.inRound l
theorem rows_in {row : String} {args : Array Value} {w : World} {R : Value → World → Prop} (h : Rows P row args w R) : RowsIn (rF l) m P row args w R := fun c cs _ => by
  obtain ⟨v, w', r, s⟩ := h c cs
  exact ⟨v, w', r, stepsIn_wide.2 s⟩
theorem Oper.wp_in {o : Oper} {a : Act} {w : World} {K : Act → World → Prop} (hnd : ∀ c, o.op ≠ .defer c) (h : o.wp P a w K Q) : o.wpIn (rF l) m P a w K Q := by
  refine ⟨fun _ _ => trivial, ?_⟩
  rw [Fence.inRound_round, Oper.semAt_some l _ _ hnd]
  unfold Oper.wp at h
  generalize (execOp a.eval o).run P w = r at *
  cases r with
  | ok x w' =>
    cases x <;> simp only [Oper.upon, Oper.uponIn] at h ⊢ <;>
      first
        | exact h
        | exact ⟨fun h => (by cases h), CallsIn.inRound l (callsIn_wide.2 h)⟩
        | exact ⟨fun h => (by cases h), rows_in h⟩
  | halt x w' => cases x <;> simp only [Oper.upon, Oper.uponIn] at h ⊢ <;> exact h
def noDf (o : Oper) : Bool := match o.op with | .defer _ => false | _ => true
theorem noDf_spec {o : Oper} (h : noDf o = true) : ∀ c, o.op ≠ .defer c := fun c hc => by unfold noDf at h; rw [hc] at h; cases h
theorem wpList_in (hlo : ¬ LetsOut Q) : ∀ (rest : List Oper) (a : Act) (w : World), rest.all noDf = true → wpList P ops Q rest a w → wpListIn (rF l) m P ops Q rest a w
  | [], _, _, _, h => h
  | o :: rest, a, w, hnd, h => by
    simp only [List.all_cons, Bool.and_eq_true] at hnd
    unfold wpList at h
    unfold wpListIn
    split
    · rename_i hw
      rw [if_pos hw] at h
      rcases h with h | ⟨_, h⟩
      · exact Oper.wp_in (noDf_spec hnd.1) (Oper.wp_mono (fun a' w' h' => wpList_in hlo rest a' w' hnd.2 h') h)
      · exact absurd h hlo
    · rename_i hw
      rw [if_neg hw] at h
      exact ⟨fun _ _ => trivial, wpList_in hlo rest _ _ hnd.2 h⟩
theorem wpOp_in (hlo : ¬ LetsOut Q) (hnd : ops.toList.all noDf = true) {i : Nat} {K : Act → World → Prop} {a : Act} {w : World} (h : wpOp P ops Q i K a w) : wpOpIn (rF l) m P ops Q i K a w := by
  unfold wpOp at h
  unfold wpOpIn
  split
  · rename_i ho; simpa [ho] using h
  · rename_i o ho
    simp only [ho] at h
    have hno : noDf o = true := by
      rw [List.all_eq_true] at hnd
      exact hnd o (by rw [Array.mem_toList_iff]; exact Array.mem_of_getElem? ho)
    split
    · rename_i hw
      rw [if_pos hw] at h
      rcases h with h | ⟨_, h⟩
      · exact Oper.wp_in (noDf_spec hno) h
      · exact absurd h hlo
    · rename_i hw
      rw [if_neg hw] at h
      exact ⟨fun _ _ => trivial, h⟩
theorem wpAny_in (hlo : ¬ LetsOut Q) (hnd : ops.toList.all noDf = true) : ∀ (fuel : Nat) (listed : Array Bool) (a : Act) (w : World), wpAny P .any ops Q fuel listed a w → wpAnyIn (rF l) m P .any ops Q fuel listed a w
  | 0, _, _, _, h => h
  | fuel + 1, _, _, _, h => ⟨h.1, fun i hi => wpOpIn_mono (fun a' w' h' => wpAny_in hlo hnd fuel _ a' w' h') (wpOp_in hlo hnd (h.2 i hi))⟩
def RC (P : Program) (Q : Exit → Act → World → Prop) (n l m : Nat) (c : Code) (env : Env) (w : World) : Prop := ∀ a, Rep a n env → c.wpIn (rF l) m P Q a w
theorem RC.seq {env : Env} {w : World} {x y : Code} (h : RC P (Exit.then (y.wpIn (rF l) m P Q) Q) n l m x env w) : RC P Q n l m (.seq x y) env w := fun a ha => wpIn_seq (h a ha)
theorem RC.thenN {env : Env} {w : World} {y : Code} {Q Q' : Exit → Act → World → Prop} (h : RC P Q n l m y env w) : E (Exit.then (y.wpIn (rF l) m P Q) Q') n .normal env w := h
theorem RC.region {env : Env} {w : World} {id : Nat} {L : List Oper} (hnd : L.all noDf = true) (hlo : ¬ LetsOut Q) (h : W P L.toArray Q n L env w) : RC P Q n l m (.region id L.toArray false) env w := fun a ha => wpIn_region_lit (wpList_in hlo L a w hnd (h a ha))
theorem RC.draw {env : Env} {w : World} {id : Nat} (plan : List Nat) (hm : P.follows .mixedOrders = true) (hp : planOK ops plan = true) (hnd : ops.toList.all noDf = true)
    (h : ∀ w', Le w w' → G P ops Q n plan env w') : RC P Q n l m (.region id ops true) env w := fun a ha => by
  simp only [planOK, Bool.and_eq_true, beq_iff_eq] at hp
  obtain ⟨⟨hl, hs⟩, hp⟩ := hp
  have := plan_main hs plan _ a _ (Cl.none _) hp (h _ (Le.drew w) a ha)
  rw [hl] at this
  refine wpIn_mono (wpIn_region_any hm (wpAny_in (fun ⟨_, _, hf⟩ => by cases hf.1) hnd _ _ _ _ (wpAny_of_C _ _ _ _ this))) ?_
  rintro e a w ⟨rfl, hq⟩
  exact hq
theorem RC.block {env : Env} {w : World} {id : Nat} {c : Code} (h : RC P (Exit.inBlock id Q) n l m c env w) : RC P Q n l m (.block id c) env w := fun a ha => wpIn_block (h a ha)
theorem RC.skip {env : Env} {w : World} (h : E Q n .normal env w) : RC P Q n l m .skip env w := fun a ha => wpIn_skip (h a ha)
theorem RC.condB {env : Env} {w : World} {c : Operand} {x y : Code} {b : Bool} (hc : ev env c = some (.bool b)) (ht : b = true → RC P Q n l m x env w) (hf : b = false → RC P Q n l m y env w) :
    RC P Q n l m (.cond c x y) env w := fun a ha => wpIn_cond_split (ha.eval hc) (fun h => ht h a ha) (fun h => hf h a ha)
theorem RC.cond {env : Env} {w : World} {c : Operand} {x y : Code} {p : Prop} [Decidable p] (hc : ev env c = some (.bool (decide p))) (ht : p → RC P Q n l m x env w) (hf : ¬ p → RC P Q n l m y env w) :
    RC P Q n l m (.cond c x y) env w := .condB hc (fun h => ht (of_decide_eq_true h)) (fun h => hf (of_decide_eq_false h))
/-! ### Entering and leaving a function that holds such a range -/
theorem enterM {f : FuncId} {fn : Func} {c : Code} {args : List Value} {w : World} {R : Ending → World → Prop} (hf : P.funcs[f]? = some fn) (hb : fn.body = some c) (hl : Nat.ble args.length fn.ntmps = true)
    (h : WC P (bodyPostM Fence.wide 3 P fn R) fn.ntmps c (envOfArgs 0 args) w) : Calls P f args.toArray w R := by
  have hl' : args.length ≤ fn.ntmps := Nat.le_of_ble_eq_true hl
  refine (callsIn_wide (n := 3)).1 (callsIn_of_wp_marks hf hb trivial (wpIn_wide.2 (h _ ⟨rfl, ?_, fun i v hv => ?_⟩)))
  · simp; omega
  · obtain ⟨_, h2⟩ := look_envOfArgs args 0 i v hv
    simp only [Nat.sub_zero] at h2
    rw [Array.getElem?_append_left (by simpa using (List.getElem?_eq_some_iff.1 h2).1)]
    simpa using h2
theorem E.retM2 {fn : Func} {R : Ending → World → Prop} {env : Env} {w : World} {t u : Nat} {v x : Value} (hr : fn.results = #[.tmp t, .tmp u]) (hv : look env t = some v) (hx : look env u = some x) (h : R (.returned (.tuple #[v, x])) w) :
    E (bodyPostM Fence.wide 3 P fn R) n .ret env w := fun a ha => by
  show LeavesInM Fence.wide 3 P fn a.tmps R a.defers .returning w
  rw [ha.1]
  exact ⟨_, by rw [results_tmp2 hr]; simp [ha.2.2 t v hv, ha.2.2 u x hx], h⟩
def DE (Q : Exit → Act → World → Prop) (n : Nat) (ds : List Deferred) (ex : Exit) (env : Env) (w : World) : Prop := ∀ a, Rep a n env → Q ex { a with defers := ds } w
/-- Behind a range: one mark among the deferred calls. -/
def mk (D : Nat) : List Deferred := [{ target := .collected D, args := #[] }]
theorem retM_mark {fn : Func} {R : Ending → World → Prop} {env : Env} {w : World} {t u D : Nat} {v x : Value} (hr : fn.results = #[.tmp t, .tmp u]) (hv : look env t = some v) (hx : look env u = some x) (hD : w.heap[D]? = some (.deferred (some [])))
    (h : R (.returned (.tuple #[v, x])) (w.putObj D (.deferred none))) : DE (bodyPostM Fence.wide 3 P fn R) n (mk D) .ret env w := fun _ ha =>
  ⟨by simp, .inl ⟨D, _, rfl, run_takeDeferred hD, _, by rw [results_tmp2 hr]; simp [ha.2.2 t v hv, ha.2.2 u x hx], h⟩⟩
theorem put_defers (a : Act) (ds : List Deferred) (d : Option Tmp) (v : Value) : ({ a with defers := ds } : Act).put d v = { a.put d v with defers := ds } := by cases d <;> rfl
theorem wp_defers {o : Oper} {a : Act} {w : World} {K : Value → World → Prop} {ds : List Deferred} (h : o.wp P a w (fun a' w' => ∃ v, a' = a.put o.dst v ∧ K v w') noQ) :
    o.wp P { a with defers := ds } w (fun a' w' => ∃ v, a' = { a.put o.dst v with defers := ds } ∧ K v w') noQ := by
  unfold Oper.wp at *
  have e : (execOp ({ a with defers := ds } : Act).eval o).run P w = (execOp a.eval o).run P w := rfl
  rw [e]
  have pd : ∀ (b : Act) (d : Option Tmp) (v : Value), (b.put d v).defers = b.defers := fun b d v => by cases d <;> rfl
  have inj : ∀ v v', a.put o.dst v = a.put o.dst v' → ({ a.put o.dst v with defers := ds } : Act) = { a.put o.dst v' with defers := ds } := fun v v' h => by rw [h]
  generalize (execOp a.eval o).run P w = r at *
  cases r with
  | ok x w' =>
    cases x <;> simp only [Oper.upon] at h ⊢ <;> try exact h
    case value v => obtain ⟨v', h1, h2⟩ := h; exact ⟨v', by rw [put_defers]; exact inj _ _ h1, h2⟩
    case skip => obtain ⟨v', h1, h2⟩ := h; exact ⟨v', by rw [put_defers]; exact inj _ _ h1, h2⟩
    case defer d =>
      obtain ⟨v, h1, _⟩ := h
      have h2 := congrArg (fun b : Act => b.defers.length) h1
      simp only [pd, List.length_cons] at h2
      omega
    case enter f args =>
      refine Calls.mono h fun e w'' he => ?_
      cases e with
      | returned v => obtain ⟨v', h1, h2⟩ := he; exact ⟨v', by rw [put_defers]; exact inj _ _ h1, h2⟩
      | panicked c => exact he.elim
      | outgrown => obtain ⟨_, _, hf⟩ := he; exact hf.elim
    case row row args =>
      refine Rows.mono h fun v w'' he => ?_
      obtain ⟨v', h1, h2⟩ := he
      exact ⟨v', by rw [put_defers]; exact inj _ _ h1, h2⟩
  | halt x w' => cases x <;> simp only [Oper.upon] at h ⊢ <;> exact h.elim
theorem DE.blkN {ds : List Deferred} {env : Env} {w : World} {id : Nat} (h : DE Q n ds .normal env w) : DE (Exit.inBlock id Q) n ds .normal env w := h
/-- A drawn region behind a range. -/
def GD (P : Program) (ops : Array Oper) (Q : Exit → Act → World → Prop) (n : Nat) (ds : List Deferred) (plan : List Nat) (env : Env) (w : World) : Prop := ∀ a, Rep a n env → wpG P ops Q plan { a with defers := ds } w
theorem GD.nil {ds : List Deferred} {env : Env} {w : World} (h : DE Q n ds .normal env w) : GD P ops Q n ds [] env w := h
theorem GD.any {ds : List Deferred} {env : Env} {w : World} {i : Nat} {o : Oper} {plan : List Nat} {v : Value} {d : Nat} (ho : ops[i]? = some o) (hk : kd o.op = 0) (hr : Any P env n o v) (hg : o.guard = none) (hd : o.dst = some d)
    (hn : Nat.blt d n = true) (h : GD P ops Q n ds plan ((d, v) :: env) w) : GD P ops Q n ds (i :: plan) env w := fun a ha =>
  ⟨o, ho, by
    rw [if_neg (by rw [hk]; decide)]
    refine ⟨v, .inl ⟨by unfold Region.wanted; rw [hg], fun w' _ => hr a ha w'⟩, ?_⟩
    rw [put_defers, hd]
    exact h _ (ha.put hn v)⟩
theorem GD.rd {ds : List Deferred} {env : Env} {w : World} {i : Nat} {o : Oper} {plan : List Nat} {v : Value} {d : Nat} (ho : ops[i]? = some o) (hk : kd o.op = 1) (hr : Rd P w env n o v) (hg : o.guard = none) (hd : o.dst = some d)
    (hn : Nat.blt d n = true) (h : GD P ops Q n ds plan ((d, v) :: env) w) : GD P ops Q n ds (i :: plan) env w := fun a ha =>
  ⟨o, ho, by
    rw [if_neg (by rw [hk]; decide)]
    refine ⟨v, .inl ⟨by unfold Region.wanted; rw [hg], fun w' hw => hr a ha w' (hw hk)⟩, ?_⟩
    rw [put_defers, hd]
    exact h _ (ha.put hn v)⟩
theorem GD.ef {ds : List Deferred} {env : Env} {w : World} {i : Nat} {o : Oper} {plan : List Nat} {d : Nat} (ho : ops[i]? = some o) (hk : kd o.op = 2) (hg : o.guard = none) (hd : o.dst = some d) (hn : Nat.blt d n = true)
    (h : Ef P env n o w fun v w' => ((nS ops i || plan.any (nS ops)) = true → Le w w') ∧ GD P ops Q n ds plan ((d, v) :: env) w') : GD P ops Q n ds (i :: plan) env w := fun a ha =>
  ⟨o, ho, by
    rw [if_pos hk]
    unfold wpOp
    simp only [ho]
    rw [if_pos (by unfold Region.wanted; rw [hg])]
    left
    exact Oper.wp_mono (fun a' w' ⟨v, h1, h2, h3⟩ => ⟨h2, by subst h1; rw [hd]; exact h3 _ (ha.put hn v)⟩) (wp_defers (h a ha))⟩
/-- Code behind a range. -/
def DC (P : Program) (Q : Exit → Act → World → Prop) (n : Nat) (ds : List Deferred) (c : Code) (env : Env) (w : World) : Prop := ∀ a, Rep a n env → c.wp P Q { a with defers := ds } w
theorem DC.draw {ds : List Deferred} {env : Env} {w : World} {id : Nat} (plan : List Nat) (hm : P.follows .mixedOrders = true) (hp : planOK ops plan = true)
    (h : ∀ w', Le w w' → GD P ops Q n ds plan env w') : DC P Q n ds (.region id ops true) env w := fun a ha => wp_draw plan hm hp (h _ (Le.drew w) a ha)
theorem DC.seq {ds : List Deferred} {env : Env} {w : World} {x y : Code} (h : DC P (Exit.then (y.wp P Q) Q) n ds x env w) : DC P Q n ds (.seq x y) env w := fun a ha => wp_seq (h a ha)
theorem DE.thenN {ds : List Deferred} {env : Env} {w : World} {y : Code} {Q Q' : Exit → Act → World → Prop} (h : DC P Q n ds y env w) : DE (Exit.then (y.wp P Q) Q') n ds .normal env w := h
theorem DC.ret {ds : List Deferred} {env : Env} {w : World} (h : DE Q n ds .ret env w) : DC P Q n ds .ret env w := fun a ha => wp_ret (h a ha)
/-! ### What stays -/
theorem KeepsFrom.of_le {B : Nat} {w w' : World} (h : Le w w') : KeepsFrom B w w' := ⟨h.size, fun k o _ hk _ => by
  have hlt := (Array.getElem?_eq_some_iff.1 hk).1
  exact (h.ch none).block k hlt (by simp) |>.trans hk⟩
theorem KeepsFrom.of_ch {B g : Nat} {t : TypeId} {cs : Array Value} {w w' : World} (h : Ch w w' (some g)) (hB : Blk w g t cs) : KeepsFrom B w w' := ⟨h.size, fun k o _ hk ho => by
  have hlt := (Array.getElem?_eq_some_iff.1 hk).1
  refine (h.block k hlt ?_).trans hk
  intro he
  injection he with he
  subst he
  have : w.heap[k]? = _ := hB
  rw [this] at hk
  injection hk with hk
  subst hk
  cases ho⟩
/-- Changes of what is no cells. -/
theorem row_ne {w : World} {row : Option Nat} (hr : ∀ r, row = some r → ∃ o : Obj, w.heap[r]? = some o ∧ o.isCells = false) {g : Nat} {t : TypeId} {cs : Array Value} (hB : Blk w g t cs) : row ≠ some g := fun he => by
  obtain ⟨o, ho, hc⟩ := hr g he
  have : w.heap[g]? = _ := hB
  rw [this] at ho
  injection ho with ho
  subst ho
  cases hc
theorem Blk.grown {w w' : World} {row : Option Nat} {g : Nat} {t : TypeId} {cs : Array Value} (h : Blk w g t cs) (hg : w.grownBy w' row) (hr : ∀ r, row = some r → ∃ o : Obj, w.heap[r]? = some o ∧ o.isCells = false) : Blk w' g t cs := h.ch hg (row_ne hr h)
theorem Own.grown {w w' : World} {row : Option Nat} {base e s : Nat} {A : Option Addr} {k c : Nat} {xs : List Value} (h : Own w base e s A k c xs) (hk : 0 < k) (hg : w.grownBy w' row) (hr : ∀ r, row = some r → ∃ o : Obj, w.heap[r]? = some o ∧ o.isCells = false) : Own w' base e s A k c xs :=
  h.ch hg fun g hgr he => by
    obtain ⟨g', rfl, _, _, hrow⟩ := h.lit hk
    obtain ⟨cur, hB, _⟩ := h.block hk
    rw [hrow] at he
    injection he with he
    subst he
    exact row_ne hr hB hgr
/-! ### The iterator: a region in which yield is called -/
def WI (P : Program) (ops : Array Oper) (Q : Exit → Act → World → Prop) (n : Nat) (rest : List Oper) (env : Env) (w : World) : Prop := ∀ a, Rep a n env → wpListIn Fence.wide 2 P ops Q rest a w
theorem WC.regionI {env : Env} {w : World} {id : Nat} {L : List Oper} (h : WI P L.toArray Q n L env w) : WC P Q n (.region id L.toArray false) env w := fun a ha => wpIn_wide.1 (wpIn_region_lit (h a ha))
theorem WI.nil {env : Env} {w : World} (h : E Q n .normal env w) : WI P ops Q n [] env w := fun a ha => h a ha
theorem WI.rd {env : Env} {w : World} {o : Oper} {rest : List Oper} {v : Value} {d : Nat} (hr : Rd P w env n o v) (hg : o.guard = none) (hd : o.dst = some d) (hn : Nat.blt d n = true) (_hnd : noDf o = true)
    (h : WI P ops Q n rest ((d, v) :: env) w) : WI P ops Q n (o :: rest) env w := fun a ha =>
  wpListIn_plain hg fun K hK => by
    refine ⟨fun _ _ => trivial, ?_⟩
    show o.uponIn Fence.wide 2 P a K Q ((o.semAt none a.eval).run P w)
    rw [Oper.semAt_none, hr a ha w (Le.refl w), Oper.uponIn_value, hd]
    exact hK _ _ (h _ (ha.put hn v))
theorem WI.any {env : Env} {w : World} {o : Oper} {rest : List Oper} {v : Value} {d : Nat} (hr : Any P env n o v) (hg : o.guard = none) (hd : o.dst = some d) (hn : Nat.blt d n = true) (hnd : noDf o = true)
    (h : WI P ops Q n rest ((d, v) :: env) w) : WI P ops Q n (o :: rest) env w := WI.rd (hr.rd w) hg hd hn hnd h
theorem WI.yield {env : Env} {w : World} {rest : List Oper} {d l : Nat} {f : Operand} {args : Array Operand} {ats : Array TypeId} {T : TypeId} {p : String} {af : Array Edge} {vs : List Value} {R : Ending → World → Prop}
    (hf : ev env f = some (.func (.yield l) #[] #[])) (ha : evs env args.toList = some vs) (hn : Nat.blt d n = true) (hy : YieldAt Fence.wide 1 P l vs.toArray w R)
    (h : ∀ e w', R e w' → ∃ v, e = .returned v ∧ WI P ops Q n rest ((d, v) :: env) w') : WI P ops Q n (⟨some d, .call ⟨.value f, args, ats⟩, T, p, af, none⟩ :: rest) env w := fun a hr =>
  wpListIn_plain rfl fun K hK => by
    refine ⟨fun _ _ => trivial, ?_⟩
    obtain ⟨fn, tmps, assign, body, hrun, hR⟩ := hy
    have hargs : args.map a.eval = vs.toArray := by rw [← hr.evals ha]; apply Array.ext'; simp
    have e : ((⟨some d, .call ⟨.value f, args, ats⟩, T, p, af, none⟩ : Oper).semAt none a.eval).run P w = .ok (.round l fn tmps assign body) w := by
      rw [Oper.semAt_none]
      simp [execOp, resolve, Deferred.ofValue, hr.eval hf, invoke, hargs, hrun]
    show Oper.uponIn Fence.wide 2 P _ a K Q _
    rw [show (Fence.wide).round = none from rfl, e, Oper.uponIn_round]
    refine ⟨fun h => (by cases h), hR.mono fun e w' he => ?_⟩
    obtain ⟨v, rfl, hw⟩ := h e w' he
    exact hK _ _ (hw _ (hr.put hn v))
/-- The range itself, over two variables, in a body that never leaves. -/
theorem WC.range {α : Type} {env : Env} {w : World} {g p1 p2 : Nat} {assign body : Code} {gf : Nat} {lb : Array Value} (hg : look env g = some (.func (.func gf) #[] lb)) (eg : IsGo P gf) (h1 : Nat.blt p1 n = true) (h2 : Nat.blt p2 n = true)
    {e1 e2 : α → Value} {Kp : World → World → Prop} {N : Nat} {S : List α → Prop} (hseq : SeqStopsK Fence.wide 2 P gf lb (fun x => #[e1 x, e2 x]) Kp S (fun _ => True) N w)
    (hKt : ∀ {A B C : World}, Kp A B → Kp B C → Kp A C) (hKb : ∀ (W : World) (l : Nat) (o o' : Obj), w.heap.size ≤ l → W.heap[l]? = some o → o.isCells = false → o.isWalk = false → Kp W (W.putObj l o'))
    (I : List α → World → Prop) (hI : OwnFrom w.heap.size I) (h0 : I [] w) (envB : α → Nat → Env) (Bx : α → Nat → World → Prop) (hBx : ∀ x b, OwnFrom w.heap.size (fun (_ : Unit) W => Bx x b W))
    (hassign : ∀ (l : Nat) (pre : List α) (x : α) (W : World), I pre W → RC P (Exit.then (fun a' W' => ∃ b, Rep a' n (envB x b) ∧ Bx x b W' ∧ KeepsFrom w.heap.size W W' ∧ Kp W W' ∧ I pre W') (fun _ _ _ => False)) n l 1 assign ((p2, e2 x) :: (p1, e1 x) :: env) W)
    (hbody : ∀ (l : Nat) (pre : List α) (x : α) (b : Nat) (W : World), I pre W → Bx x b W → pre.length < N → RC P (ownPostG w.heap.size Kp I (fun _ _ _ => False) (pre ++ [x]) W) n l 1 body (envB x b) W)
    (hdone : ∀ (D : Nat) (xs : List α) (W : World), w.heap.size ≤ D → S xs → I xs W → W.heap[D]? = some (.deferred (some [])) → DE Q n (mk D) .normal env W) :
    WC P Q n (.rangeFunc (.tmp g) #[p1, p2] assign body) env w := fun a ha => by
  refine (wpIn_wide (n := 3)).1 (wpIn_rangeFunc_ownH rfl (by decide) (ha.eval (x := .tmp g) hg) trivial eg.run hseq hKt hKb (Below.refl _ _) (fun _ => rfl) I (fun _ _ _ => False) hI (fun _ _ _ _ _ hs _ _ => hs) h0
    (fun x a' W => ∃ b, Rep a' n (envB x b) ∧ Bx x b W) ?_ ?_ ?_ ?_ ?_)
  · rintro x a' ⟨⟩ W W' row ⟨b, hr, hb⟩ hg' hrow
    exact ⟨b, hr, hBx x b () W W' row hb hg' hrow⟩
  · intro l pre x W K hi hK
    have hR : Rep { tmps := ((#[p1, p2] : Array Tmp).zip #[e1 x, e2 x]).foldl (fun t (p, v) => t.setIfInBounds p v) a.tmps, defers := [] } n ((p2, e2 x) :: (p1, e1 x) :: env) := by
      have := ((show Rep { a with defers := [] } n env from ⟨rfl, ha.2.1, ha.2.2⟩).put h1 (e1 x)).put h2 (e2 x)
      have hz : ((#[p1, p2] : Array Tmp).zip #[e1 x, e2 x]) = #[(p1, e1 x), (p2, e2 x)] := by apply Array.ext'; simp
      rw [hz]
      simpa [Act.put] using this
    refine wpIn_mono (hassign l pre x W hi _ hR) fun e a' W' h => ?_
    cases e with
    | normal => obtain ⟨b, hr, hb, hk, hp, hi'⟩ := h; exact hK a' W' hk hp hi' ⟨b, hr, hb⟩
    | exit id => exact h.elim
    | goto l => exact h.elim
    | ret => exact h.elim
    | panic c => exact h.elim
    | outgrown => exact h.elim
  · rintro l pre x a' W _ _ hi ⟨b, hr, hb⟩ hlt
    exact hbody l pre x b W hi hb hlt a' hr
  · intro D xs W hD hS hi hdef
    have := hdone D xs W hD hS hi hdef a ha
    rw [ha.1]
    exact this
  · intro D c pre W _ _ h _
    exact h.elim
end
end Go.Sx
