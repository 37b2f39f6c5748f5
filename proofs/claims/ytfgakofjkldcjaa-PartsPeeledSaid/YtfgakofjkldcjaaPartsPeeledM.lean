/- PartsPeeled: for every input the law answers true and leaves its arguments as they were. -/
import Derived.Test.YtfgakofjkldcjaaPartsPeeledL
import Derived.OrdersHeld
import Derived.WalkKit
import Derived.Deep.AppendSrc
import Derived.Deep.MidRow
import Derived.Laws.OwnMore
import Derived.WalkSpells
import Derived.Lib.ConvBytes
import Derived.Lib.AppendZerosOnto
import Derived.Laws.StructEq
import Derived.Maps.RangeRun
import Derived.Laws.Pointers
import Derived.Test.YtfgakofjkldcjaaProg
import Derived.KernelRfl
import Derived.Lib.Mul64
import Derived.Shelf.SlIterI.Nil
import Derived.Shelf.SortM.Plain
import Derived.Shelf.SortM.SortNone
import Derived.Ground.GgzProg
import Derived.Ground.SlgmProg
import Derived.RangeFuncNested
import Derived.RangeFuncBound
import Derived.RangeFuncCalls
import Derived.RangeFuncLeaves
import Derived.OrdersIn
namespace Go.Sx
open Go Go.RowKit
section
variable {P : Program} {ops : Array Oper} {Q : Exit → Act → World → Prop} {n l m : Nat}
abbrev rF (l : Nat) : Fence := Fence.wide.inRound l
theorem rows_in {row : String} {args : Array Value} {w : World} {R : Value → World → Prop} (h : Rows P row args w R) : RowsIn (rF l) m P row args w R := fun c cs _ => by
  obtain ⟨v, w', r, s⟩ := h c cs
  exact ⟨v, w', r, stepsIn_wide.2 s⟩
theorem Oper.wp_in {o : Oper} {a : Act} {w : World} {K : Act → World → Prop} (hnd : ∀ c, o.op ≠ .defer c) (h : o.wp P a w K Q) : o.wpIn (rF l) m P a w K Q := by
  refine ⟨fun _ _ => trivial, ?_⟩
  rw [Fence.inRound_round, Oper.semAt_some l _ _ hnd]
  unfold Oper.wp at h
  generalize (execOp a.eval o).run P w = r at *
  cases r with
  | ok x w' =>
    cases x <;> simp only [Oper.upon, Oper.uponIn] at h ⊢ <;>
      first
        | exact h
        | exact ⟨fun h => (by cases h), CallsIn.inRound l (callsIn_wide.2 h)⟩
        | exact ⟨fun h => (by cases h), rows_in h⟩
  | halt x w' => cases x <;> simp only [Oper.upon, Oper.uponIn] at h ⊢ <;> exact h
def noDf (o : Oper) : Bool := match o.op with | .defer _ => false | _ => true
theorem noDf_spec {o : Oper} (h : noDf o = true) : ∀ c, o.op ≠ .defer c := fun c hc => by unfold noDf at h; rw [hc] at h; cases h
theorem wpList_in (hlo : ¬ LetsOut Q) : ∀ (rest : List Oper) (a : Act) (w : World), rest.all noDf = true → wpList P ops Q rest a w → wpListIn (rF l) m P ops Q rest a w
  | [], _, _, _, h => h
  | o :: rest, a, w, hnd, h => by
    simp only [List.all_cons, Bool.and_eq_true] at hnd
    unfold wpList at h
    unfold wpListIn
    split
    · rename_i hw
      rw [if_pos hw] at h
      rcases h with h | ⟨_, h⟩
      · exact Oper.wp_in (noDf_spec hnd.1) (Oper.wp_mono (fun a' w' h' => wpList_in hlo rest a' w' hnd.2 h') h)
      · exact absurd h hlo
    · rename_i hw
      rw [if_neg hw] at h
      exact ⟨fun _ _ => trivial, wpList_in hlo rest _ _ hnd.2 h⟩
theorem wpOp_in (hlo : ¬ LetsOut Q) (hnd : ops.toList.all noDf = true) {i : Nat} {K : Act → World → Prop} {a : Act} {w : World} (h : wpOp P ops Q i K a w) : wpOpIn (rF l) m P ops Q i K a w := by
  unfold wpOp at h
  unfold wpOpIn
  split
  · rename_i ho; simpa [ho] using h
  · rename_i o ho
    simp only [ho] at h
    have hno : noDf o = true := by
      rw [List.all_eq_true] at hnd
      exact hnd o (by rw [Array.mem_toList_iff]; exact Array.mem_of_getElem? ho)
    split
    · rename_i hw
      rw [if_pos hw] at h
      rcases h with h | ⟨_, h⟩
      · exact Oper.wp_in (noDf_spec hno) h
      · exact absurd h hlo
    · rename_i hw
      rw [if_neg hw] at h
      exact ⟨fun _ _ => trivial, h⟩
theorem wpAny_in (hlo : ¬ LetsOut Q) (hnd : ops.toList.all noDf = true) : ∀ (fuel : Nat) (listed : Array Bool) (a : Act) (w : World), wpAny P .any ops Q fuel listed a w → wpAnyIn (rF l) m P .any ops Q fuel listed a w
  | 0, _, _, _, h => h
  | fuel + 1, _, _, _, h => ⟨h.1, fun i hi => wpOpIn_mono (fun a' w' h' => wpAny_in hlo hnd fuel _ a' w' h') (wpOp_in hlo hnd (h.2 i hi))⟩
def RC (P : Program) (Q : Exit → Act → World → Prop) (n l m : Nat) (c : Code) (env : Env) (w : World) : Prop := ∀ a, Rep a n env → c.wpIn (rF l) m P Q a w
theorem RC.seq {env : Env} {w : World} {x y : Code} (h : RC P (Exit.then (y.wpIn (rF l) m P Q) Q) n l m x env w) : RC P Q n l m (.seq x y) env w := fun a ha => wpIn_seq (h a ha)
theorem RC.thenN {env : Env} {w : World} {y : Code} {Q Q' : Exit → Act → World → Prop} (h : RC P Q n l m y env w) : E (Exit.then (y.wpIn (rF l) m P Q) Q') n .normal env w := h
theorem RC.region {env : Env} {w : World} {id : Nat} {L : List Oper} (hnd : L.all noDf = true) (hlo : ¬ LetsOut Q) (h : W P L.toArray Q n L env w) : RC P Q n l m (.region id L.toArray false) env w := fun a ha => wpIn_region_lit (wpList_in hlo L a w hnd (h a ha))
theorem RC.draw {env : Env} {w : World} {id : Nat} (plan : List Nat) (hm : P.follows .mixedOrders = true) (hp : planOK ops plan = true) (hnd : ops.toList.all noDf = true)
    (h : ∀ w', Le w w' → G P ops Q n plan env w') : RC P Q n l m (.region id ops true) env w := fun a ha => by
  simp only [planOK, Bool.and_eq_true, beq_iff_eq] at hp
  obtain ⟨⟨hl, hs⟩, hp⟩ := hp
  have := plan_main hs plan _ a _ (Cl.none _) hp (h _ (Le.drew w) a ha)
  rw [hl] at this
  refine wpIn_mono (wpIn_region_any hm (wpAny_in (fun ⟨_, _, hf⟩ => by cases hf.1) hnd _ _ _ _ (wpAny_of_C _ _ _ _ this))) ?_
  rintro e a w ⟨rfl, hq⟩
  exact hq
theorem RC.block {env : Env} {w : World} {id : Nat} {c : Code} (h : RC P (Exit.inBlock id Q) n l m c env w) : RC P Q n l m (.block id c) env w := fun a ha => wpIn_block (h a ha)
theorem RC.skip {env : Env} {w : World} (h : E Q n .normal env w) : RC P Q n l m .skip env w := fun a ha => wpIn_skip (h a ha)
theorem RC.condB {env : Env} {w : World} {c : Operand} {x y : Code} {b : Bool} (hc : ev env c = some (.bool b)) (ht : b = true → RC P Q n l m x env w) (hf : b = false → RC P Q n l m y env w) :
    RC P Q n l m (.cond c x y) env w := fun a ha => wpIn_cond_split (ha.eval hc) (fun h => ht h a ha) (fun h => hf h a ha)
theorem RC.cond {env : Env} {w : World} {c : Operand} {x y : Code} {p : Prop} [Decidable p] (hc : ev env c = some (.bool (decide p))) (ht : p → RC P Q n l m x env w) (hf : ¬ p → RC P Q n l m y env w) :
    RC P Q n l m (.cond c x y) env w := .condB hc (fun h => ht (of_decide_eq_true h)) (fun h => hf (of_decide_eq_false h))
theorem enterM {f : FuncId} {fn : Func} {c : Code} {args : List Value} {w : World} {R : Ending → World → Prop} (hf : P.funcs[f]? = some fn) (hb : fn.body = some c) (hl : Nat.ble args.length fn.ntmps = true)
    (h : WC P (bodyPostM Fence.wide 3 P fn R) fn.ntmps c (envOfArgs 0 args) w) : Calls P f args.toArray w R := by
  have hl' : args.length ≤ fn.ntmps := Nat.le_of_ble_eq_true hl
  refine (callsIn_wide (n := 3)).1 (callsIn_of_wp_marks hf hb trivial (wpIn_wide.2 (h _ ⟨rfl, ?_, fun i v hv => ?_⟩)))
  · simp; omega
  · obtain ⟨_, h2⟩ := look_envOfArgs args 0 i v hv
    simp only [Nat.sub_zero] at h2
    rw [Array.getElem?_append_left (by simpa using (List.getElem?_eq_some_iff.1 h2).1)]
    simpa using h2
theorem E.retM2 {fn : Func} {R : Ending → World → Prop} {env : Env} {w : World} {t u : Nat} {v x : Value} (hr : fn.results = #[.tmp t, .tmp u]) (hv : look env t = some v) (hx : look env u = some x) (h : R (.returned (.tuple #[v, x])) w) :
    E (bodyPostM Fence.wide 3 P fn R) n .ret env w := fun a ha => by
  show LeavesInM Fence.wide 3 P fn a.tmps R a.defers .returning w
  rw [ha.1]
  exact ⟨_, by rw [results_tmp2 hr]; simp [ha.2.2 t v hv, ha.2.2 u x hx], h⟩
def DE (Q : Exit → Act → World → Prop) (n : Nat) (ds : List Deferred) (ex : Exit) (env : Env) (w : World) : Prop := ∀ a, Rep a n env → Q ex { a with defers := ds } w
/-- Behind a range: one mark among the deferred calls. -/
def mk (D : Nat) : List Deferred := [{ target := .collected D, args := #[] }]
theorem retM_mark {fn : Func} {R : Ending → World → Prop} {env : Env} {w : World} {t u D : Nat} {v x : Value} (hr : fn.results = #[.tmp t, .tmp u]) (hv : look env t = some v) (hx : look env u = some x) (hD : w.heap[D]? = some (.deferred (some [])))
    (h : R (.returned (.tuple #[v, x])) (w.putObj D (.deferred none))) : DE (bodyPostM Fence.wide 3 P fn R) n (mk D) .ret env w := fun _ ha =>
  ⟨by simp, .inl ⟨D, _, rfl, run_takeDeferred hD, _, by rw [results_tmp2 hr]; simp [ha.2.2 t v hv, ha.2.2 u x hx], h⟩⟩
theorem put_defers (a : Act) (ds : List Deferred) (d : Option Tmp) (v : Value) : ({ a with defers := ds } : Act).put d v = { a.put d v with defers := ds } := by cases d <;> rfl
theorem wp_defers {o : Oper} {a : Act} {w : World} {K : Value → World → Prop} {ds : List Deferred} (h : o.wp P a w (fun a' w' => ∃ v, a' = a.put o.dst v ∧ K v w') noQ) :
    o.wp P { a with defers := ds } w (fun a' w' => ∃ v, a' = { a.put o.dst v with defers := ds } ∧ K v w') noQ := by
  unfold Oper.wp at *
  have e : (execOp ({ a with defers := ds } : Act).eval o).run P w = (execOp a.eval o).run P w := rfl
  rw [e]
  have pd : ∀ (b : Act) (d : Option Tmp) (v : Value), (b.put d v).defers = b.defers := fun b d v => by cases d <;> rfl
  have inj : ∀ v v', a.put o.dst v = a.put o.dst v' → ({ a.put o.dst v with defers := ds } : Act) = { a.put o.dst v' with defers := ds } := fun v v' h => by rw [h]
  generalize (execOp a.eval o).run P w = r at *
  cases r with
  | ok x w' =>
    cases x <;> simp only [Oper.upon] at h ⊢ <;> try exact h
    case value v => obtain ⟨v', h1, h2⟩ := h; exact ⟨v', by rw [put_defers]; exact inj _ _ h1, h2⟩
    case skip => obtain ⟨v', h1, h2⟩ := h; exact ⟨v', by rw [put_defers]; exact inj _ _ h1, h2⟩
    case defer d =>
      obtain ⟨v, h1, _⟩ := h
      have h2 := congrArg (fun b : Act => b.defers.length) h1
      simp only [pd, List.length_cons] at h2
      omega
    case enter f args =>
      refine Calls.mono h fun e w'' he => ?_
      cases e with
      | returned v => obtain ⟨v', h1, h2⟩ := he; exact ⟨v', by rw [put_defers]; exact inj _ _ h1, h2⟩
      | panicked c => exact he.elim
      | outgrown => obtain ⟨_, _, hf⟩ := he; exact hf.elim
    case row row args =>
      refine Rows.mono h fun v w'' he => ?_
      obtain ⟨v', h1, h2⟩ := he
      exact ⟨v', by rw [put_defers]; exact inj _ _ h1, h2⟩
  | halt x w' => cases x <;> simp only [Oper.upon] at h ⊢ <;> exact h.elim
theorem DE.blkN {ds : List Deferred} {env : Env} {w : World} {id : Nat} (h : DE Q n ds .normal env w) : DE (Exit.inBlock id Q) n ds .normal env w := h
/-- A drawn region behind a range. -/
def GD (P : Program) (ops : Array Oper) (Q : Exit → Act → World → Prop) (n : Nat) (ds : List Deferred) (plan : List Nat) (env : Env) (w : World) : Prop := ∀ a, Rep a n env → wpG P ops Q plan { a with defers := ds } w
theorem GD.nil {ds : List Deferred} {env : Env} {w : World} (h : DE Q n ds .normal env w) : GD P ops Q n ds [] env w := h
theorem GD.any {ds : List Deferred} {env : Env} {w : World} {i : Nat} {o : Oper} {plan : List Nat} {v : Value} {d : Nat} (ho : ops[i]? = some o) (hk : kd o.op = 0) (hr : Any P env n o v) (hg : o.guard = none) (hd : o.dst = some d)
    (hn : Nat.blt d n = true) (h : GD P ops Q n ds plan ((d, v) :: env) w) : GD P ops Q n ds (i :: plan) env w := fun a ha =>
  ⟨o, ho, by
    rw [if_neg (by rw [hk]; decide)]
    refine ⟨v, .inl ⟨by unfold Region.wanted; rw [hg], fun w' _ => hr a ha w'⟩, ?_⟩
    rw [put_defers, hd]
    exact h _ (ha.put hn v)⟩
theorem GD.rd {ds : List Deferred} {env : Env} {w : World} {i : Nat} {o : Oper} {plan : List Nat} {v : Value} {d : Nat} (ho : ops[i]? = some o) (hk : kd o.op = 1) (hr : Rd P w env n o v) (hg : o.guard = none) (hd : o.dst = some d)
    (hn : Nat.blt d n = true) (h : GD P ops Q n ds plan ((d, v) :: env) w) : GD P ops Q n ds (i :: plan) env w := fun a ha =>
  ⟨o, ho, by
    rw [if_neg (by rw [hk]; decide)]
    refine ⟨v, .inl ⟨by unfold Region.wanted; rw [hg], fun w' hw => hr a ha w' (hw hk)⟩, ?_⟩
    rw [put_defers, hd]
    exact h _ (ha.put hn v)⟩
theorem GD.ef {ds : List Deferred} {env : Env} {w : World} {i : Nat} {o : Oper} {plan : List Nat} {d : Nat} (ho : ops[i]? = some o) (hk : kd o.op = 2) (hg : o.guard = none) (hd : o.dst = some d) (hn : Nat.blt d n = true)
    (h : Ef P env n o w fun v w' => ((nS ops i || plan.any (nS ops)) = true → Le w w') ∧ GD P ops Q n ds plan ((d, v) :: env) w') : GD P ops Q n ds (i :: plan) env w := fun a ha =>
  ⟨o, ho, by
    rw [if_pos hk]
    unfold wpOp
    simp only [ho]
    rw [if_pos (by unfold Region.wanted; rw [hg])]
    left
    exact Oper.wp_mono (fun a' w' ⟨v, h1, h2, h3⟩ => ⟨h2, by subst h1; rw [hd]; exact h3 _ (ha.put hn v)⟩) (wp_defers (h a ha))⟩
/-- Code behind a range. -/
def DC (P : Program) (Q : Exit → Act → World → Prop) (n : Nat) (ds : List Deferred) (c : Code) (env : Env) (w : World) : Prop := ∀ a, Rep a n env → c.wp P Q { a with defers := ds } w
theorem DC.draw {ds : List Deferred} {env : Env} {w : World} {id : Nat} (plan : List Nat) (hm : P.follows .mixedOrders = true) (hp : planOK ops plan = true)
    (h : ∀ w', Le w w' → GD P ops Q n ds plan env w') : DC P Q n ds (.region id ops true) env w := fun a ha => wp_draw plan hm hp (h _ (Le.drew w) a ha)
theorem DC.seq {ds : List Deferred} {env : Env} {w : World} {x y : Code} (h : DC P (Exit.then (y.wp P Q) Q) n ds x env w) : DC P Q n ds (.seq x y) env w := fun a ha => wp_seq (h a ha)
theorem DE.thenN {ds : List Deferred} {env : Env} {w : World} {y : Code} {Q Q' : Exit → Act → World → Prop} (h : DC P Q n ds y env w) : DE (Exit.then (y.wp P Q) Q') n ds .normal env w := h
theorem DC.ret {ds : List Deferred} {env : Env} {w : World} (h : DE Q n ds .ret env w) : DC P Q n ds .ret env w := fun a ha => wp_ret (h a ha)
theorem KeepsFrom.of_le {B : Nat} {w w' : World} (h : Le w w') : KeepsFrom B w w' := ⟨h.size, fun k o _ hk _ => by
  have hlt := (Array.getElem?_eq_some_iff.1 hk).1
  exact (h.ch none).block k hlt (by simp) |>.trans hk⟩
theorem KeepsFrom.of_ch {B g : Nat} {t : TypeId} {cs : Array Value} {w w' : World} (h : Ch w w' (some g)) (hB : Blk w g t cs) : KeepsFrom B w w' := ⟨h.size, fun k o _ hk ho => by
  have hlt := (Array.getElem?_eq_some_iff.1 hk).1
  refine (h.block k hlt ?_).trans hk
  intro he
  injection he with he
  subst he
  have : w.heap[k]? = _ := hB
  rw [this] at hk
  injection hk with hk
  subst hk
  cases ho⟩
/-- Changes of what is no cells. -/
theorem row_ne {w : World} {row : Option Nat} (hr : ∀ r, row = some r → ∃ o : Obj, w.heap[r]? = some o ∧ o.isCells = false) {g : Nat} {t : TypeId} {cs : Array Value} (hB : Blk w g t cs) : row ≠ some g := fun he => by
  obtain ⟨o, ho, hc⟩ := hr g he
  have : w.heap[g]? = _ := hB
  rw [this] at ho
  injection ho with ho
  subst ho
  cases hc
theorem Blk.grown {w w' : World} {row : Option Nat} {g : Nat} {t : TypeId} {cs : Array Value} (h : Blk w g t cs) (hg : w.grownBy w' row) (hr : ∀ r, row = some r → ∃ o : Obj, w.heap[r]? = some o ∧ o.isCells = false) : Blk w' g t cs := h.ch hg (row_ne hr h)
theorem Own.grown {w w' : World} {row : Option Nat} {base e s : Nat} {A : Option Addr} {k c : Nat} {xs : List Value} (h : Own w base e s A k c xs) (hk : 0 < k) (hg : w.grownBy w' row) (hr : ∀ r, row = some r → ∃ o : Obj, w.heap[r]? = some o ∧ o.isCells = false) : Own w' base e s A k c xs :=
  h.ch hg fun g hgr he => by
    obtain ⟨g', rfl, _, _, hrow⟩ := h.lit hk
    obtain ⟨cur, hB, _⟩ := h.block hk
    rw [hrow] at he
    injection he with he
    subst he
    exact row_ne hr hB hgr
def WI (P : Program) (ops : Array Oper) (Q : Exit → Act → World → Prop) (n : Nat) (rest : List Oper) (env : Env) (w : World) : Prop := ∀ a, Rep a n env → wpListIn Fence.wide 2 P ops Q rest a w
theorem WC.regionI {env : Env} {w : World} {id : Nat} {L : List Oper} (h : WI P L.toArray Q n L env w) : WC P Q n (.region id L.toArray false) env w := fun a ha => wpIn_wide.1 (wpIn_region_lit (h a ha))
theorem WI.nil {env : Env} {w : World} (h : E Q n .normal env w) : WI P ops Q n [] env w := fun a ha => h a ha
theorem WI.rd {env : Env} {w : World} {o : Oper} {rest : List Oper} {v : Value} {d : Nat} (hr : Rd P w env n o v) (hg : o.guard = none) (hd : o.dst = some d) (hn : Nat.blt d n = true) (_hnd : noDf o = true)
    (h : WI P ops Q n rest ((d, v) :: env) w) : WI P ops Q n (o :: rest) env w := fun a ha =>
  wpListIn_plain hg fun K hK => by
    refine ⟨fun _ _ => trivial, ?_⟩
    show o.uponIn Fence.wide 2 P a K Q ((o.semAt none a.eval).run P w)
    rw [Oper.semAt_none, hr a ha w (Le.refl w), Oper.uponIn_value, hd]
    exact hK _ _ (h _ (ha.put hn v))
theorem WI.any {env : Env} {w : World} {o : Oper} {rest : List Oper} {v : Value} {d : Nat} (hr : Any P env n o v) (hg : o.guard = none) (hd : o.dst = some d) (hn : Nat.blt d n = true) (hnd : noDf o = true)
    (h : WI P ops Q n rest ((d, v) :: env) w) : WI P ops Q n (o :: rest) env w := WI.rd (hr.rd w) hg hd hn hnd h
theorem WI.yield {env : Env} {w : World} {rest : List Oper} {d l : Nat} {f : Operand} {args : Array Operand} {ats : Array TypeId} {T : TypeId} {p : String} {af : Array Edge} {vs : List Value} {R : Ending → World → Prop}
    (hf : ev env f = some (.func (.yield l) #[] #[])) (ha : evs env args.toList = some vs) (hn : Nat.blt d n = true) (hy : YieldAt Fence.wide 1 P l vs.toArray w R)
    (h : ∀ e w', R e w' → ∃ v, e = .returned v ∧ WI P ops Q n rest ((d, v) :: env) w') : WI P ops Q n (⟨some d, .call ⟨.value f, args, ats⟩, T, p, af, none⟩ :: rest) env w := fun a hr =>
  wpListIn_plain rfl fun K hK => by
    refine ⟨fun _ _ => trivial, ?_⟩
    obtain ⟨fn, tmps, assign, body, hrun, hR⟩ := hy
    have hargs : args.map a.eval = vs.toArray := by rw [← hr.evals ha]; apply Array.ext'; simp
    have e : ((⟨some d, .call ⟨.value f, args, ats⟩, T, p, af, none⟩ : Oper).semAt none a.eval).run P w = .ok (.round l fn tmps assign body) w := by
      rw [Oper.semAt_none]
      simp [execOp, resolve, Deferred.ofValue, hr.eval hf, invoke, hargs, hrun]
    show Oper.uponIn Fence.wide 2 P _ a K Q _
    rw [show (Fence.wide).round = none from rfl, e, Oper.uponIn_round]
    refine ⟨fun h => (by cases h), hR.mono fun e w' he => ?_⟩
    obtain ⟨v, rfl, hw⟩ := h e w' he
    exact hK _ _ (hw _ (hr.put hn v))
/-- The range itself, over two variables, in a body that never leaves. -/
theorem WC.range {α : Type} {env : Env} {w : World} {g p1 p2 : Nat} {assign body : Code} {gf : Nat} {lb : Array Value} (hg : look env g = some (.func (.func gf) #[] lb)) (eg : IsGo P gf) (h1 : Nat.blt p1 n = true) (h2 : Nat.blt p2 n = true)
    {e1 e2 : α → Value} {Kp : World → World → Prop} {N : Nat} {S : List α → Prop} (hseq : SeqStopsK Fence.wide 2 P gf lb (fun x => #[e1 x, e2 x]) Kp S (fun _ => True) N w)
    (hKt : ∀ {A B C : World}, Kp A B → Kp B C → Kp A C) (hKb : ∀ (W : World) (l : Nat) (o o' : Obj), w.heap.size ≤ l → W.heap[l]? = some o → o.isCells = false → o.isWalk = false → Kp W (W.putObj l o'))
    (I : List α → World → Prop) (hI : OwnFrom w.heap.size I) (h0 : I [] w) (envB : α → Nat → Env) (Bx : α → Nat → World → Prop) (hBx : ∀ x b, OwnFrom w.heap.size (fun (_ : Unit) W => Bx x b W))
    (hassign : ∀ (l : Nat) (pre : List α) (x : α) (W : World), I pre W → RC P (Exit.then (fun a' W' => ∃ b, Rep a' n (envB x b) ∧ Bx x b W' ∧ KeepsFrom w.heap.size W W' ∧ Kp W W' ∧ I pre W') (fun _ _ _ => False)) n l 1 assign ((p2, e2 x) :: (p1, e1 x) :: env) W)
    (hbody : ∀ (l : Nat) (pre : List α) (x : α) (b : Nat) (W : World), I pre W → Bx x b W → pre.length < N → RC P (ownPostG w.heap.size Kp I (fun _ _ _ => False) (pre ++ [x]) W) n l 1 body (envB x b) W)
    (hdone : ∀ (D : Nat) (xs : List α) (W : World), w.heap.size ≤ D → S xs → I xs W → W.heap[D]? = some (.deferred (some [])) → DE Q n (mk D) .normal env W) :
    WC P Q n (.rangeFunc (.tmp g) #[p1, p2] assign body) env w := fun a ha => by
  refine (wpIn_wide (n := 3)).1 (wpIn_rangeFunc_ownH rfl (by decide) (ha.eval (x := .tmp g) hg) trivial eg.run hseq hKt hKb (Below.refl _ _) (fun _ => rfl) I (fun _ _ _ => False) hI (fun _ _ _ _ _ hs _ _ => hs) h0
    (fun x a' W => ∃ b, Rep a' n (envB x b) ∧ Bx x b W) ?_ ?_ ?_ ?_ ?_)
  · rintro x a' ⟨⟩ W W' row ⟨b, hr, hb⟩ hg' hrow
    exact ⟨b, hr, hBx x b () W W' row hb hg' hrow⟩
  · intro l pre x W K hi hK
    have hR : Rep { tmps := ((#[p1, p2] : Array Tmp).zip #[e1 x, e2 x]).foldl (fun t (p, v) => t.setIfInBounds p v) a.tmps, defers := [] } n ((p2, e2 x) :: (p1, e1 x) :: env) := by
      have := ((show Rep { a with defers := [] } n env from ⟨rfl, ha.2.1, ha.2.2⟩).put h1 (e1 x)).put h2 (e2 x)
      have hz : ((#[p1, p2] : Array Tmp).zip #[e1 x, e2 x]) = #[(p1, e1 x), (p2, e2 x)] := by apply Array.ext'; simp
      rw [hz]
      simpa [Act.put] using this
    refine wpIn_mono (hassign l pre x W hi _ hR) fun e a' W' h => ?_
    cases e with
    | normal => obtain ⟨b, hr, hb, hk, hp, hi'⟩ := h; exact hK a' W' hk hp hi' ⟨b, hr, hb⟩
    | exit id => exact h.elim
    | goto l => exact h.elim
    | ret => exact h.elim
    | panic c => exact h.elim
    | outgrown => exact h.elim
  · rintro l pre x a' W _ _ hi ⟨b, hr, hb⟩ hlt
    exact hbody l pre x b W hi hb hlt a' hr
  · intro D xs W hD hS hi hdef
    have := hdone D xs W hD hS hi hdef a ha
    rw [ha.1]
    exact this
  · intro D c pre W _ _ h _
    exact h.elim
end
end Go.Sx

namespace Go.Proofs.Ytfgakofjkldcjaa
open Go Go.Sx Go.Hsp Go.Num Go.Osp
set_option maxRecDepth 20000
set_option linter.unusedVariables false
set_option linter.unusedSimpArgs false
theorem getst (l : List Stop) {k : Nat} (h : k < l.length) : l[k]? = some (l.getD k (0, [])) := by simp [h, List.getD]
theorem geth (l : List Hop) {k : Nat} (h : k < l.length) : l[k]? = some (l.getD k noHop) := by simp [h, List.getD]
theorem hopRows_at (hs : List Hop) (k : Nat) (h : k < hs.length) : (hs.map hopV)[k]? = some (hopV (hs.getD k noHop)) := by simp [h, List.getD]
/-- What the iterator reads stays. -/
def Kp2 (gb gs : Nat) (W W' : World) : Prop := W.heap[gb]? = W'.heap[gb]? ∧ W.heap[gs]? = W'.heap[gs]?
theorem rws_blk {W : World} {gs n : Nat} {t : TypeId} {cur : Array Value} {l : List Stop} (h : Blk W gs t cur) (hl : l.length = n) (hsum : ∀ s ∈ l, s.2.length = 32) (hc : cur.toList.take (n * 33) = (stopRows l).flatten) : Rws W 33 (some ⟨gs, 0, none⟩) n (stopRows l) := by
  refine ⟨by simp [stopRows, hl], stopRows_len l hsum, ?_⟩
  rw [← hc]
  have hlen : (cur.toList.take (n * 33)).length = n * 33 := by rw [hc, flat_length _ (stopRows_len l hsum)]; simp [stopRows, hl]
  refine ⟨hlen, fun j u hu => ⟨_, rfl, ?_⟩⟩
  have hj : cur.toList[j]? = some u := by
    rw [List.getElem?_take] at hu
    split at hu
    · exact hu
    · cases hu
  have := h.cell (i := j)
  rw [add_lit, Nat.zero_add, this]
  simpa using hj
def finL (n j : Nat) (h : j ≤ n) : List (Fin n) := (List.range j).attach.map fun i => ⟨n - 1 - i.1, by have := List.mem_range.1 i.2; omega⟩
theorem finL_val (n j : Nat) (h : j ≤ n) : (finL n j h).map Fin.val = downs n j := by
  simp only [finL, downs, List.map_map]
  apply List.ext_getElem (by simp)
  intro i h1 h2
  simp
theorem finL_length (n j : Nat) (h : j ≤ n) : (finL n j h).length = j := by simp [finL]
theorem finL_succ (n j : Nat) (h : j + 1 ≤ n) : finL n (j + 1) h = finL n j (by omega) ++ [⟨n - 1 - j, by omega⟩] := by
  have inj : ∀ {a b : List (Fin n)}, a.map Fin.val = b.map Fin.val → a = b := fun {a b} h => List.map_inj_right (f := Fin.val) (fun x y hxy => Fin.ext hxy) |>.1 h
  apply inj
  rw [finL_val, List.map_append, finL_val, downs_succ]
  rfl
theorem backward_ok (v : Value) (hv : v.cells = #[v]) (w : World) : Calls Try.prog 108 #[v] w fun e w' => ∃ g, e = .returned (.func (.func 146) #[] #[.pointer (some ⟨g, 0, none⟩)]) ∧ w.heap.size ≤ g ∧ Blk w' g 169 #[v] ∧ Le w w' := by
  refine enter Try.func108 rfl rfl ?_
  have L0 := Le.refl w
  refine WC.seq ?_
  refine WC.region ?_
  refine W.ef rfl rfl rfl ?_
  refine Ef.box rfl ?_
  intro g0_0 w0_0 hg0_0 b0_0 h0_0
  have L0_0 := L0.trans h0_0
  refine W.any (.assign rfl) rfl rfl rfl ?_
  refine W.nil ?_
  refine E.thenN ?_
  refine WC.seq ?_
  refine WC.region ?_
  refine W.any (.makeFunc rfl) rfl rfl rfl ?_
  refine W.any (.assign rfl) rfl rfl rfl ?_
  refine W.nil ?_
  refine E.thenN ?_
  refine WC.ret ?_
  refine E.ret1 rfl rfl ?_
  exact ⟨g0_0, rfl, hg0_0, by rw [hv] at b0_0; exact b0_0, L0_0⟩

theorem back_in {n gb gs cs lp : Nat} {cur : Array Value} {l : List Stop} (hl : l.length = n) (hn : n ≤ 1000) (hsum : ∀ s ∈ l, s.2.length = 32) (hc : cur.toList.take (n * 33) = (stopRows l).flatten) (J Jx : List (Fin n) → World → Prop)
    (hY : ∀ pre x W1, J pre W1 → pre.length < n → YieldAt Fence.wide 1 Try.prog lp #[.int .i64 ((x.val : Nat) : Int), .agg (stopV (l.getD x.val (0, []))).toArray] W1 fun e W' => (e = .returned (.bool true) ∧ J (pre ++ [x]) W' ∧ Kp2 gb gs W1 W') ∨ (e = .returned (.bool false) ∧ Jx (pre ++ [x]) W'))
    (w : World) (hB : Blk w gb 169 #[.slice (some ⟨gs, 0, none⟩) n cs]) (hS : Blk w gs 179 cur) (h0 : J [] w) : Calls Try.prog 146 #[.func (.yield lp) #[] #[], .pointer (some ⟨gb, 0, none⟩)] w (fun e W' => (∃ v, e = .returned v) ∧ ((∃ xs, xs = finL n n (Nat.le_refl n) ∧ J xs W') ∨ (∃ pre, True ∧ Jx pre W'))) := by
  refine enter Try.func146 rfl rfl ?_
  have L0 := Le.refl w
  refine WC.seq ?_
  refine WC.region ?_
  refine W.rd (.loadB na169 rfl (hB) (rfl)) rfl rfl rfl ?_
  refine W.rd (.len Try.underlying169 rfl) rfl rfl rfl ?_
  refine W.any (.sub rfl rfl (by omega)) rfl rfl rfl ?_
  refine W.any (.assign rfl) rfl rfl rfl ?_
  refine W.nil ?_
  refine E.thenN ?_
  refine WC.block ?_
  refine WC.loop (ι := Nat) (fun k => [(0, .func (.yield lp) #[] #[]), (1, .pointer (some ⟨gb, 0, none⟩)), (3, .int .i64 ((n : Int) - 1 - (k : Int)))]) (fun k wl => ∃ hk : k ≤ n, J (finL n k hk) wl ∧ Kp2 gb gs w wl) (fun k => n - k) 0 ?_ ?_ ?_
  · exact .cons rfl (.cons rfl (.cons' rfl (int_eq (by omega)) (.nil _)))
  · exact ⟨Nat.zero_le _, h0, rfl, rfl⟩
  · rintro k wl ⟨hk, hJ, hkp⟩
    have hB := hkp.1.symm.trans hB
    have hS := hkp.2.symm.trans hS
    refine WC.seq ?_
    refine WC.seq ?_
    refine WC.region ?_
    refine W.any (.move rfl) rfl rfl rfl ?_
    refine W.any (.geq rfl rfl) rfl rfl rfl ?_
    refine W.nil ?_
    refine E.thenN ?_
    refine WC.cond rfl (fun c0 => ?_) (fun c0 => ?_)
    · have hk1 : k + 1 ≤ n := by omega
      have hi : (n : Int) - 1 - (k : Int) = ((n - 1 - k : Nat) : Int) := by omega
      refine WC.skip ?_
      refine E.thenN ?_
      refine WC.seq ?_
      refine WC.block ?_
      refine WC.seq ?_
      refine WC.regionI ?_
      refine WI.any (.move rfl) rfl rfl rfl rfl ?_
      refine WI.any (.move rfl) rfl rfl rfl rfl ?_
      refine WI.rd (.loadB na169 rfl (hB) (rfl)) rfl rfl rfl rfl ?_
      refine WI.any (.move rfl) rfl rfl rfl rfl ?_
      refine WI.any (.idxS (n - 1 - k) Try.underlying169 sz179 rfl rfl (rfl) (hi) (by omega)) rfl rfl rfl rfl ?_
      refine WI.rd (.loadR ag179 rfl (rws_blk hS hl hsum hc) (stopRows_at l (n - 1 - k) _ (getst l (by omega))) (by decide)) rfl rfl rfl rfl ?_
      refine WI.yield rfl rfl rfl (by rw [hi]; exact hY (finL n k hk) ⟨n - 1 - k, by omega⟩ _ hJ (by rw [finL_length]; omega)) ?_
      rintro _ w3_6 (⟨rfl, hJ', hk'⟩ | ⟨rfl, hJx'⟩)
      · refine ⟨_, rfl, ?_⟩
        refine WI.any (.not rfl) rfl rfl rfl rfl ?_
        refine WI.nil ?_
        refine E.thenN ?_
        refine WC.condF rfl ?_
        refine WC.skip ?_
        refine E.blkN ?_
        refine E.thenN ?_
        refine WC.region ?_
        refine W.any (.move rfl) rfl rfl rfl ?_
        refine W.any (.sub rfl rfl (by omega)) rfl rfl rfl ?_
        refine W.any (.assign rfl) rfl rfl rfl ?_
        refine W.nil ?_
        refine E.again (k + 1) (.cons rfl (.cons rfl (.cons' rfl (int_eq (by omega)) (.nil _)))) ?_ ?_
        · exact ⟨hk1, by rw [finL_succ]; exact hJ', hkp.1.trans hk'.1, hkp.2.trans hk'.2⟩
        · first | omega | (simp only []; omega)
      · refine ⟨_, rfl, ?_⟩
        refine WI.any (.not rfl) rfl rfl rfl rfl ?_
        refine WI.nil ?_
        refine E.thenN ?_
        refine WC.condT rfl ?_
        refine WC.ret ?_
        refine E.blkR ?_
        refine E.thenR ?_
        refine E.thenR ?_
        refine E.blkR ?_
        refine E.ret0 rfl ?_
        exact ⟨⟨_, rfl⟩, .inr ⟨_, trivial, hJx'⟩⟩
    · have hkn : n = k := by omega
      subst hkn
      refine WC.exit ?_
      refine E.thenX ?_
      refine E.thenX ?_
      refine E.blkH ?_
      refine E.end_ ?_
      refine E.ret0 rfl ?_
      exact ⟨⟨_, rfl⟩, .inl ⟨_, rfl, hJ⟩⟩

theorem back_seq {n gb gs cs : Nat} {cur : Array Value} {l : List Stop} (hl : l.length = n) (hn : n ≤ 1000) (hsum : ∀ s ∈ l, s.2.length = 32) (hc : cur.toList.take (n * 33) = (stopRows l).flatten) (w : World) (hB : Blk w gb 169 #[.slice (some ⟨gs, 0, none⟩) n cs]) (hS : Blk w gs 179 cur) :
    SeqStopsK (α := Fin n) Fence.wide 2 Try.prog 146 #[.pointer (some ⟨gb, 0, none⟩)] (fun x => #[.int .i64 ((x.val : Nat) : Int), .agg (stopV (l.getD x.val (0, []))).toArray]) (Kp2 gb gs) (fun xs => xs = finL n n (Nat.le_refl n)) (fun _ => True) n w :=
  fun lp J Jx W hW _ _ hY h0 => callsIn_wide.2 (back_in hl hn hsum hc J Jx hY W (hB.le hW) (hS.le hW) h0)

theorem hopsOk_no (ks : List Nat) (hs : List Hop) (k : Nat) (hk : k < hs.length) (h : (mayB (hs.getD k noHop) && decide (decide ((hs.getD k noHop).1 < 0) = decide (k + 1 = hs.length))) = false) : hopsOk ks hs = false := by
  rw [hopsOk, Bool.and_eq_false_iff]
  right
  rw [← Bool.not_eq_true, List.all_eq_true]
  intro ha
  have := ha k (List.mem_range.2 hk)
  rw [show (hs.getD k (0, 0, 0, 0, 0, 0)) = hs.getD k noHop from rfl, h] at this
  cases this
theorem hopsOk_yes (ks : List Nat) (hs : List Hop) (hl : hs.length = ks.length) (h : ∀ i, i < hs.length → (mayB (hs.getD i noHop) && decide (decide ((hs.getD i noHop).1 < 0) = decide (i + 1 = hs.length))) = true) : hopsOk ks hs = true := by
  rw [hopsOk, decide_eq_true hl, Bool.true_and, List.all_eq_true]
  exact fun i hi => h i (List.mem_range.1 hi)
theorem hopsOk_len (ks : List Nat) (hs : List Hop) (hl : ¬ hs.length = ks.length) : hopsOk ks hs = false := by rw [hopsOk, decide_eq_false hl, Bool.false_and]
theorem ptr_eq {A B : Option Addr} {n c : Nat} (h : A = B) : Value.slice A n c = Value.slice B n c := by rw [h]
theorem cut_lit (gr cr lo : Nat) (hlo : lo ≤ 640) (hcr : 640 ≤ cr) : ∃ o, cutA (some ⟨gr, 0, none⟩) cr lo 1 = some ⟨gr, o, none⟩ ∧ (o = lo ∨ (o = 0 ∧ lo = 640)) := by
  unfold cutA
  split
  · exact ⟨0, rfl, .inr ⟨rfl, by omega⟩⟩
  · exact ⟨lo, by simp [add_lit], .inl rfl⟩
theorem put_row (cur : Array Value) (cr o : Nat) (r f : List Byte) (hs : cur.size = cr * 1) (hr : r.length = 640) (hcr : 640 ≤ cr) (hc : cur.toList.take (640 * 1) = r.map u8v) (hf : f.length ≤ 640) (ho : o = 640 - f.length ∨ (o = 0 ∧ 640 - f.length = 640)) :
    (cur.toList.take o ++ f.map u8v ++ cur.toList.drop (o + (f.map u8v).length)).toArray.size = cr * 1 ∧ (cur.toList.take o ++ f.map u8v ++ cur.toList.drop (o + (f.map u8v).length)).toArray.toList.take (640 * 1) = (put r f).map u8v := by
  have hl : cur.toList.length = cr := by simp [hs]
  rcases ho with ho | ⟨ho, hz⟩
  · subst ho
    refine ⟨by simp [hs]; omega, ?_⟩
    have e1 : (cur.toList.take (640 - f.length) ++ f.map u8v).length = 640 := by simp [hs]; omega
    rw [List.toList_toArray, Nat.mul_one, List.take_left' e1, put, List.map_append, hr, List.map_take, ← hc, List.take_take]
    congr 2
    omega
  · have hf0 : f = [] := List.eq_nil_of_length_eq_zero (by omega)
    subst ho hf0
    refine ⟨by simp [hs], ?_⟩
    simp only [List.take_zero, List.map_nil, List.nil_append, List.length_nil, Nat.add_zero, List.drop_zero, List.toList_toArray]
    rw [hc, put, hr]; simp [List.take_of_length_le (Nat.le_of_eq hr)]

set_option maxHeartbeats 4000000 in
theorem wrap_ok (seed : List Byte) (hse : seed.length = 32) {A Ah : Option Addr} {n c nh ch : Nat} {ks : List Nat} {hs : List Hop} (w : World) (hK : Sl w 1 A n (ks.map pv)) (hks : ∀ k ∈ ks, k < 18446744073709551616) (hn : n ≤ 1000000) (hH : Rws w 6 Ah nh (hs.map hopV)) (hhs : ∀ h ∈ hs, HopOk h) (_hnh : nh ≤ 1000000) : Calls Try.prog 56 #[.slice A n c, .slice Ah nh ch, .agg (seed.map u8v).toArray] w (fun e w' => Le w w' ∧ (((keysOk ks && hopsOk ks hs) = true ∧ ∃ A' c', e = .returned (.tuple #[.slice A' 680 c', .int .i64 0]) ∧ Sx.Own w' w.heap.size 5 1 A' 680 c' ((wrapB ks hs seed).map u8v)) ∨ ((keysOk ks && hopsOk ks hs) = false ∧ e = .returned (.tuple #[.slice none 0 0, .int .i64 1])))) := by
  refine enterM Try.func56 rfl rfl ?_
  have L0 := Le.refl w
  refine WC.seq ?_
  refine WC.region ?_
  refine W.ef rfl rfl rfl ?_
  refine Ef.box rfl ?_
  intro g0_0 w0_0 hg0_0 b0_0 h0_0
  have L0_0 := L0.trans h0_0
  have bH : Blk w0_0 g0_0 66 #[.slice Ah nh ch] := b0_0
  refine W.ef rfl rfl rfl ?_
  refine Ef.boxA rfl ?_
  intro g0_1 w0_1 hg0_1 b0_1 h0_1
  have L0_1 := L0_0.trans h0_1
  have bH := bH.le h0_1
  have bS : Blk w0_1 g0_1 89 (seed.map u8v).toArray := b0_1
  have hL0 := h0_0.trans h0_1
  have LL := Le.refl w0_1
  have hkl0 := hK.1
  rw [List.length_map, Nat.mul_one] at hkl0
  have hhl := hH.1
  rw [List.length_map] at hhl
  refine W.any (.assign rfl) rfl rfl rfl ?_
  refine W.any (.assign rfl) rfl rfl rfl ?_
  refine W.nil ?_
  refine E.thenN ?_
  refine WC.seq ?_
  refine WC.region ?_
  refine W.any (.move rfl) rfl rfl rfl ?_
  refine W.rd (.loadAll ag89 (by simp [hse]) rfl (bS)) rfl rfl rfl ?_
  by_cases hk : keysOk ks = true
  · refine W.ef rfl rfl rfl ?_
    refine Ef.call go104 rfl rfl (way_T seed hse w0_1 (hK.le hL0) hks hn hk) ?_
    rintro _ w1_2 ⟨A2, c2, rfl, o2, h1_2⟩
    refine ⟨_, rfl, ?_⟩
    have L1_2 := LL.trans h1_2
    refine W.any (.move rfl) rfl rfl rfl ?_
    refine W.any (.extract rfl rfl) rfl rfl rfl ?_
    refine W.any (.extract rfl rfl) rfl rfl rfl ?_
    refine W.ef rfl rfl rfl ?_
    refine Ef.alloc z169 ?_
    intro g1_6 w1_6 hg1_6 b1_6 h1_6
    have L1_6 := L1_2.trans h1_6
    refine W.ef0 rfl rfl ?_
    refine Ef.store sz169 rfl rfl (b1_6) (by decide) (rfl) ?_
    intro w1_7 b1_7 h1_7
    have L1_7 : Le w0_1 w1_7 := L1_6.then_ h1_7 (fun q hq => by cases hq; exact Nat.le_trans h1_2.size hg1_6)
    have hn8 : 1 ≤ n ∧ n ≤ 8 := by rw [keysOk] at hk; simp at hk; omega
    have hcap2 := o2.cap.1
    obtain ⟨gs, rfl, hgs, hgs2, hgrow⟩ := o2.lit (by omega)
    obtain ⟨cur, hcur, hcsz, hctk⟩ := o2.block (by omega)
    have hcur := (hcur.le h1_6).ch h1_7 (by simp; omega)
    have bL : Blk w1_7 g1_6 169 #[.slice (some ⟨gs, 0, none⟩) n c2] := b1_7
    have hll : (wayB (startX seed) ks).length = n := by rw [wayB_length]; exact hkl0
    have hsum := wayB_sum ks (startX seed)
    have hwr : wrapB ks hs seed = packetB (base (startX seed)) (wrapR (padO seed) [] (wayB (startX seed) ks) hs) := rfl
    have hfst : ((wayB (startX seed) ks).getD 0 (0, [])).1 = base (startX seed) := by
      cases ks with
      | nil => simp at hkl0; omega
      | cons k ks => rfl
    generalize wayB (startX seed) ks = l at *
    refine W.any (.assign rfl) rfl rfl rfl ?_
    refine W.nil ?_
    refine E.thenN ?_
    refine WC.seq ?_
    refine WC.seq ?_
    refine WC.region ?_
    refine W.any (.move rfl) rfl rfl rfl ?_
    refine W.any (.not rfl) rfl rfl rfl ?_
    refine W.any (.move rfl) rfl rfl rfl ?_
    refine W.rdg (.loadB na66 rfl (bH.le L1_7) (rfl)) rfl rfl rfl (rfl) rfl rfl ?_
    refine W.rdg (.len Try.underlying66 rfl) rfl rfl rfl (rfl) rfl rfl ?_
    refine W.rdg (.loadB na169 rfl (bL.le (Le.refl _)) (rfl)) rfl rfl rfl (rfl) rfl rfl ?_
    refine W.rdg (.len Try.underlying169 rfl) rfl rfl rfl (rfl) rfl rfl ?_
    by_cases hln : nh = n
    · refine W.rdg (Any.rd (.dec (.neq rfl rfl) (decide_eq_false (by omega))) _) rfl rfl rfl (rfl) rfl rfl ?_
      refine W.any (.pickF rfl rfl rfl) rfl rfl rfl ?_
      refine W.nil ?_
      refine E.thenN ?_
      refine WC.condF rfl ?_
      refine WC.skip ?_
      refine E.thenN ?_
      refine WC.seq ?_
      refine WC.seq ?_
      refine WC.region ?_
      refine W.rd (.loadB na66 rfl (bH.le L1_7) (rfl)) rfl rfl rfl ?_
      refine W.rd (.len Try.underlying66 rfl) rfl rfl rfl ?_
      refine W.any (.move rfl) rfl rfl rfl ?_
      refine W.nil ?_
      refine E.thenN ?_
      refine WC.block ?_
      refine WC.loop (ι := Nat) (fun k => [(4, .pointer (some ⟨g0_0, 0, none⟩)), (5, .pointer (some ⟨g0_1, 0, none⟩)), (8, .pointer (some ⟨g1_6, 0, none⟩)), (32, .slice Ah nh ch), (33, .int .i64 (nh : Int)), (34, .int .i64 (k : Int))]) (fun k wl => k ≤ nh ∧ Le w1_7 wl ∧ ∀ i, i < k → (mayB (hs.getD i noHop) && decide (decide ((hs.getD i noHop).1 < 0) = decide (i + 1 = hs.length))) = true) (fun k => nh - k) 0 ?_ ?_ ?_
      · exact .cons rfl (.cons rfl (.cons rfl (.cons rfl (.cons rfl (.cons rfl (.nil _))))))
      · exact ⟨Nat.zero_le _, Le.refl _, fun i hi => by omega⟩
      · rintro k wl ⟨hkn, Ll, hall⟩
        refine WC.seq ?_
        refine WC.region ?_
        refine W.any (.lss rfl rfl) rfl rfl rfl ?_
        refine W.nil ?_
        refine E.thenN ?_
        refine WC.seq ?_
        refine WC.cond rfl (fun c1 => ?_) (fun c1 => ?_)
        · have hkh := geth hs (show k < hs.length by omega)
          have hho : HopOk (hs.getD k noHop) := hhs _ (List.mem_of_getElem? hkh)
          refine WC.skip ?_
          refine E.thenN ?_
          refine WC.seq ?_
          refine WC.block ?_
          refine WC.seq ?_
          refine WC.region ?_
          refine W.any (.move rfl) rfl rfl rfl ?_
          refine W.any (.idxS (k) Try.underlying66 sz95 rfl rfl (hH.isSome (by omega) (by decide)) (rfl) (by omega)) rfl rfl rfl ?_
          refine W.rd (.loadR ag95 rfl (hH.le (hL0.trans (L1_7.trans Ll))) (hopRows_at hs k (by omega)) (by decide)) rfl rfl rfl ?_
          refine W.ef rfl rfl rfl ?_
          refine Ef.allocA z95 ?_
          intro g6_3 w6_3 hg6_3 b6_3 h6_3
          have L6_3 := Ll.trans h6_3
          refine W.any (.assign rfl) rfl rfl rfl ?_
          refine W.ef0 rfl rfl ?_
          refine Ef.storeAll sz95 (by rfl) rfl rfl (b6_3) (by rfl) (hopV_one _) ?_
          intro w6_5 b6_5 h6_5
          have L6_5 : Le w1_7 w6_5 := L6_3.then_ h6_5 (fun q hq => by cases hq; exact Nat.le_trans Ll.size hg6_3)
          refine W.nil ?_
          refine E.thenN ?_
          refine WC.seq ?_
          refine WC.region ?_
          refine W.rd (.loadAll ag95 (by rfl) rfl (b6_5)) rfl rfl rfl ?_
          by_cases hy : mayB (hs.getD k noHop) = true
          · refine W.ef rfl rfl rfl ?_
            refine Ef.call go105 rfl rfl (may_T _ hho hy w6_5) ?_
            rintro _ w7_1 ⟨rfl, h7_1⟩
            refine ⟨_, rfl, ?_⟩
            have L7_1 := L6_5.trans h7_1
            refine W.any (.not rfl) rfl rfl rfl ?_
            refine W.any (.move rfl) rfl rfl rfl ?_
            refine W.rdg (Any.rd (.field0 fa95_0 rfl) _) rfl rfl rfl (rfl) rfl rfl ?_
            refine W.rdg (.loadB na3 rfl (b6_5.le h7_1) (rfl)) rfl rfl rfl (rfl) rfl rfl ?_
            refine W.rdg (Any.rd (.lss rfl rfl) _) rfl rfl rfl (rfl) rfl rfl ?_
            refine W.rdg (Any.rd (.move rfl) _) rfl rfl rfl (rfl) rfl rfl ?_
            refine W.rdg (.loadB na66 rfl (bH.le (L1_7.trans L7_1)) (rfl)) rfl rfl rfl (rfl) rfl rfl ?_
            refine W.rdg (.len Try.underlying66 rfl) rfl rfl rfl (rfl) rfl rfl ?_
            refine W.rdg (Any.rd (.sub rfl rfl (by omega)) _) rfl rfl rfl (rfl) rfl rfl ?_
            refine W.rdg (Any.rd (.eql rfl rfl) _) rfl rfl rfl (rfl) rfl rfl ?_
            by_cases hb : decide ((hs.getD k noHop).1 < 0) = decide ((k : Int) = (nh : Int) - 1)
            · refine W.rdg (Any.rd (.dec (.bneq Try.underlying4 rfl rfl) (show _ = false from by rw [hb]; simp)) _) rfl rfl rfl (rfl) rfl rfl ?_
              have hb2 : decide (decide ((hs.getD k noHop).1 < 0) = decide (k + 1 = hs.length)) = true := by rw [hb]; exact decide_eq_true (decide_eq_decide.2 (by omega))
              refine W.any (.pickF rfl rfl rfl) rfl rfl rfl ?_
              refine W.nil ?_
              refine E.thenN ?_
              refine WC.condF rfl ?_
              refine WC.skip ?_
              refine E.blkN ?_
              refine E.thenN ?_
              refine WC.region ?_
              refine W.any (.add rfl rfl (by omega)) rfl rfl rfl ?_
              refine W.any (.move rfl) rfl rfl rfl ?_
              refine W.nil ?_
              refine E.again (k + 1) (.cons rfl (.cons rfl (.cons rfl (.cons rfl (.cons rfl (.cons rfl (.nil _))))))) ?_ ?_
              · exact ⟨by omega, L7_1, fun i hi => by
                  by_cases hik : i < k
                  · exact hall i hik
                  · have hik : i = k := by omega
                    subst hik
                    rw [hy, Bool.true_and]
                    exact hb2⟩
              · first | omega | (simp only []; omega)
            · refine W.rdg (Any.rd (.dec (.bneq Try.underlying4 rfl rfl) (show _ = true from by rw [beq_eq_false_iff_ne.2 hb]; rfl)) _) rfl rfl rfl (rfl) rfl rfl ?_
              have hb2 : decide (decide ((hs.getD k noHop).1 < 0) = decide (k + 1 = hs.length)) = false := decide_eq_false (fun h => hb (by rw [h]; exact decide_eq_decide.2 (by omega)))
              refine W.any (.pickF rfl rfl rfl) rfl rfl rfl ?_
              refine W.nil ?_
              refine E.thenN ?_
              refine WC.condT rfl ?_
              refine WC.seq ?_
              refine WC.region ?_
              refine W.any (.assign rfl) rfl rfl rfl ?_
              refine W.any (.assign rfl) rfl rfl rfl ?_
              refine W.nil ?_
              refine E.thenN ?_
              refine WC.ret ?_
              refine E.blkR ?_
              refine E.thenR ?_
              refine E.thenR ?_
              refine E.blkR ?_
              refine E.thenR ?_
              refine E.retM2 rfl rfl rfl ?_
              exact ⟨hL0.trans (L1_7.trans L7_1), .inr ⟨by rw [hk, Bool.true_and]; exact hopsOk_no ks hs k (by omega) (by rw [hy, Bool.true_and]; exact hb2), rfl⟩⟩
          · refine W.ef rfl rfl rfl ?_
            refine Ef.call go105 rfl rfl (may_F _ hho (by simpa using hy) w6_5) ?_
            rintro _ w7_1 ⟨rfl, h7_1⟩
            refine ⟨_, rfl, ?_⟩
            have L7_1 := L6_5.trans h7_1
            refine W.any (.not rfl) rfl rfl rfl ?_
            refine W.any (.move rfl) rfl rfl rfl ?_
            refine W.skip rfl rfl rfl (rfl) rfl rfl ?_
            refine W.skip rfl rfl rfl (rfl) rfl rfl ?_
            refine W.skip rfl rfl rfl (rfl) rfl rfl ?_
            refine W.skip rfl rfl rfl (rfl) rfl rfl ?_
            refine W.skip rfl rfl rfl (rfl) rfl rfl ?_
            refine W.skip rfl rfl rfl (rfl) rfl rfl ?_
            refine W.skip rfl rfl rfl (rfl) rfl rfl ?_
            refine W.skip rfl rfl rfl (rfl) rfl rfl ?_
            refine W.skip rfl rfl rfl (rfl) rfl rfl ?_
            refine W.any (.pickT rfl rfl rfl) rfl rfl rfl ?_
            refine W.nil ?_
            refine E.thenN ?_
            refine WC.condT rfl ?_
            refine WC.seq ?_
            refine WC.region ?_
            refine W.any (.assign rfl) rfl rfl rfl ?_
            refine W.any (.assign rfl) rfl rfl rfl ?_
            refine W.nil ?_
            refine E.thenN ?_
            refine WC.ret ?_
            refine E.blkR ?_
            refine E.thenR ?_
            refine E.thenR ?_
            refine E.blkR ?_
            refine E.thenR ?_
            refine E.retM2 rfl rfl rfl ?_
            exact ⟨hL0.trans (L1_7.trans L7_1), .inr ⟨by rw [hk, Bool.true_and]; exact hopsOk_no ks hs k (by omega) (by rw [show mayB (hs.getD k noHop) = false by simpa using hy, Bool.false_and]), rfl⟩⟩
        · have hkk : nh = k := by omega
          subst hkk
          refine WC.exit ?_
          refine E.thenX ?_
          refine E.thenX ?_
          refine E.blkH ?_
          refine E.thenN ?_
          refine WC.seq ?_
          refine WC.region ?_
          refine W.any (.cutArr Try.underlying89 sz5 rfl) rfl rfl rfl ?_
          refine W.ef rfl rfl rfl ?_
          refine Ef.buildSlice1 Try.underlying211 el107 rfl rfl ?_
          intro g10_1 w10_1 hg10_1 b10_1 h10_1
          have L10_1 := Ll.trans h10_1
          refine W.ef rfl rfl rfl ?_
          refine Ef.call go107 rfl rfl (tag_ok _ nPad w10_1 (ps := [seed]) rfl (b10_1.sl (s := 1) (n := 1) rfl) (.cons ((bS.le (L1_7.trans L10_1)).sb hse) (.nil _)) (by rw [tagLen1, hse]; decide)) ?_
          rintro _ w10_2 ⟨rfl, h10_2⟩
          refine ⟨_, rfl, ?_⟩
          have L10_2 := L10_1.trans h10_2
          refine W.ef rfl rfl rfl ?_
          refine Ef.call go106 rfl rfl (stream_ok _ (tag_length _ _) 640 (by decide) w10_2) ?_
          rintro _ w10_3 ⟨A3, c3, rfl, o3, h10_3⟩
          refine ⟨_, rfl, ?_⟩
          have L10_3 := L10_2.trans h10_3
          refine W.ef rfl rfl rfl ?_
          refine Ef.alloc z107 ?_
          intro g10_4 w10_4 hg10_4 b10_4 h10_4
          have L10_4 := L10_3.trans h10_4
          refine W.ef0 rfl rfl ?_
          refine Ef.store sz107 rfl rfl (b10_4) (by decide) (rfl) ?_
          intro w10_5 b10_5 h10_5
          have L10_5 : Le w1_7 w10_5 := L10_4.then_ h10_5 (fun q hq => by cases hq; exact Nat.le_trans L10_3.size hg10_4)
          have bR : Blk w10_5 g10_4 107 #[.slice A3 640 c3] := b10_5
          have oR := ((o3.mono (hL0.trans (L1_7.trans L10_2)).size).le h10_4).ch h10_5 (fun q hq => by cases hq; exact fun he => by have := (o3.row he).2; omega)
          refine W.nil ?_
          refine E.thenN ?_
          refine WC.seq ?_
          refine WC.region ?_
          refine W.ef rfl rfl rfl ?_
          refine Ef.allocA z89 ?_
          intro g11_0 w11_0 hg11_0 b11_0 h11_0
          have L11_0 := L10_5.trans h11_0
          have bM : Blk w11_0 g11_0 89 ((zeros 32).map u8v).toArray := b11_0
          refine W.nil ?_
          refine E.thenN ?_
          refine WC.seq ?_
          refine WC.seq ?_
          refine WC.region ?_
          refine W.rd (.loadB na169 rfl (bL.le L11_0) (rfl)) rfl rfl rfl ?_
          refine W.ef rfl rfl rfl ?_
          refine Ef.call go108 rfl rfl (backward_ok _ rfl w11_0) ?_
          rintro _ ws ⟨gb, rfl, hgb, bB, h12_1⟩
          refine ⟨_, rfl, ?_⟩
          have L12_1 := L11_0.trans h12_1
          have bM := bM.le h12_1
          have bR := bR.le (h11_0.trans h12_1)
          have oR := oR.le (h11_0.trans h12_1)
          have bH := bH.le (L1_7.trans L12_1)
          have bL := bL.le L12_1
          have hcur := hcur.le L12_1
          have hLs : Le w ws := hL0.trans (L1_7.trans L12_1)
          have hpl : (padO seed).length = 640 := stream_length _ _
          have hok : (keysOk ks && hopsOk ks hs) = true := by rw [hk, Bool.true_and]; exact hopsOk_yes ks hs (by omega) (fun i hi => hall i (by omega))
          have d1 : g0_0 < g1_6 ∧ g1_6 < g10_4 ∧ g10_4 < g11_0 ∧ g11_0 < gb ∧ gs < g1_6 ∧ g0_0 < gs := by
            have := b0_0.lt; have := h0_1.size; have := h1_2.size; have := b1_6.lt; have := h1_7.size; have := L10_3.size; have := b10_4.lt; have := h10_5.size; have := b11_0.lt; exact ⟨by omega, by omega, by omega, by omega, by omega, by omega⟩
          refine W.nil ?_
          refine E.thenN ?_
          refine WC.block ?_
          refine WC.range (α := Fin n) (N := n) rfl go146 rfl rfl (back_seq hll (by omega) hsum hctk ws bB hcur) (fun h k => ⟨h.1.trans k.1, h.2.trans k.2⟩) (fun Wd q o o' hq _ _ _ => ⟨(World.putObj_heap_other (by have := bB.lt; omega)).symm, (World.putObj_heap_other (by have := hcur.lt; omega)).symm⟩)
            (fun (pre : List (Fin n)) Wd => Le w Wd ∧ ws.heap.size ≤ Wd.heap.size ∧ Blk Wd g0_0 66 #[.slice Ah nh ch] ∧ Blk Wd g1_6 169 #[.slice (some ⟨gs, 0, none⟩) n c2] ∧ Blk Wd gb 169 #[.slice (some ⟨gs, 0, none⟩) n c2] ∧ Blk Wd gs 179 cur ∧ Blk Wd g11_0 89 ((foldR l hs (padO seed) (pre.map Fin.val)).2.map u8v).toArray ∧ ∃ Ar cr, Blk Wd g10_4 107 #[.slice Ar 640 cr] ∧ Sx.Own Wd w.heap.size 5 1 Ar 640 cr ((foldR l hs (padO seed) (pre.map Fin.val)).1.map u8v)) (fun pre Wd W' row ⟨i1, i0, i2, i3, i4, i5, i6, Ar, cr, i7, i8⟩ hg hr => ⟨i1.then_ hg (fun q e => Nat.le_trans hLs.size (hr q e).1), Nat.le_trans i0 hg.size, i2.grown hg (fun r e => (hr r e).2), i3.grown hg (fun r e => (hr r e).2), i4.grown hg (fun r e => (hr r e).2), i5.grown hg (fun r e => (hr r e).2), i6.grown hg (fun r e => (hr r e).2), Ar, cr, i7.grown hg (fun r e => (hr r e).2), i8.grown (by decide) hg (fun r e => (hr r e).2)⟩)
            ⟨hLs, Nat.le_refl _, bH, bL, bB, hcur, bM, A3, c3, bR, oR⟩ (fun (x : Fin n) b => [(4, .pointer (some ⟨g0_0, 0, none⟩)), (8, .pointer (some ⟨g1_6, 0, none⟩)), (12, .pointer (some ⟨g10_4, 0, none⟩)), (13, .pointer (some ⟨g11_0, 0, none⟩)), (14, .int .i64 ((x.val : Nat) : Int)), (15, .pointer (some ⟨b, 0, none⟩))]) (fun x b Wd => ws.heap.size ≤ b ∧ Blk Wd b 179 (stopV (l.getD x.val (0, []))).toArray) (fun x b s Wd W' row h hg hr => ⟨h.1, h.2.grown hg (fun r e => (hr r e).2)⟩) ?_ ?_ ?_
          · intro lp pre x Wd hI
            obtain ⟨i1, i0, i2, i3, i4, i5, i6, Ar, cr, i7, i8⟩ := hI
            have LB := Le.refl Wd
            have hs32 := hsum _ (List.mem_of_getElem? (getst l (show x.val < l.length by rw [hll]; exact x.2)))
            refine RC.seq ?_
            refine RC.region rfl (fun ⟨_, _, h⟩ => h) ?_
            refine W.any (.assign rfl) rfl rfl rfl ?_
            refine W.nil ?_
            refine RC.thenN ?_
            refine RC.region rfl (fun ⟨_, _, h⟩ => h) ?_
            refine W.ef rfl rfl rfl ?_
            refine Ef.allocA z179 ?_
            intro g14_0 w14_0 hg14_0 b14_0 h14_0
            have L14_0 := LB.trans h14_0
            refine W.ef0 rfl rfl ?_
            refine Ef.storeAll sz179 (by rw [List.size_toArray, stopV_length _ hs32]) rfl rfl (b14_0) (by rw [show (stopV (l.getD x.val (0, []))).toArray.size = 33 by rw [List.size_toArray, stopV_length _ hs32]]; rfl) (stopV_one _) ?_
            intro w14_1 b14_1 h14_1
            have L14_1 : Le Wd w14_1 := L14_0.then_ h14_1 (fun q hq => by cases hq; exact hg14_0)
            refine W.nil ?_
            exact fun a' ha' => ⟨g14_0, ha'.sub (.cons rfl (.cons rfl (.cons rfl (.cons rfl (.cons rfl (.cons rfl (.nil _))))))), ⟨Nat.le_trans i0 hg14_0, b14_1⟩, KeepsFrom.of_le L14_1, ⟨i4.trans (i4.le L14_1).symm, i5.trans (i5.le L14_1).symm⟩, i1.trans L14_1, Nat.le_trans i0 (L14_1).size, i2.le L14_1, i3.le L14_1, i4.le L14_1, i5.le L14_1, i6.le L14_1, Ar, cr, i7.le L14_1, i8.le L14_1⟩
          · intro lp pre x b Wd hI hbx hpre
            obtain ⟨i1, i0, i2, i3, i4, i5, i6, Ar, cr, i7, i8⟩ := hI
            obtain ⟨hb1, i9⟩ := hbx
            have LB := Le.refl Wd
            have hxs := getst l (show x.val < l.length by rw [hll]; exact x.2)
            have hs32 := hsum _ (List.mem_of_getElem? hxs)
            have hfl := foldR_len l hs (padO seed) hpl (by omega) (by omega) (pre.map Fin.val)
            obtain ⟨st, hst⟩ : ∃ st, st = foldR l hs (padO seed) (pre.map Fin.val) := ⟨_, rfl⟩
            rw [← hst] at i6 i8 hfl
            obtain ⟨s, hsd⟩ : ∃ s, s = l.getD x.val (0, []) := ⟨_, rfl⟩
            rw [← hsd] at hs32 i9
            obtain ⟨h, hhd⟩ : ∃ h, h = hs.getD x.val noHop := ⟨_, rfl⟩
            have hlayl := layer_length s h st.2 st.1 hfl.2 hfl.1
            have hstep : foldR l hs (padO seed) ((pre ++ [x]).map Fin.val) = stepR l hs st x.val := by rw [List.map_append, List.map_cons, List.map_nil, foldR_snoc, hst]
            refine RC.block ?_
            refine RC.seq ?_
            refine RC.draw [0, 1, 2, 3, 5, 6, 7, 10, 4, 8, 9, 11, 12, 13] mixed (by kernel_rfl) rfl ?_
            intro w15 d15
            have L15 := LB.trans d15
            refine G.rd rfl rfl (.loadB na66 rfl (i2.le L15) (rfl)) rfl rfl rfl ?_
            refine G.any rfl rfl (.move rfl) rfl rfl rfl ?_
            refine G.any rfl rfl (.idxS (x.val) Try.underlying66 sz95 rfl rfl (hH.isSome (by have := x.2; omega) (by decide)) (rfl) (by have := x.2; omega)) rfl rfl rfl ?_
            refine G.rd rfl rfl (.as (Rd.loadR ag95 rfl (hH.le (i1.trans L15)) (hopRows_at hs x.val (by have := x.2; omega)) (by decide)) (show _ = Value.agg (hopV h).toArray by rw [hhd])) rfl rfl rfl ?_
            refine G.any rfl rfl (.cutArr Try.underlying89 sz5 rfl) rfl rfl rfl ?_
            refine G.rd rfl rfl (.loadB na107 rfl (i7.le L15) (rfl)) rfl rfl rfl ?_
            refine G.any rfl rfl (.cutH (560) Try.underlying107 sz5 rfl rfl (rfl) (by have := i8.cap.1; omega)) rfl rfl rfl ?_
            refine G.rd rfl rfl (.loadAll ag179 (by simp [stopV, hs32]) rfl (i9.le L15)) rfl rfl rfl ?_
            refine G.ef rfl rfl rfl rfl rfl ?_
            refine Ef.call go111 rfl rfl (lay_ok h w15) ?_
            rintro _ w15_4 ⟨A4, c4, rfl, o4, h15_4⟩
            refine ⟨_, rfl, ?_⟩
            have L15_4 := L15.trans h15_4
            refine ⟨fun _ => h15_4, ?_⟩
            refine G.ef rfl rfl rfl rfl rfl ?_
            refine Ef.buildSliceN [_, _, _] Try.underlying211 el107 rfl one3 rfl (by decide) (by decide) ?_
            intro g15_8 w15_8 hg15_8 b15_8 h15_8
            have L15_8 := L15_4.trans h15_8
            refine ⟨fun _ => h15_8, ?_⟩
            refine G.ef rfl rfl rfl rfl rfl ?_
            refine Ef.call go110 rfl rfl (concat_to (layB h ++ st.2 ++ st.1.take 560) 640 w15_8 (b15_8.sl (s := 1) (n := 3) rfl) (.cons (o4.le h15_8).sb (.cons ((i6.le L15_8).sb hfl.2) (.cons ((i8.le L15_8).sb.cutH 560 (by decide)) (.nil _)))) (by simp) (by simp [layB_length, hfl.1, hfl.2]) (by decide) (by decide) (by decide)) ?_
            rintro _ w15_9 ⟨A9, c9, rfl, o9, h15_9⟩
            refine ⟨_, rfl, ?_⟩
            have L15_9 := L15_8.trans h15_9
            refine ⟨fun _ => h15_9, ?_⟩
            refine G.ef rfl rfl rfl rfl rfl ?_
            refine Ef.call go112 rfl rfl (rho_ok s hs32 640 (by decide) w15_9) ?_
            rintro _ w15_11 ⟨A11, c11, rfl, o11, h15_11⟩
            refine ⟨_, rfl, ?_⟩
            have L15_11 := L15_9.trans h15_11
            refine ⟨fun _ => h15_11, ?_⟩
            refine G.ef rfl rfl rfl rfl rfl ?_
            refine Ef.call go109 rfl rfl (xor_ok w15_11 (o9.le h15_11).sb o11.sb (by decide)) ?_
            rintro _ w15_12 ⟨A12, c12, rfl, o12, h15_12⟩
            refine ⟨_, rfl, ?_⟩
            have L15_12 := L15_11.trans h15_12
            refine ⟨fun _ => h15_12, ?_⟩
            have o12 : Sx.Own w15_12 w15_11.heap.size 5 1 A12 640 c12 ((layer s h st.2 st.1).map u8v) := o12
            have L12 := L15_12
            refine G.ef0 rfl rfl rfl rfl ?_
            refine Ef.store sz107 rfl rfl (i7.le L15_12) (by simp) (rfl) ?_
            intro w15_13 b15_13 h15_13
            refine ⟨fun h => absurd h (ne_true_of_eq_false (by kernel_rfl)), ?_⟩
            have bR2 : Blk w15_13 g10_4 107 #[.slice A12 640 c12] := b15_13
            have hszW := i0
            have j2 := (i2.le L12).ch h15_13 (by simp; omega)
            have j3 := (i3.le L12).ch h15_13 (by simp; omega)
            have j4 := (i4.le L12).ch h15_13 (by simp; omega)
            have j5 := (i5.le L12).ch h15_13 (by simp; omega)
            have j6 := (i6.le L12).ch h15_13 (by simp; omega)
            have j9 := (i9.le L12).ch h15_13 (by simp; have := bR.lt; omega)
            have oR2 := o12.ch h15_13 (fun q hq => by cases hq; exact fun he => by have := (o12.row he).1; have := L15_11.size; have := i7.lt; omega)
            obtain ⟨gr, rfl, hgr1, hgr2, hgrow2⟩ := oR2.lit (by decide)
            have hWs := L15_11.size
            have hgrb : g0_0 ≠ gr ∧ g1_6 ≠ gr ∧ gb ≠ gr ∧ gs ≠ gr ∧ g11_0 ≠ gr ∧ b ≠ gr ∧ g10_4 ≠ gr := by have := i2.lt; have := i3.lt; have := i4.lt; have := i5.lt; have := i6.lt; have := i9.lt; have := i7.lt; exact ⟨by omega, by omega, by omega, by omega, by omega, by omega, by omega⟩
            have kf : KeepsFrom ws.heap.size Wd w15_13 := (KeepsFrom.of_le L12).trans (KeepsFrom.of_ch h15_13 (i7.le L12))
            have j1 : Le w w15_13 := (i1.trans L12).then_ h15_13 (fun q hq => by cases hq; exact Nat.le_trans (hL0.trans (L1_7.trans L10_3)).size hg10_4)
            have LC := Le.refl w15_13
            refine G.nil ?_
            refine RC.thenN ?_
            refine RC.seq ?_
            refine RC.seq ?_
            refine RC.region rfl (fun ⟨_, _, h⟩ => h) ?_
            refine W.any (.move rfl) rfl rfl rfl ?_
            refine W.rd (.loadB na169 rfl (j3.le LC) (rfl)) rfl rfl rfl ?_
            refine W.rd (.len Try.underlying169 rfl) rfl rfl rfl ?_
            refine W.any (.sub rfl rfl (by omega)) rfl rfl rfl ?_
            refine W.any (.eql rfl rfl) rfl rfl rfl ?_
            refine W.nil ?_
            refine RC.thenN ?_
            refine RC.cond rfl (fun c3 => ?_) (fun c3 => ?_)
            · have hlast : x.val + 1 = l.length := by omega
              refine RC.seq ?_
              refine RC.region rfl (fun ⟨_, _, h⟩ => h) ?_
              refine W.rd (.loadB na169 rfl (j3.le LC) (rfl)) rfl rfl rfl ?_
              refine W.ef rfl rfl rfl ?_
              refine Ef.call go113 rfl rfl (filler_ok w15_13 (rws_blk j5 hll hsum hctk) hsum hn8.1 hn8.2 hcap2) ?_
              rintro _ w17_1 ⟨Af, cf, rfl, of, h17_1⟩
              refine ⟨_, rfl, ?_⟩
              have L17_1 := LC.trans h17_1
              have hfil := filler_length l (by omega) (by omega)
              rw [hll] at hfil
              refine W.any (.assign rfl) rfl rfl rfl ?_
              refine W.nil ?_
              refine RC.thenN ?_
              refine RC.region rfl (fun ⟨_, _, h⟩ => h) ?_
              refine W.rd (.loadB na107 rfl (bR2.le L17_1) (rfl)) rfl rfl rfl ?_
              refine W.any (.move rfl) rfl rfl rfl ?_
              refine W.rd (.len Try.underlying107 rfl) rfl rfl rfl ?_
              refine W.any (.sub rfl rfl (by omega)) rfl rfl rfl ?_
              obtain ⟨oo, hoo, hoo2⟩ := cut_lit gr c12 (640 - 80 * (n - 1)) (by omega) oR2.cap.1
              refine W.any (.as (Any.cutL (640 - 80 * (n - 1)) Try.underlying107 sz5 rfl rfl (by omega) (by omega) oR2.cap.1) (ptr_eq hoo)) rfl rfl rfl ?_
              refine W.any (.move rfl) rfl rfl rfl ?_
              obtain ⟨cu, hcu, hcus, hcut⟩ := (oR2.le h17_1).block (by decide)
              have hfl2 : ((filler l).map u8v).length = 80 * (n - 1) := by rw [List.length_map, hfil]
              refine W.ef rfl rfl rfl ?_
              refine Ef.copy Try.underlying107 sz5 rfl hcu rfl (of.sb.src Try.underlying107 _) (by omega) (by rw [hfl2, hcus]; have := oR2.cap.1; omega) ?_
              intro w18_6 b18_6 h18_6
              have hpr := put_row cu c12 oo (layer s h st.2 st.1) (filler l) hcus hlayl oR2.cap.1 hcut (by omega) (by rw [hfil]; exact hoo2.imp id (fun h => ⟨h.1, by omega⟩))
              have oR3 : Sx.Own w18_6 w15_11.heap.size 5 1 (some ⟨gr, 0, none⟩) 640 c12 ((put (layer s h st.2 st.1) (filler l)).map u8v) := ⟨by rw [List.length_map, put_length _ _ (by omega), hlayl], .inr ⟨gr, _, rfl, hgr1, b18_6, oR2.cap.1, oR2.cap.2, hpr.1, hpr.2⟩⟩
              have j2 := (j2.le h17_1).ch h18_6 (by simp; omega)
              have j3 := (j3.le h17_1).ch h18_6 (by simp; omega)
              have j4 := (j4.le h17_1).ch h18_6 (by simp; omega)
              have j5 := (j5.le h17_1).ch h18_6 (by simp; omega)
              have j6 := (j6.le h17_1).ch h18_6 (by simp; omega)
              have j9 := (j9.le h17_1).ch h18_6 (by simp; omega)
              have bR2 := (bR2.le h17_1).ch h18_6 (by simp; omega)
              have kf := kf.trans ((KeepsFrom.of_le h17_1).trans (KeepsFrom.of_ch h18_6 hcu))
              have j1 : Le w w18_6 := (j1.trans h17_1).then_ h18_6 (fun q hq => by cases hq; exact Nat.le_trans (i1.trans L15_11).size hgr1)
              have LE := Le.refl w18_6
              refine W.nil ?_
              refine RC.thenN ?_
              refine RC.region rfl (fun ⟨_, _, h⟩ => h) ?_
              refine W.rd (.loadAll ag179 (by simp [stopV, hs32]) rfl (j9.le LE)) rfl rfl rfl ?_
              refine W.rd (.loadB na107 rfl (bR2.le LE) (rfl)) rfl rfl rfl ?_
              refine W.ef rfl rfl rfl ?_
              refine Ef.call go114 rfl rfl (mac_ok s hs32 w18_6 (oR3.le LE).sb (by decide)) ?_
              rintro _ w19_2 ⟨rfl, h19_2⟩
              refine ⟨_, rfl, ?_⟩
              have L19_2 := LE.trans h19_2
              refine W.ef0 rfl rfl ?_
              refine Ef.storeAll sz89 (by simp [macB_length]) rfl rfl (j6.le L19_2) (by simp [macB_length, hfl.2]) (all_u8v _) ?_
              intro w19_3 b19_3 h19_3
              have hw : stepR l hs st x.val = (put (layer s h st.2 st.1) (filler l), macB s (put (layer s h st.2 st.1) (filler l))) := by rw [stepR, ← hsd, ← hhd]; simp only [if_pos hlast]
              refine W.nil ?_
              refine E.blkN ?_
              exact fun a' _ => ⟨kf.trans ((KeepsFrom.of_le h19_2).trans (KeepsFrom.of_ch h19_3 (j6.le h19_2))), ⟨i4.trans ((j4.le h19_2).ch h19_3 (by simp; omega)).symm, i5.trans ((j5.le h19_2).ch h19_3 (by simp; omega)).symm⟩, (j1.trans h19_2).then_ h19_3 (fun q hq => by cases hq; exact Nat.le_trans (hL0.trans (L1_7.trans L10_5)).size hg11_0), Nat.le_trans i0 (Nat.le_trans kf.size (Nat.le_trans h19_2.size h19_3.size)), (j2.le h19_2).ch h19_3 (by simp; omega), (j3.le h19_2).ch h19_3 (by simp; omega), (j4.le h19_2).ch h19_3 (by simp; omega), (j5.le h19_2).ch h19_3 (by simp; omega), by rw [hstep, hw]; exact b19_3, _, _, (bR2.le h19_2).ch h19_3 (by simp; omega), by rw [hstep, hw]; exact ((oR3.mono (Nat.le_trans i1.size L15_11.size)).le h19_2).ch h19_3 (fun q hq => by cases hq; exact fun he => by have := rowOf_lit he; omega)⟩
            · have hlast : ¬ x.val + 1 = l.length := by omega
              refine RC.skip ?_
              refine RC.thenN ?_
              refine RC.region rfl (fun ⟨_, _, h⟩ => h) ?_
              refine W.rd (.loadAll ag179 (by simp [stopV, hs32]) rfl (j9.le LC)) rfl rfl rfl ?_
              refine W.rd (.loadB na107 rfl (bR2.le LC) (rfl)) rfl rfl rfl ?_
              refine W.ef rfl rfl rfl ?_
              refine Ef.call go114 rfl rfl (mac_ok s hs32 w15_13 (oR2.le LC).sb (by decide)) ?_
              rintro _ w19_2 ⟨rfl, h19_2⟩
              refine ⟨_, rfl, ?_⟩
              have L19_2 := LC.trans h19_2
              refine W.ef0 rfl rfl ?_
              refine Ef.storeAll sz89 (by simp [macB_length]) rfl rfl (j6.le L19_2) (by simp [macB_length, hfl.2]) (all_u8v _) ?_
              intro w19_3 b19_3 h19_3
              have hw : stepR l hs st x.val = (layer s h st.2 st.1, macB s (layer s h st.2 st.1)) := by rw [stepR, ← hsd, ← hhd]; simp only [if_neg hlast]
              refine W.nil ?_
              refine E.blkN ?_
              exact fun a' _ => ⟨kf.trans ((KeepsFrom.of_le h19_2).trans (KeepsFrom.of_ch h19_3 (j6.le h19_2))), ⟨i4.trans ((j4.le h19_2).ch h19_3 (by simp; omega)).symm, i5.trans ((j5.le h19_2).ch h19_3 (by simp; omega)).symm⟩, (j1.trans h19_2).then_ h19_3 (fun q hq => by cases hq; exact Nat.le_trans (hL0.trans (L1_7.trans L10_5)).size hg11_0), Nat.le_trans i0 (Nat.le_trans kf.size (Nat.le_trans h19_2.size h19_3.size)), (j2.le h19_2).ch h19_3 (by simp; omega), (j3.le h19_2).ch h19_3 (by simp; omega), (j4.le h19_2).ch h19_3 (by simp; omega), (j5.le h19_2).ch h19_3 (by simp; omega), by rw [hstep, hw]; exact b19_3, _, _, (bR2.le h19_2).ch h19_3 (by simp; omega), by rw [hstep, hw]; exact ((oR2.mono (Nat.le_trans i1.size L15_11.size)).le h19_2).ch h19_3 (fun q hq => by cases hq; exact fun he => by have := rowOf_lit he; omega)⟩
          · intro D xs Wd hD hxs hI hdef
            subst hxs
            obtain ⟨i1, i0, i2, i3, i4, i5, i6, Ar, cr, i7, i8⟩ := hI
            have LB := Le.refl Wd
            rw [finL_val, ← hll, foldR_all l hs (padO seed) (by omega) (by omega)] at i6 i8
            have hwl := wrapR_length (padO seed) hpl l hs [] (by omega) (by simp; omega)
            generalize wrapR (padO seed) [] l hs = rm at *
            have hc0 : cur[0]? = some (.int .u64 ((base (startX seed) : Nat) : Int)) := by
              have h1 : (cur.toList.take (n * 33))[0]? = ((stopRows l).flatten)[0]? := by rw [hctk]
              have h2 := flat_at (stopRows l) (stopRows_len l hsum) 0 _ (stopRows_at l 0 _ (getst l (by omega))) 0 _ (show (stopV (l.getD 0 (0, [])))[0]? = some (.int .u64 (((l.getD 0 (0, [])).1 : Nat) : Int)) from rfl)
              rw [hfst] at h2
              rw [List.getElem?_take, if_pos (by omega)] at h1
              simp only [Nat.zero_mul, Nat.zero_add] at h2
              rw [h2] at h1
              simpa using h1
            refine DE.blkN ?_
            refine DE.thenN ?_
            refine DC.seq ?_
            refine DC.draw [0, 1, 2, 3, 5, 6, 4, 7, 8, 9, 10] mixed (by kernel_rfl) ?_
            intro w20 d20
            have L20 := LB.trans d20
            refine GD.rd rfl rfl (.loadB na169 rfl (i3.le L20) (rfl)) rfl rfl rfl ?_
            refine GD.any rfl rfl (.as (Any.idxB 0 Try.underlying169 sz179 rfl rfl rfl (by omega)) rfl) rfl rfl rfl ?_
            refine GD.any rfl rfl (.field0 fa179_0 rfl) rfl rfl rfl ?_
            refine GD.rd rfl rfl (.loadB na31 rfl (i5.le L20) (hc0)) rfl rfl rfl ?_
            refine GD.rd rfl rfl (.loadB na107 rfl (i7.le L20) (rfl)) rfl rfl rfl ?_
            refine GD.any rfl rfl (.cutArr Try.underlying89 sz5 rfl) rfl rfl rfl ?_
            refine GD.ef rfl rfl rfl rfl rfl ?_
            refine Ef.call go115 rfl rfl (eight_ok (base (startX seed)) w20) ?_
            rintro _ w20_4 ⟨g4, rfl, hg4, B4, h20_4⟩
            refine ⟨_, rfl, ?_⟩
            have L20_4 := L20.trans h20_4
            refine ⟨fun _ => h20_4, ?_⟩
            refine GD.ef rfl rfl rfl rfl rfl ?_
            refine Ef.buildSliceN [_, _, _] Try.underlying211 el107 rfl one3 rfl (by decide) (by decide) ?_
            intro g20_7 w20_7 hg20_7 b20_7 h20_7
            have L20_7 := L20_4.trans h20_7
            refine ⟨fun _ => h20_7, ?_⟩
            refine GD.ef rfl rfl rfl rfl rfl ?_
            refine Ef.call go110 rfl rfl (concat_to (wrapB ks hs seed) 680 w20_7 (b20_7.sl (s := 1) (n := 3) rfl) (.cons ((B4.le h20_7).sb (be8_length _)) (.cons (i8.le L20_7).sb (.cons ((i6.le L20_7).sb hwl.2) (.nil _)))) (by rw [hwr, packetB]; simp) (by rw [hwr]; exact packetB_length _ _ hwl.1 hwl.2) (by decide) (by decide) (by decide)) ?_
            rintro _ w20_8 ⟨A8, c8, rfl, o8, h20_8⟩
            refine ⟨_, rfl, ?_⟩
            have L20_8 := L20_7.trans h20_8
            refine ⟨fun _ => h20_8, ?_⟩
            refine GD.any rfl rfl (.assign rfl) rfl rfl rfl ?_
            refine GD.any rfl rfl (.assign rfl) rfl rfl rfl ?_
            refine GD.nil ?_
            refine DE.thenN ?_
            refine DC.ret ?_
            refine retM_mark rfl rfl rfl (((L20_8.ch none).block D (Array.getElem?_eq_some_iff.1 hdef).1 (by simp)).trans hdef) ?_
            have hd8 := ((L20_8.ch none).block D (Array.getElem?_eq_some_iff.1 hdef).1 (by simp)).trans hdef
            exact ⟨(i1.trans L20_8).then_ (grownBy_putObj' _ D _) (fun q hq => by cases hq; exact Nat.le_trans hLs.size hD), .inl ⟨hok, A8, c8, rfl, (o8.mono (i1.trans L20_7).size).grown (by decide) (grownBy_putObj' _ D _) (fun q hq => by cases hq; exact ⟨_, hd8, rfl⟩)⟩⟩
    · refine W.rdg (Any.rd (.dec (.neq rfl rfl) (decide_eq_true (by omega))) _) rfl rfl rfl (rfl) rfl rfl ?_
      refine W.any (.pickF rfl rfl rfl) rfl rfl rfl ?_
      refine W.nil ?_
      refine E.thenN ?_
      refine WC.condT rfl ?_
      refine WC.seq ?_
      refine WC.region ?_
      refine W.any (.assign rfl) rfl rfl rfl ?_
      refine W.any (.assign rfl) rfl rfl rfl ?_
      refine W.nil ?_
      refine E.thenN ?_
      refine WC.ret ?_
      refine E.thenR ?_
      refine E.retM2 rfl rfl rfl ?_
      exact ⟨hL0.trans L1_7, .inr ⟨by rw [hk, Bool.true_and]; exact hopsOk_len ks hs (by omega), rfl⟩⟩
  · refine W.ef rfl rfl rfl ?_
    refine Ef.call go104 rfl rfl (way_F seed hse w0_1 (hK.le hL0) hks hn (by simpa using hk)) ?_
    rintro _ w1_2 ⟨rfl, h1_2⟩
    refine ⟨_, rfl, ?_⟩
    have L1_2 := LL.trans h1_2
    refine W.any (.move rfl) rfl rfl rfl ?_
    refine W.any (.extract rfl rfl) rfl rfl rfl ?_
    refine W.any (.extract rfl rfl) rfl rfl rfl ?_
    refine W.ef rfl rfl rfl ?_
    refine Ef.alloc z169 ?_
    intro g1_6 w1_6 hg1_6 b1_6 h1_6
    have L1_6 := L1_2.trans h1_6
    refine W.ef0 rfl rfl ?_
    refine Ef.store sz169 rfl rfl (b1_6) (by decide) (rfl) ?_
    intro w1_7 b1_7 h1_7
    have L1_7 : Le w0_1 w1_7 := L1_6.then_ h1_7 (fun q hq => by cases hq; exact Nat.le_trans h1_2.size hg1_6)
    refine W.any (.assign rfl) rfl rfl rfl ?_
    refine W.nil ?_
    refine E.thenN ?_
    refine WC.seq ?_
    refine WC.seq ?_
    refine WC.region ?_
    refine W.any (.move rfl) rfl rfl rfl ?_
    refine W.any (.not rfl) rfl rfl rfl ?_
    refine W.any (.move rfl) rfl rfl rfl ?_
    refine W.skip rfl rfl rfl (rfl) rfl rfl ?_
    refine W.skip rfl rfl rfl (rfl) rfl rfl ?_
    refine W.skip rfl rfl rfl (rfl) rfl rfl ?_
    refine W.skip rfl rfl rfl (rfl) rfl rfl ?_
    refine W.skip rfl rfl rfl (rfl) rfl rfl ?_
    refine W.any (.pickT rfl rfl rfl) rfl rfl rfl ?_
    refine W.nil ?_
    refine E.thenN ?_
    refine WC.condT rfl ?_
    refine WC.seq ?_
    refine WC.region ?_
    refine W.any (.assign rfl) rfl rfl rfl ?_
    refine W.any (.assign rfl) rfl rfl rfl ?_
    refine W.nil ?_
    refine E.thenN ?_
    refine WC.ret ?_
    refine E.thenR ?_
    refine E.retM2 rfl rfl rfl ?_
    exact ⟨hL0.trans L1_7, .inr ⟨by rw [show keysOk ks = false by simpa using hk, Bool.false_and], rfl⟩⟩
end Go.Proofs.Ytfgakofjkldcjaa

