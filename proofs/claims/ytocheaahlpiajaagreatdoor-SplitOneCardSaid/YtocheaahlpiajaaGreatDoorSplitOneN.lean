/- SplitOne: for every input the law answers true and leaves its arguments as they were. -/
import Derived.Test.YtocheaahlpiajaaGreatDoorSplitOneM
import Derived.RangeFuncNested
import Derived.RangeFuncBound
import Derived.RangeFuncCalls
import Derived.RangeFuncLeaves
import Derived.OrdersIn
set_option linter.unusedVariables false
set_option linter.unusedSimpArgs false
namespace Go.Sx
open Go Go.RowKit
section
variable {P : Program} {ops : Array Oper} {Q : Exit -> Act -> World -> Prop} {n l m : Nat}
abbrev rF (l : Nat) : Fence := Fence.wide.inRound l
theorem rows_in {row : String} {args : Array Value} {w : World} {R : Value -> World -> Prop} (h : Rows P row args w R) : RowsIn (rF l) m P row args w R := fun c cs _ => by
  obtain ⟨v, w', r, s⟩ := h c cs
  exact ⟨v, w', r, stepsIn_wide.2 s⟩
theorem Oper.wp_in {o : Oper} {a : Act} {w : World} {K : Act -> World -> Prop} (hnd : ∀ c, o.op ≠ .defer c) (h : o.wp P a w K Q) : o.wpIn (rF l) m P a w K Q := by
  refine ⟨fun _ _ => trivial, ?_⟩
  rw [Fence.inRound_round, Oper.semAt_some l _ _ hnd]
  unfold Oper.wp at h
  generalize (execOp a.eval o).run P w = r at *
  cases r with
  | ok x w' =>
    cases x <;> simp only [Oper.upon, Oper.uponIn] at h ⊢ <;>
      first
        | exact h
        | exact ⟨fun h => (by cases h), CallsIn.inRound l (callsIn_wide.2 h)⟩
        | exact ⟨fun h => (by cases h), rows_in h⟩
  | halt x w' => cases x <;> simp only [Oper.upon, Oper.uponIn] at h ⊢ <;> exact h
def noDf (o : Oper) : Bool := match o.op with | .defer _ => false | _ => true
theorem noDf_spec {o : Oper} (h : noDf o = true) : ∀ c, o.op ≠ .defer c := fun c hc => by unfold noDf at h; rw [hc] at h; cases h
theorem wpList_in (hlo : ¬ LetsOut Q) : ∀ (rest : List Oper) (a : Act) (w : World), rest.all noDf = true -> wpList P ops Q rest a w -> wpListIn (rF l) m P ops Q rest a w
  | [], _, _, _, h => h
  | o :: rest, a, w, hnd, h => by
    simp only [List.all_cons, Bool.and_eq_true] at hnd
    unfold wpList at h
    unfold wpListIn
    split
    · rename_i hw
      rw [if_pos hw] at h
      rcases h with h | ⟨_, h⟩
      · exact Oper.wp_in (noDf_spec hnd.1) (Oper.wp_mono (fun a' w' h' => wpList_in hlo rest a' w' hnd.2 h') h)
      · exact absurd h hlo
    · rename_i hw
      rw [if_neg hw] at h
      exact ⟨fun _ _ => trivial, wpList_in hlo rest _ _ hnd.2 h⟩
theorem wpOp_in (hlo : ¬ LetsOut Q) (hnd : ops.toList.all noDf = true) {i : Nat} {K : Act -> World -> Prop} {a : Act} {w : World} (h : wpOp P ops Q i K a w) : wpOpIn (rF l) m P ops Q i K a w := by
  unfold wpOp at h
  unfold wpOpIn
  split
  · rename_i ho; simpa [ho] using h
  · rename_i o ho
    simp only [ho] at h
    have hno : noDf o = true := by
      rw [List.all_eq_true] at hnd
      exact hnd o (by rw [Array.mem_toList_iff]; exact Array.mem_of_getElem? ho)
    split
    · rename_i hw
      rw [if_pos hw] at h
      rcases h with h | ⟨_, h⟩
      · exact Oper.wp_in (noDf_spec hno) h
      · exact absurd h hlo
    · rename_i hw
      rw [if_neg hw] at h
      exact ⟨fun _ _ => trivial, h⟩
theorem wpAny_in (hlo : ¬ LetsOut Q) (hnd : ops.toList.all noDf = true) : ∀ (fuel : Nat) (listed : Array Bool) (a : Act) (w : World), wpAny P .any ops Q fuel listed a w -> wpAnyIn (rF l) m P .any ops Q fuel listed a w
  | 0, _, _, _, h => h
  | fuel + 1, _, _, _, h => ⟨h.1, fun i hi => wpOpIn_mono (fun a' w' h' => wpAny_in hlo hnd fuel _ a' w' h') (wpOp_in hlo hnd (h.2 i hi))⟩
def RC (P : Program) (Q : Exit -> Act -> World -> Prop) (n l m : Nat) (c : Code) (env : Env) (w : World) : Prop := ∀ a, Rep a n env -> c.wpIn (rF l) m P Q a w
theorem RC.seq {env : Env} {w : World} {x y : Code} (h : RC P (Exit.then (y.wpIn (rF l) m P Q) Q) n l m x env w) : RC P Q n l m (.seq x y) env w := fun a ha => wpIn_seq (h a ha)
theorem RC.thenN {env : Env} {w : World} {y : Code} {Q Q' : Exit -> Act -> World -> Prop} (h : RC P Q n l m y env w) : E (Exit.then (y.wpIn (rF l) m P Q) Q') n .normal env w := h
theorem RC.region {env : Env} {w : World} {id : Nat} {L : List Oper} (hnd : L.all noDf = true) (hlo : ¬ LetsOut Q) (h : W P L.toArray Q n L env w) : RC P Q n l m (.region id L.toArray false) env w := fun a ha => wpIn_region_lit (wpList_in hlo L a w hnd (h a ha))
theorem RC.draw {env : Env} {w : World} {id : Nat} (plan : List Nat) (hm : P.follows .mixedOrders = true) (hp : planOK ops plan = true) (hnd : ops.toList.all noDf = true)
    (h : ∀ w', Le w w' -> G P ops Q n plan env w') : RC P Q n l m (.region id ops true) env w := fun a ha => by
  simp only [planOK, Bool.and_eq_true, beq_iff_eq] at hp
  obtain ⟨⟨hl, hs⟩, hp⟩ := hp
  have := plan_main hs plan _ a _ (Cl.none _) hp (h _ (Le.drew w) a ha)
  rw [hl] at this
  refine wpIn_mono (wpIn_region_any hm (wpAny_in (fun ⟨_, _, hf⟩ => by cases hf.1) hnd _ _ _ _ (wpAny_of_C _ _ _ _ this))) ?_
  rintro e a w ⟨rfl, hq⟩
  exact hq
theorem RC.block {env : Env} {w : World} {id : Nat} {c : Code} (h : RC P (Exit.inBlock id Q) n l m c env w) : RC P Q n l m (.block id c) env w := fun a ha => wpIn_block (h a ha)
theorem RC.skip {env : Env} {w : World} (h : E Q n .normal env w) : RC P Q n l m .skip env w := fun a ha => wpIn_skip (h a ha)
theorem RC.condB {env : Env} {w : World} {c : Operand} {x y : Code} {b : Bool} (hc : ev env c = some (.bool b)) (ht : b = true -> RC P Q n l m x env w) (hf : b = false -> RC P Q n l m y env w) :
    RC P Q n l m (.cond c x y) env w := fun a ha => wpIn_cond_split (ha.eval hc) (fun h => ht h a ha) (fun h => hf h a ha)
theorem RC.cond {env : Env} {w : World} {c : Operand} {x y : Code} {p : Prop} [Decidable p] (hc : ev env c = some (.bool (decide p))) (ht : p -> RC P Q n l m x env w) (hf : ¬ p -> RC P Q n l m y env w) :
    RC P Q n l m (.cond c x y) env w := .condB hc (fun h => ht (of_decide_eq_true h)) (fun h => hf (of_decide_eq_false h))
theorem enterM {f : FuncId} {fn : Func} {c : Code} {args : List Value} {w : World} {R : Ending -> World -> Prop} (hf : P.funcs[f]? = some fn) (hb : fn.body = some c) (hl : Nat.ble args.length fn.ntmps = true)
    (h : WC P (bodyPostM Fence.wide 3 P fn R) fn.ntmps c (envOfArgs 0 args) w) : Calls P f args.toArray w R := by
  have hl' : args.length <= fn.ntmps := Nat.le_of_ble_eq_true hl
  refine (callsIn_wide (n := 3)).1 (callsIn_of_wp_marks hf hb trivial (wpIn_wide.2 (h _ ⟨rfl, ?_, fun i v hv => ?_⟩)))
  · simp; omega
  · obtain ⟨_, h2⟩ := look_envOfArgs args 0 i v hv
    simp only [Nat.sub_zero] at h2
    rw [Array.getElem?_append_left (by simpa using (List.getElem?_eq_some_iff.1 h2).1)]
    simpa using h2
def DE (Q : Exit -> Act -> World -> Prop) (n : Nat) (ds : List Deferred) (ex : Exit) (env : Env) (w : World) : Prop := ∀ a, Rep a n env -> Q ex { a with defers := ds } w
def mk (D : Nat) : List Deferred := [{ target := .collected D, args := #[] }]
theorem put_defers (a : Act) (ds : List Deferred) (d : Option Tmp) (v : Value) : ({ a with defers := ds } : Act).put d v = { a.put d v with defers := ds } := by cases d <;> rfl
theorem wp_defers {o : Oper} {a : Act} {w : World} {K : Value -> World -> Prop} {ds : List Deferred} (h : o.wp P a w (fun a' w' => ∃ v, a' = a.put o.dst v /\ K v w') noQ) :
    o.wp P { a with defers := ds } w (fun a' w' => ∃ v, a' = { a.put o.dst v with defers := ds } /\ K v w') noQ := by
  unfold Oper.wp at *
  have e : (execOp ({ a with defers := ds } : Act).eval o).run P w = (execOp a.eval o).run P w := rfl
  rw [e]
  have pd : ∀ (b : Act) (d : Option Tmp) (v : Value), (b.put d v).defers = b.defers := fun b d v => by cases d <;> rfl
  have inj : ∀ v v', a.put o.dst v = a.put o.dst v' -> ({ a.put o.dst v with defers := ds } : Act) = { a.put o.dst v' with defers := ds } := fun v v' h => by rw [h]
  generalize (execOp a.eval o).run P w = r at *
  cases r with
  | ok x w' =>
    cases x <;> simp only [Oper.upon] at h ⊢ <;> try exact h
    case value v => obtain ⟨v', h1, h2⟩ := h; exact ⟨v', by rw [put_defers]; exact inj _ _ h1, h2⟩
    case skip => obtain ⟨v', h1, h2⟩ := h; exact ⟨v', by rw [put_defers]; exact inj _ _ h1, h2⟩
    case defer d =>
      obtain ⟨v, h1, _⟩ := h
      have h2 := congrArg (fun b : Act => b.defers.length) h1
      simp only [pd, List.length_cons] at h2
      omega
    case enter f args =>
      refine Calls.mono h fun e w'' he => ?_
      cases e with
      | returned v => obtain ⟨v', h1, h2⟩ := he; exact ⟨v', by rw [put_defers]; exact inj _ _ h1, h2⟩
      | panicked c => exact he.elim
      | outgrown => obtain ⟨_, _, hf⟩ := he; exact hf.elim
    case row row args =>
      refine Rows.mono h fun v w'' he => ?_
      obtain ⟨v', h1, h2⟩ := he
      exact ⟨v', by rw [put_defers]; exact inj _ _ h1, h2⟩
  | halt x w' => cases x <;> simp only [Oper.upon] at h ⊢ <;> exact h.elim
theorem DE.blkN {ds : List Deferred} {env : Env} {w : World} {id : Nat} (h : DE Q n ds .normal env w) : DE (Exit.inBlock id Q) n ds .normal env w := h
def GD (P : Program) (ops : Array Oper) (Q : Exit -> Act -> World -> Prop) (n : Nat) (ds : List Deferred) (plan : List Nat) (env : Env) (w : World) : Prop := ∀ a, Rep a n env -> wpG P ops Q plan { a with defers := ds } w
theorem GD.nil {ds : List Deferred} {env : Env} {w : World} (h : DE Q n ds .normal env w) : GD P ops Q n ds [] env w := h
theorem GD.any {ds : List Deferred} {env : Env} {w : World} {i : Nat} {o : Oper} {plan : List Nat} {v : Value} {d : Nat} (ho : ops[i]? = some o) (hk : kd o.op = 0) (hr : Any P env n o v) (hg : o.guard = none) (hd : o.dst = some d)
    (hn : Nat.blt d n = true) (h : GD P ops Q n ds plan ((d, v) :: env) w) : GD P ops Q n ds (i :: plan) env w := fun a ha =>
  ⟨o, ho, by
    rw [if_neg (by rw [hk]; decide)]
    refine ⟨v, .inl ⟨by unfold Region.wanted; rw [hg], fun w' _ => hr a ha w'⟩, ?_⟩
    rw [put_defers, hd]
    exact h _ (ha.put hn v)⟩
theorem GD.rd {ds : List Deferred} {env : Env} {w : World} {i : Nat} {o : Oper} {plan : List Nat} {v : Value} {d : Nat} (ho : ops[i]? = some o) (hk : kd o.op = 1) (hr : Rd P w env n o v) (hg : o.guard = none) (hd : o.dst = some d)
    (hn : Nat.blt d n = true) (h : GD P ops Q n ds plan ((d, v) :: env) w) : GD P ops Q n ds (i :: plan) env w := fun a ha =>
  ⟨o, ho, by
    rw [if_neg (by rw [hk]; decide)]
    refine ⟨v, .inl ⟨by unfold Region.wanted; rw [hg], fun w' hw => hr a ha w' (hw hk)⟩, ?_⟩
    rw [put_defers, hd]
    exact h _ (ha.put hn v)⟩
theorem GD.ef {ds : List Deferred} {env : Env} {w : World} {i : Nat} {o : Oper} {plan : List Nat} {d : Nat} (ho : ops[i]? = some o) (hk : kd o.op = 2) (hg : o.guard = none) (hd : o.dst = some d) (hn : Nat.blt d n = true)
    (h : Ef P env n o w fun v w' => ((nS ops i || plan.any (nS ops)) = true -> Le w w') /\ GD P ops Q n ds plan ((d, v) :: env) w') : GD P ops Q n ds (i :: plan) env w := fun a ha =>
  ⟨o, ho, by
    rw [if_pos hk]
    unfold wpOp
    simp only [ho]
    rw [if_pos (by unfold Region.wanted; rw [hg])]
    left
    exact Oper.wp_mono (fun a' w' ⟨v, h1, h2, h3⟩ => ⟨h2, by subst h1; rw [hd]; exact h3 _ (ha.put hn v)⟩) (wp_defers (h a ha))⟩
def DC (P : Program) (Q : Exit -> Act -> World -> Prop) (n : Nat) (ds : List Deferred) (c : Code) (env : Env) (w : World) : Prop := ∀ a, Rep a n env -> c.wp P Q { a with defers := ds } w
theorem DC.draw {ds : List Deferred} {env : Env} {w : World} {id : Nat} (plan : List Nat) (hm : P.follows .mixedOrders = true) (hp : planOK ops plan = true)
    (h : ∀ w', Le w w' -> GD P ops Q n ds plan env w') : DC P Q n ds (.region id ops true) env w := fun a ha => wp_draw plan hm hp (h _ (Le.drew w) a ha)
theorem DC.seq {ds : List Deferred} {env : Env} {w : World} {x y : Code} (h : DC P (Exit.then (y.wp P Q) Q) n ds x env w) : DC P Q n ds (.seq x y) env w := fun a ha => wp_seq (h a ha)
theorem DE.thenN {ds : List Deferred} {env : Env} {w : World} {y : Code} {Q Q' : Exit -> Act -> World -> Prop} (h : DC P Q n ds y env w) : DE (Exit.then (y.wp P Q) Q') n ds .normal env w := h
theorem DC.ret {ds : List Deferred} {env : Env} {w : World} (h : DE Q n ds .ret env w) : DC P Q n ds .ret env w := fun a ha => wp_ret (h a ha)
theorem KeepsFrom.of_le {B : Nat} {w w' : World} (h : Le w w') : KeepsFrom B w w' := ⟨h.size, fun k o _ hk _ => by
  have hlt := (Array.getElem?_eq_some_iff.1 hk).1
  exact (h.ch none).block k hlt (by simp) |>.trans hk⟩
theorem KeepsFrom.of_ch {B g : Nat} {t : TypeId} {cs : Array Value} {w w' : World} (h : Ch w w' (some g)) (hB : Blk w g t cs) : KeepsFrom B w w' := ⟨h.size, fun k o _ hk ho => by
  have hlt := (Array.getElem?_eq_some_iff.1 hk).1
  refine (h.block k hlt ?_).trans hk
  intro he
  injection he with he
  subst he
  have : w.heap[k]? = _ := hB
  rw [this] at hk
  injection hk with hk
  subst hk
  cases ho⟩
theorem row_ne {w : World} {row : Option Nat} (hr : ∀ r, row = some r -> ∃ o : Obj, w.heap[r]? = some o /\ o.isCells = false) {g : Nat} {t : TypeId} {cs : Array Value} (hB : Blk w g t cs) : row ≠ some g := fun he => by
  obtain ⟨o, ho, hc⟩ := hr g he
  have : w.heap[g]? = _ := hB
  rw [this] at ho
  injection ho with ho
  subst ho
  cases hc
theorem Blk.grown {w w' : World} {row : Option Nat} {g : Nat} {t : TypeId} {cs : Array Value} (h : Blk w g t cs) (hg : w.grownBy w' row) (hr : ∀ r, row = some r -> ∃ o : Obj, w.heap[r]? = some o /\ o.isCells = false) : Blk w' g t cs := h.ch hg (row_ne hr h)
theorem Own.grown {w w' : World} {row : Option Nat} {base e s : Nat} {A : Option Addr} {k c : Nat} {xs : List Value} (h : Own w base e s A k c xs) (hk : 0 < k) (hg : w.grownBy w' row) (hr : ∀ r, row = some r -> ∃ o : Obj, w.heap[r]? = some o /\ o.isCells = false) : Own w' base e s A k c xs :=
  h.ch hg fun g hgr he => by
    obtain ⟨g', rfl, _, _, hrow⟩ := h.lit hk
    obtain ⟨cur, hB, _⟩ := h.block hk
    rw [hrow] at he
    injection he with he
    subst he
    exact row_ne hr hB hgr
def WI (P : Program) (ops : Array Oper) (Q : Exit -> Act -> World -> Prop) (n : Nat) (rest : List Oper) (env : Env) (w : World) : Prop := ∀ a, Rep a n env -> wpListIn Fence.wide 2 P ops Q rest a w
theorem WC.regionI {env : Env} {w : World} {id : Nat} {L : List Oper} (h : WI P L.toArray Q n L env w) : WC P Q n (.region id L.toArray false) env w := fun a ha => wpIn_wide.1 (wpIn_region_lit (h a ha))
theorem WI.nil {env : Env} {w : World} (h : E Q n .normal env w) : WI P ops Q n [] env w := fun a ha => h a ha
theorem WI.rd {env : Env} {w : World} {o : Oper} {rest : List Oper} {v : Value} {d : Nat} (hr : Rd P w env n o v) (hg : o.guard = none) (hd : o.dst = some d) (hn : Nat.blt d n = true) (_hnd : noDf o = true)
    (h : WI P ops Q n rest ((d, v) :: env) w) : WI P ops Q n (o :: rest) env w := fun a ha =>
  wpListIn_plain hg fun K hK => by
    refine ⟨fun _ _ => trivial, ?_⟩
    show o.uponIn Fence.wide 2 P a K Q ((o.semAt none a.eval).run P w)
    rw [Oper.semAt_none, hr a ha w (Le.refl w), Oper.uponIn_value, hd]
    exact hK _ _ (h _ (ha.put hn v))
theorem WI.any {env : Env} {w : World} {o : Oper} {rest : List Oper} {v : Value} {d : Nat} (hr : Any P env n o v) (hg : o.guard = none) (hd : o.dst = some d) (hn : Nat.blt d n = true) (hnd : noDf o = true)
    (h : WI P ops Q n rest ((d, v) :: env) w) : WI P ops Q n (o :: rest) env w := WI.rd (hr.rd w) hg hd hn hnd h
theorem WI.yield {env : Env} {w : World} {rest : List Oper} {d l : Nat} {f : Operand} {args : Array Operand} {ats : Array TypeId} {T : TypeId} {p : String} {af : Array Edge} {vs : List Value} {R : Ending -> World -> Prop}
    (hf : ev env f = some (.func (.yield l) #[] #[])) (ha : evs env args.toList = some vs) (hn : Nat.blt d n = true) (hy : YieldAt Fence.wide 1 P l vs.toArray w R)
    (h : ∀ e w', R e w' -> ∃ v, e = .returned v /\ WI P ops Q n rest ((d, v) :: env) w') : WI P ops Q n (⟨some d, .call ⟨.value f, args, ats⟩, T, p, af, none⟩ :: rest) env w := fun a hr =>
  wpListIn_plain rfl fun K hK => by
    refine ⟨fun _ _ => trivial, ?_⟩
    obtain ⟨fn, tmps, assign, body, hrun, hR⟩ := hy
    have hargs : args.map a.eval = vs.toArray := by rw [<- hr.evals ha]; apply Array.ext'; simp
    have e : ((⟨some d, .call ⟨.value f, args, ats⟩, T, p, af, none⟩ : Oper).semAt none a.eval).run P w = .ok (.round l fn tmps assign body) w := by
      rw [Oper.semAt_none]
      simp [execOp, resolve, Deferred.ofValue, hr.eval hf, invoke, hargs, hrun]
    show Oper.uponIn Fence.wide 2 P _ a K Q _
    rw [show (Fence.wide).round = none from rfl, e, Oper.uponIn_round]
    refine ⟨fun h => (by cases h), hR.mono fun e w' he => ?_⟩
    obtain ⟨v, rfl, hw⟩ := h e w' he
    exact hK _ _ (hw _ (hr.put hn v))
theorem WC.range {α : Type} {env : Env} {w : World} {g p1 p2 : Nat} {assign body : Code} {gf : Nat} {lb : Array Value} (hg : look env g = some (.func (.func gf) #[] lb)) (eg : IsGo P gf) (h1 : Nat.blt p1 n = true) (h2 : Nat.blt p2 n = true)
    {e1 e2 : α -> Value} {Kp : World -> World -> Prop} {N : Nat} {S : List α -> Prop} (hseq : SeqStopsK Fence.wide 2 P gf lb (fun x => #[e1 x, e2 x]) Kp S (fun _ => True) N w)
    (hKt : ∀ {A B C : World}, Kp A B -> Kp B C -> Kp A C) (hKb : ∀ (W : World) (l : Nat) (o o' : Obj), w.heap.size <= l -> W.heap[l]? = some o -> o.isCells = false -> o.isWalk = false -> Kp W (W.putObj l o'))
    (I : List α -> World -> Prop) (hI : OwnFrom w.heap.size I) (h0 : I [] w) (envB : α -> Nat -> Env) (Bx : α -> Nat -> World -> Prop) (hBx : ∀ x b, OwnFrom w.heap.size (fun (_ : Unit) W => Bx x b W))
    (hassign : ∀ (l : Nat) (pre : List α) (x : α) (W : World), I pre W -> RC P (Exit.then (fun a' W' => ∃ b, Rep a' n (envB x b) /\ Bx x b W' /\ KeepsFrom w.heap.size W W' /\ Kp W W' /\ I pre W') (fun _ _ _ => False)) n l 1 assign ((p2, e2 x) :: (p1, e1 x) :: env) W)
    (hbody : ∀ (l : Nat) (pre : List α) (x : α) (b : Nat) (W : World), I pre W -> Bx x b W -> pre.length < N -> RC P (ownPostG w.heap.size Kp I (fun _ _ _ => False) (pre ++ [x]) W) n l 1 body (envB x b) W)
    (hdone : ∀ (D : Nat) (xs : List α) (W : World), w.heap.size <= D -> S xs -> I xs W -> W.heap[D]? = some (.deferred (some [])) -> DE Q n (mk D) .normal env W) :
    WC P Q n (.rangeFunc (.tmp g) #[p1, p2] assign body) env w := fun a ha => by
  refine (wpIn_wide (n := 3)).1 (wpIn_rangeFunc_ownH rfl (by decide) (ha.eval (x := .tmp g) hg) trivial eg.run hseq hKt hKb (Below.refl _ _) (fun _ => rfl) I (fun _ _ _ => False) hI (fun _ _ _ _ _ hs _ _ => hs) h0
    (fun x a' W => ∃ b, Rep a' n (envB x b) /\ Bx x b W) ?_ ?_ ?_ ?_ ?_)
  · rintro x a' ⟨⟩ W W' row ⟨b, hr, hb⟩ hg' hrow
    exact ⟨b, hr, hBx x b () W W' row hb hg' hrow⟩
  · intro l pre x W K hi hK
    have hR : Rep { tmps := ((#[p1, p2] : Array Tmp).zip #[e1 x, e2 x]).foldl (fun t (p, v) => t.setIfInBounds p v) a.tmps, defers := [] } n ((p2, e2 x) :: (p1, e1 x) :: env) := by
      have := ((show Rep { a with defers := [] } n env from ⟨rfl, ha.2.1, ha.2.2⟩).put h1 (e1 x)).put h2 (e2 x)
      have hz : ((#[p1, p2] : Array Tmp).zip #[e1 x, e2 x]) = #[(p1, e1 x), (p2, e2 x)] := by apply Array.ext'; simp
      rw [hz]
      simpa [Act.put] using this
    refine wpIn_mono (hassign l pre x W hi _ hR) fun e a' W' h => ?_
    cases e with
    | normal => obtain ⟨b, hr, hb, hk, hp, hi'⟩ := h; exact hK a' W' hk hp hi' ⟨b, hr, hb⟩
    | exit id => exact h.elim
    | goto l => exact h.elim
    | ret => exact h.elim
    | panic c => exact h.elim
    | outgrown => exact h.elim
  · rintro l pre x a' W _ _ hi ⟨b, hr, hb⟩ hlt
    exact hbody l pre x b W hi hb hlt a' hr
  · intro D xs W hD hS hi hdef
    have := hdone D xs W hD hS hi hdef a ha
    rw [ha.1]
    exact this
  · intro D c pre W _ _ h _
    exact h.elim
end
end Go.Sx

namespace Go.Sx
open Go Go.RowKit
section
variable {P : Program} {ops : Array Oper} {Q : Exit -> Act -> World -> Prop} {n l m : Nat}
def DW (P : Program) (ops : Array Oper) (Q : Exit -> Act -> World -> Prop) (n : Nat) (ds : List Deferred) (rest : List Oper) (env : Env) (w : World) : Prop := ∀ a, Rep a n env -> wpList P ops Q rest { a with defers := ds } w
variable {ds : List Deferred}
theorem DW.nil {env : Env} {w : World} (h : DE Q n ds .normal env w) : DW P ops Q n ds [] env w := fun a ha => h a ha
theorem DW.rd {env : Env} {w : World} {o : Oper} {rest : List Oper} {v : Value} {d : Nat} (hr : Rd P w env n o v) (hg : o.guard = none) (hd : o.dst = some d) (hn : Nat.blt d n = true)
    (h : DW P ops Q n ds rest ((d, v) :: env) w) : DW P ops Q n ds (o :: rest) env w := fun a ha =>
  wpList_plain hg fun K hK => by
    unfold Oper.wp
    rw [show (execOp ({ a with defers := ds } : Act).eval o).run P w = _ from hr a ha w (Le.refl w), Oper.upon_value, put_defers, hd]
    exact hK _ _ (h _ (ha.put hn v))
theorem DW.any {env : Env} {w : World} {o : Oper} {rest : List Oper} {v : Value} {d : Nat} (hr : Any P env n o v) (hg : o.guard = none) (hd : o.dst = some d) (hn : Nat.blt d n = true)
    (h : DW P ops Q n ds rest ((d, v) :: env) w) : DW P ops Q n ds (o :: rest) env w := DW.rd (hr.rd w) hg hd hn h
theorem DW.ef {env : Env} {w : World} {o : Oper} {rest : List Oper} {d : Nat} (hg : o.guard = none) (hd : o.dst = some d) (hn : Nat.blt d n = true)
    (h : Ef P env n o w fun v w' => DW P ops Q n ds rest ((d, v) :: env) w') : DW P ops Q n ds (o :: rest) env w := fun a ha =>
  wpList_plain hg fun K hK => Oper.wp_noQ (Oper.wp_mono (fun a' w' ⟨v, h1, h2⟩ => hK _ _ (by subst h1; rw [hd]; exact h2 _ (ha.put hn v))) (wp_defers (h a ha)))
theorem DW.ef0 {env : Env} {w : World} {o : Oper} {rest : List Oper} (hg : o.guard = none) (hd : o.dst = none)
    (h : Ef P env n o w fun _ w' => DW P ops Q n ds rest env w') : DW P ops Q n ds (o :: rest) env w := fun a ha =>
  wpList_plain hg fun K hK => Oper.wp_noQ (Oper.wp_mono (fun a' w' ⟨v, h1, h2⟩ => hK _ _ (by subst h1; rw [hd]; exact h2 _ ha)) (wp_defers (h a ha)))
theorem DW.rdg {env : Env} {w : World} {o : Oper} {rest : List Oper} {v : Value} {d j dj : Nat} {b want : Bool} (hr : Rd P w env n o v) (hg : o.guard = some (j, want)) (hj : (ops[j]?).bind (·.dst) = some dj)
    (hv : look env dj = some (.bool b)) (hb : b = want) (hd : o.dst = some d) (hn : Nat.blt d n = true)
    (h : DW P ops Q n ds rest ((d, v) :: env) w) : DW P ops Q n ds (o :: rest) env w := fun a ha => by
  refine wpList_step fun K hK => ?_
  rw [show Region.wanted o (yielded ops ({ a with defers := ds } : Act).tmps) = _ from wanted_of ha hg hj hv, hb]
  simp only [beq_self_eq_true, if_true]
  unfold Oper.wp
  rw [show (execOp ({ a with defers := ds } : Act).eval o).run P w = _ from hr a ha w (Le.refl w), Oper.upon_value, put_defers, hd]
  exact hK _ _ (h _ (ha.put hn v))
theorem DW.skip {env : Env} {w : World} {o : Oper} {rest : List Oper} {d j dj : Nat} {b want : Bool} (hg : o.guard = some (j, want)) (hj : (ops[j]?).bind (·.dst) = some dj)
    (hv : look env dj = some (.bool b)) (hb : b = !want) (hd : o.dst = some d) (hn : Nat.blt d n = true)
    (h : DW P ops Q n ds rest ((d, undef) :: env) w) : DW P ops Q n ds (o :: rest) env w := fun a ha => by
  refine wpList_step fun K hK => ?_
  rw [show Region.wanted o (yielded ops ({ a with defers := ds } : Act).tmps) = _ from wanted_of ha hg hj hv, hb, hd]
  have : ((!want) == want) = false := by cases want <;> rfl
  simp only [this, Bool.false_eq_true, if_false, put_defers]
  exact hK _ _ (h _ (ha.put hn undef))
theorem GD.ef0 {env : Env} {w : World} {i : Nat} {o : Oper} {plan : List Nat} (ho : ops[i]? = some o) (hk : kd o.op = 2) (hg : o.guard = none) (hd : o.dst = none)
    (h : Ef P env n o w fun _ w' => ((nS ops i || plan.any (nS ops)) = true -> Le w w') /\ GD P ops Q n ds plan env w') : GD P ops Q n ds (i :: plan) env w := fun a ha =>
  ⟨o, ho, by
    rw [if_pos hk]
    unfold wpOp
    simp only [ho]
    rw [if_pos (by unfold Region.wanted; rw [hg])]
    left
    exact Oper.wp_mono (fun a' w' ⟨v, h1, h2, h3⟩ => ⟨h2, by subst h1; rw [hd]; exact h3 _ ha⟩) (wp_defers (h a ha))⟩
theorem DC.region {env : Env} {w : World} {id : Nat} {L : List Oper} (h : DW P L.toArray Q n ds L env w) : DC P Q n ds (.region id L.toArray false) env w := fun a ha => wp_region_lit (h a ha)
theorem DC.skip {env : Env} {w : World} (h : DE Q n ds .normal env w) : DC P Q n ds .skip env w := fun a ha => wp_skip (h a ha)
theorem DC.condY {env : Env} {w : World} {c : Operand} {x y : Code} {b : Bool} (hc : ev env c = some (.bool b)) (hb : b = true) (ht : DC P Q n ds x env w) : DC P Q n ds (.cond c x y) env w := fun a ha => wp_cond_true (by rw [<- hb]; exact ha.eval hc) (ht a ha)
theorem DC.condN {env : Env} {w : World} {c : Operand} {x y : Code} {b : Bool} (hc : ev env c = some (.bool b)) (hb : b = false) (ht : DC P Q n ds y env w) : DC P Q n ds (.cond c x y) env w := fun a ha => wp_cond_false (by rw [<- hb]; exact ha.eval hc) (ht a ha)
theorem DC.condT {env : Env} {w : World} {c : Operand} {x y : Code} (hc : ev env c = some (.bool true)) (ht : DC P Q n ds x env w) : DC P Q n ds (.cond c x y) env w := fun a ha => wp_cond_true (ha.eval hc) (ht a ha)
theorem DC.condF {env : Env} {w : World} {c : Operand} {x y : Code} (hc : ev env c = some (.bool false)) (ht : DC P Q n ds y env w) : DC P Q n ds (.cond c x y) env w := fun a ha => wp_cond_false (ha.eval hc) (ht a ha)
theorem DE.thenR {env : Env} {w : World} {K : Act -> World -> Prop} (h : DE Q n ds .ret env w) : DE (Exit.then K Q) n ds .ret env w := h
theorem DE.blkR {env : Env} {w : World} {id : Nat} (h : DE Q n ds .ret env w) : DE (Exit.inBlock id Q) n ds .ret env w := h
theorem RC.exit {env : Env} {w : World} {id : Nat} (h : E Q n (.exit id) env w) : RC P Q n l m (.exit id) env w := fun a ha => wpIn_exit (h a ha)
theorem RC.ret {env : Env} {w : World} (h : E Q n .ret env w) : RC P Q n l m .ret env w := fun a ha => wpIn_ret (h a ha)
theorem RC.condT {env : Env} {w : World} {c : Operand} {x y : Code} (hc : ev env c = some (.bool true)) (ht : RC P Q n l m x env w) : RC P Q n l m (.cond c x y) env w := .condB hc (fun _ => ht) (fun h => by cases h)
theorem RC.condF {env : Env} {w : World} {c : Operand} {x y : Code} (hc : ev env c = some (.bool false)) (ht : RC P Q n l m y env w) : RC P Q n l m (.cond c x y) env w := .condB hc (fun h => by cases h) (fun _ => ht)
theorem RC.condY {env : Env} {w : World} {c : Operand} {x y : Code} {b : Bool} (hc : ev env c = some (.bool b)) (hb : b = true) (ht : RC P Q n l m x env w) : RC P Q n l m (.cond c x y) env w := .condT (by rw [hc, hb]) ht
theorem RC.condN {env : Env} {w : World} {c : Operand} {x y : Code} {b : Bool} (hc : ev env c = some (.bool b)) (hb : b = false) (ht : RC P Q n l m y env w) : RC P Q n l m (.cond c x y) env w := .condF (by rw [hc, hb]) ht
theorem OVec.grown {α : Type} {w w' : World} {row : Option Nat} {base e s : Nat} {f : α -> List Value} {A : Option Addr} {k c : Nat} {xs : List α} (h : OVec w base e f s A k c xs) (hg : w.grownBy w' row) (hr : ∀ r, row = some r -> ∃ o : Obj, w.heap[r]? = some o /\ o.isCells = false) : OVec w' base e f s A k c xs := by
  refine ⟨h.1, ?_⟩
  rcases h.2.2 with ⟨rfl, rfl⟩ | ⟨g, cur, rfl, hb, hh, hnc, hcm, hcs, htake⟩
  · exact ⟨h.2.1, .inl ⟨rfl, rfl⟩⟩
  · exact ⟨h.2.1, .inr ⟨g, cur, rfl, hb, (Blk.grown (w := w) (w' := w') (cs := cur) (t := e) hh hg hr), hnc, hcm, hcs, htake⟩⟩
theorem KeepsFrom.of_own {α : Type} {B : Nat} {w w' : World} {base e s : Nat} {f : α -> List Value} {A : Option Addr} {k c : Nat} {xs : List α} (h : Ch w w' (rowOf A c)) (hO : OVec w base e f s A k c xs) : KeepsFrom B w w' := by
  rcases hO.2.2 with ⟨rfl, rfl⟩ | ⟨g, cur, rfl, hb, hh, hnc, hcm, hcs, htake⟩
  · rw [rowOf_zero] at h; exact KeepsFrom.of_le h.le_none
  · by_cases hc : c = 0
    · subst hc; rw [rowOf_zero] at h; exact KeepsFrom.of_le h.le_none
    · rw [show rowOf (some ⟨g, 0, none⟩) c = some g from rowOf_some g 0 c (by omega)] at h
      exact KeepsFrom.of_ch (t := e) (cs := cur) h hh
def Dob (w : World) (D : Nat) : Prop := w.heap[D]? = some (.deferred (some []))
theorem Dob.le {w w' : World} {D : Nat} (h : Dob w D) (hl : Le w w') : Dob w' D := hl.block h
theorem Dob.ch {w w' : World} {D : Nat} {r : Option Nat} (h : Dob w D) (hc : Ch w w' r) (hne : r ≠ some D) : Dob w' D :=
  (hc.block D (Array.getElem?_eq_some_iff.1 h).1 (Ne.symm hne)).trans h
theorem Dob.lt {w : World} {D : Nat} (h : Dob w D) : D < w.heap.size := (Array.getElem?_eq_some_iff.1 h).1
theorem Blk.ne_dob {w : World} {g t D : Nat} {cs : Array Value} (hB : Blk w g t cs) (hD : Dob w D) : some g ≠ some D := fun he => by
  injection he with he
  subst he
  have h1 : w.heap[g]? = _ := hB
  have h2 : w.heap[g]? = _ := hD
  rw [h1] at h2
  cases h2
theorem OVec.ne_dob {α : Type} {w : World} {base e s D : Nat} {f : α -> List Value} {A : Option Addr} {k c : Nat} {xs : List α} (hO : OVec w base e f s A k c xs) (hD : Dob w D) : rowOf A c ≠ some D := fun he => by
  rcases hO.2.2 with ⟨rfl, rfl⟩ | ⟨g, cur, rfl, hb, hh, hnc, hcm, hcs, htake⟩
  · rw [rowOf_zero] at he; cases he
  · have h1 := rowOf_lit he
    subst h1
    have h2 : w.heap[D]? = _ := hD
    rw [hh] at h2
    cases h2
theorem Dob.put {w : World} {D : Nat} (h : Dob w D) : w.grownBy (w.putObj D (.deferred none)) (some D) /\ ∀ r, some D = some r -> ∃ o : Obj, w.heap[r]? = some o /\ o.isCells = false :=
  ⟨grownBy_putObj' w D _, fun r e => by cases e; exact ⟨_, h, rfl⟩⟩
theorem E.retM1 {fn : Func} {R : Ending -> World -> Prop} {env : Env} {w : World} {r1 : ResultVar} {v1 : Value} (hr : fn.results = #[r1]) (h1 : ResIs P w env r1 v1) (h : R (.returned v1) w) : E (bodyPostM Fence.wide 3 P fn R) n .ret env w := fun a ha => by
  show LeavesInM Fence.wide 3 P fn a.tmps R a.defers .returning w
  rw [ha.1]
  exact ⟨v1, by rw [results_one, hr]; simp [h1.run ha], h⟩
theorem E.retMG2 {fn : Func} {R : Ending -> World -> Prop} {env : Env} {w : World} {r1 r2 : ResultVar} {v1 v2 : Value} (hr : fn.results = #[r1, r2]) (h1 : ResIs P w env r1 v1) (h2 : ResIs P w env r2 v2) (h : R (.returned (.tuple #[v1, v2])) w) : E (bodyPostM Fence.wide 3 P fn R) n .ret env w := fun a ha => by
  show LeavesInM Fence.wide 3 P fn a.tmps R a.defers .returning w
  rw [ha.1]
  exact ⟨.tuple #[v1, v2], by rw [results_one, hr]; simp [h1.run ha, h2.run ha], h⟩
theorem E.retM3 {fn : Func} {R : Ending -> World -> Prop} {env : Env} {w : World} {r1 r2 r3 : ResultVar} {v1 v2 v3 : Value} (hr : fn.results = #[r1, r2, r3]) (h1 : ResIs P w env r1 v1) (h2 : ResIs P w env r2 v2) (h3 : ResIs P w env r3 v3) (h : R (.returned (.tuple #[v1, v2, v3])) w) : E (bodyPostM Fence.wide 3 P fn R) n .ret env w := fun a ha => by
  show LeavesInM Fence.wide 3 P fn a.tmps R a.defers .returning w
  rw [ha.1]
  exact ⟨.tuple #[v1, v2, v3], by rw [results_one, hr]; simp [h1.run ha, h2.run ha, h3.run ha], h⟩
theorem DE.retM1 {fn : Func} {R : Ending -> World -> Prop} {env : Env} {w : World} {D : Nat} {r1 : ResultVar} {v1 : Value} (hr : fn.results = #[r1]) (hD : Dob w D) (h1 : ResIs P (w.putObj D (.deferred none)) env r1 v1) (h : R (.returned v1) (w.putObj D (.deferred none))) : DE (bodyPostM Fence.wide 3 P fn R) n (mk D) .ret env w := fun _ ha =>
  ⟨by simp, .inl ⟨D, _, rfl, run_takeDeferred hD, ⟨v1, by rw [results_one, hr]; simp [h1.run ha], h⟩⟩⟩
theorem DE.retMG2 {fn : Func} {R : Ending -> World -> Prop} {env : Env} {w : World} {D : Nat} {r1 r2 : ResultVar} {v1 v2 : Value} (hr : fn.results = #[r1, r2]) (hD : Dob w D) (h1 : ResIs P (w.putObj D (.deferred none)) env r1 v1) (h2 : ResIs P (w.putObj D (.deferred none)) env r2 v2) (h : R (.returned (.tuple #[v1, v2])) (w.putObj D (.deferred none))) : DE (bodyPostM Fence.wide 3 P fn R) n (mk D) .ret env w := fun _ ha =>
  ⟨by simp, .inl ⟨D, _, rfl, run_takeDeferred hD, ⟨.tuple #[v1, v2], by rw [results_one, hr]; simp [h1.run ha, h2.run ha], h⟩⟩⟩
theorem DE.retM3 {fn : Func} {R : Ending -> World -> Prop} {env : Env} {w : World} {D : Nat} {r1 r2 r3 : ResultVar} {v1 v2 v3 : Value} (hr : fn.results = #[r1, r2, r3]) (hD : Dob w D) (h1 : ResIs P (w.putObj D (.deferred none)) env r1 v1) (h2 : ResIs P (w.putObj D (.deferred none)) env r2 v2) (h3 : ResIs P (w.putObj D (.deferred none)) env r3 v3)
    (h : R (.returned (.tuple #[v1, v2, v3])) (w.putObj D (.deferred none))) : DE (bodyPostM Fence.wide 3 P fn R) n (mk D) .ret env w := fun _ ha =>
  ⟨by simp, .inl ⟨D, _, rfl, run_takeDeferred hD, ⟨.tuple #[v1, v2, v3], by rw [results_one, hr]; simp [h1.run ha, h2.run ha, h3.run ha], h⟩⟩⟩
theorem WC.rangeX {α : Type} {env : Env} {w : World} {g p1 p2 : Nat} {assign body : Code} {gf : Nat} {lb : Array Value} (hg : look env g = some (.func (.func gf) #[] lb)) (eg : IsGo P gf) (h1 : Nat.blt p1 n = true) (h2 : Nat.blt p2 n = true)
    {e1 e2 : α -> Value} {Kp : World -> World -> Prop} {N : Nat} {S Sp : List α -> Prop} (hseq : SeqStopsK Fence.wide 2 P gf lb (fun x => #[e1 x, e2 x]) Kp S Sp N w)
    (hKr : ∀ A : World, Kp A A) (hKt : ∀ {A B C : World}, Kp A B -> Kp B C -> Kp A C) (hKb : ∀ (W : World) (l : Nat) (o o' : Obj), w.heap.size <= l -> W.heap[l]? = some o -> o.isCells = false -> o.isWalk = false -> Kp W (W.putObj l o'))
    (I Jx : List α -> World -> Prop) (hI : OwnFrom w.heap.size I) (hJx : OwnFrom w.heap.size Jx) (h0 : I [] w) (envB : α -> Env)
    (hassign : ∀ (l : Nat) (x : α) (W : World), RC P (Exit.then (fun a' W' => Rep a' n (envB x) /\ W' = W) (fun _ _ _ => False)) n l 1 assign ((p2, e2 x) :: (p1, e1 x) :: env) W)
    (hbody : ∀ (l : Nat) (pre : List α) (x : α) (W : World), I pre W -> pre.length < N -> RC P (ownPostG w.heap.size Kp I (fun c pre W => c = .ret /\ Jx pre W) (pre ++ [x]) W) n l 1 body (envB x) W)
    (hdone : ∀ (D : Nat) (xs : List α) (W : World), w.heap.size <= D -> S xs -> I xs W -> Dob W D -> DE Q n (mk D) .normal env W)
    (hstop : ∀ (D : Nat) (xs : List α) (W : World), w.heap.size <= D -> Sp xs -> Jx xs W -> Dob W D -> DE Q n (mk D) .ret env W) :
    WC P Q n (.rangeFunc (.tmp g) #[p1, p2] assign body) env w := fun a ha => by
  refine (wpIn_wide (n := 3)).1 (wpIn_rangeFunc_ownH rfl (by decide) (ha.eval (x := .tmp g) hg) trivial eg.run hseq hKt hKb (Below.refl _ _) (fun _ => rfl) I (fun c pre W => c = .ret /\ Jx pre W) hI (fun c s W W' row hs hg' hr => ⟨hs.1, hJx s W W' row hs.2 hg' hr⟩) h0
    (fun x a' W => Rep a' n (envB x)) ?_ ?_ ?_ ?_ ?_)
  · rintro x a' ⟨⟩ W W' row hr hg' hrow
    exact hr
  · intro l pre x W K hi hK
    have hR : Rep { tmps := ((#[p1, p2] : Array Tmp).zip #[e1 x, e2 x]).foldl (fun t (p, v) => t.setIfInBounds p v) a.tmps, defers := [] } n ((p2, e2 x) :: (p1, e1 x) :: env) := by
      have := ((show Rep { a with defers := [] } n env from ⟨rfl, ha.2.1, ha.2.2⟩).put h1 (e1 x)).put h2 (e2 x)
      have hz : ((#[p1, p2] : Array Tmp).zip #[e1 x, e2 x]) = #[(p1, e1 x), (p2, e2 x)] := by apply Array.ext'; simp
      rw [hz]
      simpa [Act.put] using this
    refine wpIn_mono (hassign l x W _ hR) fun e a' W' h => ?_
    cases e with
    | normal =>
      obtain ⟨hr, rfl⟩ := h
      exact hK a' _ (KeepsFrom.refl _ _) (hKr _) hi hr
    | exit id => exact h.elim
    | goto l => exact h.elim
    | ret => exact h.elim
    | panic c => exact h.elim
    | outgrown => exact h.elim
  · rintro l pre x a' W _ _ hi hr hlt
    exact hbody l pre x W hi hlt a' hr
  · intro D xs W hD hS hi hdef
    have := hdone D xs W hD hS hi hdef a ha
    rw [ha.1]
    exact this
  · rintro D c pre W hD hS ⟨rfl, hj⟩ hdef
    have := hstop D pre W hD hS hj hdef a ha
    rw [ha.1]
    exact wpIn_ret this
end
end Go.Sx

namespace Go.Proofs.YtocheaahlpiajaaGreatDoor
open Tryz
open Go Go.Sx Go.Nsp
set_option maxRecDepth 20000
def finD (n j : Nat) (h : j <= n) : List (Fin n) := (List.range j).attach.map fun i => ⟨n - 1 - i.1, by have := List.mem_range.1 i.2; omega⟩
theorem finD_length (n j : Nat) (h : j <= n) : (finD n j h).length = j := by simp [finD]
theorem finD_at {n j : Nat} (h : j <= n) {i : Nat} (hi : i < j) : (finD n j h)[i]'(by rw [finD_length]; exact hi) = ⟨n - 1 - i, by omega⟩ := by simp [finD]
theorem finD_succ (n j : Nat) (h : j + 1 <= n) : finD n (j + 1) h = finD n j (by omega) ++ [⟨n - 1 - j, by omega⟩] := by
  apply List.ext_getElem (by rw [List.length_append, finD_length, finD_length]; rfl)
  intro i h1 h2
  rw [finD_length] at h1
  rw [finD_at h (by omega)]
  by_cases hij : i < j
  · rw [List.getElem_append_left (by rw [finD_length]; exact hij), finD_at _ hij]
  · have : i = j := by omega
    subst this
    rw [List.getElem_append_right (by rw [finD_length]; exact Nat.le_refl _)]
    simp [finD_length]
theorem mem_finD {n j : Nat} {h : j <= n} {x : Fin n} : x ∈ finD n j h ↔ n - j <= x.1 := by
  constructor
  · intro hx
    obtain ⟨i, hi, rfl⟩ := List.getElem_of_mem hx
    rw [finD_length] at hi
    rw [finD_at h hi]
    simp only
    omega
  · intro hx
    have hx2 := x.2
    refine List.mem_iff_getElem.2 ⟨n - 1 - x.1, by rw [finD_length]; omega, ?_⟩
    rw [finD_at h (by omega)]
    apply Fin.ext
    simp only
    omega
def KpV (gb t : Nat) (A : Option Addr) (n c : Nat) (xs : List Nat) (W W' : World) : Prop := (Blk W gb t #[.slice A n c] -> Blk W' gb t #[.slice A n c]) /\ (Vec W dv 1 A n xs -> Vec W' dv 1 A n xs)
theorem KpV.refl (gb t : Nat) (A : Option Addr) (n c : Nat) (xs : List Nat) (W : World) : KpV gb t A n c xs W W := ⟨id, id⟩
theorem KpV.trans {gb t : Nat} {A : Option Addr} {n c : Nat} {xs : List Nat} {X Y Z : World} (h : KpV gb t A n c xs X Y) (k : KpV gb t A n c xs Y Z) : KpV gb t A n c xs X Z := ⟨fun q => k.1 (h.1 q), fun q => k.2 (h.2 q)⟩
theorem Vec.grown {α : Type} {w w' : World} {row : Option Nat} {s n : Nat} {f : α -> List Value} {A : Option Addr} {xs : List α} (h : Vec w f s A n xs) (hg : w.grownBy w' row) (hr : ∀ r, row = some r -> ∃ o : Obj, w.heap[r]? = some o /\ o.isCells = false) : Vec w' f s A n xs := by
  refine ⟨h.1, h.2.1, fun j u hu => ?_⟩
  obtain ⟨ad, h1, h2⟩ := h.2.2 j u hu
  refine ⟨ad, h1, ?_⟩
  have hb := block_lt_of_cell h2
  unfold World.cell? at h2 ⊢
  rw [hg.block _ hb (fun he => ?_)]
  · exact h2
  · obtain ⟨o, ho, hc⟩ := hr _ he.symm
    rw [ho] at h2
    cases o <;> simp_all [Obj.isCells]
theorem KpV.put {gb t : Nat} {A : Option Addr} {n c : Nat} {xs : List Nat} {W : World} {q : Nat} {o o' : Obj} (_h : True) (h1 : W.heap[q]? = some o) (h2 : o.isCells = false) : KpV gb t A n c xs W (W.putObj q o') := by
  have hr : ∀ r, some q = some r -> ∃ o : Obj, W.heap[r]? = some o /\ o.isCells = false := fun r e => by cases e; exact ⟨o, h1, h2⟩
  exact ⟨fun h => h.grown (grownBy_putObj' W q o') hr, fun h => Vec.grown h (grownBy_putObj' W q o') hr⟩
theorem backD_ok {A : Option Addr} {n c : Nat} (w : World) : Calls prog 213 #[.slice A n c] w fun e w' => ∃ g, e = .returned (.func (.func 279) #[] #[.pointer (some ⟨g, 0, none⟩)]) /\ w.heap.size <= g /\ Blk w' g 59 #[.slice A n c] /\ Le w w' := by
 refine enter func213 rfl rfl ?_
 have L0 := Le.refl w
 refine WC.sr (W.ef rfl rfl rfl ?_)
 refine Ef.box rfl ?_
 intro g0_0 w0_0 hg0_0 b0_0 h0_0
 have L0_0 := L0.trans h0_0
 refine W.run 1 rfl (W.nx (WC.sr ?_))
 refine W.a (.makeFunc rfl) ?_
 refine W.run 1 rfl (W.nx (WC.ret ?_))
 refine E.ret1 rfl rfl ?_
 exact ⟨g0_0, rfl, hg0_0, b0_0, L0_0⟩
theorem backD_in {n gb c lp : Nat} {A : Option Addr} {xs : List Nat} (hn : n <= 1000000000) (J Jx : List (Fin n) -> World -> Prop)
  (hY : ∀ pre x W1, J pre W1 -> pre.length < n -> YieldAt Fence.wide 1 prog lp #[.int .i64 ((x.val : Nat) : Int), .int .u32 (((xs.getD x.val 0 : Nat)) : Int)] W1 fun e W' => (e = .returned (.bool true) /\ J (pre ++ [x]) W' /\ KpV gb 59 A n c xs W1 W') \/ (e = .returned (.bool false) /\ Jx (pre ++ [x]) W'))
  (w : World) (hB : Blk w gb 59 #[.slice A n c]) (hS : Vec w dv 1 A n xs) (h0 : J [] w) : Calls prog 279 #[.func (.yield lp) #[] #[], .pointer (some ⟨gb, 0, none⟩)] w fun e W' => (∃ v, e = .returned v) /\ ((∃ l, l = finD n n (Nat.le_refl n) /\ J l W') \/ (∃ pre, (∃ k, ∃ hk : k <= n, pre = finD n k hk) /\ Jx pre W')) := by
 refine enter func279 rfl rfl ?_
 refine WC.sr ?_
 refine W.r (.loadB na59 rfl (hB) (rfl)) ?_
 refine W.r (.len underlying59 rfl) ?_
 refine W.a (.sub rfl rfl (by omega)) ?_
 refine W.run 1 rfl (W.nx (WC.block ?_))
 refine WC.loop (ι := Nat) (fun k => [(0, .func (.yield lp) #[] #[]), (1, .pointer (some ⟨gb, 0, none⟩)), (3, .int .i64 ((n : Int) - 1 - (k : Int)))]) (fun k wl => ∃ hk : k <= n, J (finD n k hk) wl /\ KpV gb 59 A n c xs w wl) (fun k => n - k) 0 ?_ ?_ ?_
 ·exact .cons rfl (.cons rfl (.cons' rfl (int_eq (by omega)) (.nil _)))
 ·exact ⟨Nat.zero_le _, h0, KpV.refl _ _ _ _ _ _ _⟩
 rintro k wl ⟨hk, hJ, hkp⟩
 have hB := hkp.1 hB
 have hS := hkp.2 hS
 refine WC.seq (WC.sr (W.run 2 rfl (W.nx ?_)))
 refine WC.cond rfl (fun c0 => ?_) (fun c0 => ?_)
 ·have hk1 : k + 1 <= n := by omega
  have hi : (n : Int) - 1 - (k : Int) = ((n - 1 - k : Nat) : Int) := by omega
  have hl := hS.1
  refine WC.sn (WC.seq (WC.block (WC.seq ?_)))
  refine WC.regionI ?_
  refine WI.any (.move rfl) rfl rfl rfl rfl ?_
  refine WI.any (.move rfl) rfl rfl rfl rfl ?_
  refine WI.rd (.loadB na59 rfl (hB) (rfl)) rfl rfl rfl rfl ?_
  refine WI.any (.move rfl) rfl rfl rfl rfl ?_
  refine WI.any (.idxS (n - 1 - k) underlying59 sz273 rfl rfl (hS.isSome dv_row (by omega)) (hi) (by omega)) rfl rfl rfl rfl ?_
  refine WI.rd (.vone (v := .int .u32 (((xs.getD (n - 1 - k) 0 : Nat)) : Int)) na273 rfl hS dv_row (getS xs 0 (by omega)) rfl) rfl rfl rfl rfl ?_
  refine WI.yield rfl rfl rfl (by rw [hi]; exact hY (finD n k hk) ⟨n - 1 - k, by omega⟩ _ hJ (by rw [finD_length]; omega)) ?_
  rintro _ w3_6 (⟨rfl, hJ', hk'⟩ | ⟨rfl, hJx'⟩)
  ·refine ⟨_, rfl, ?_⟩
   refine WI.any (.not rfl) rfl rfl rfl rfl ?_
   refine WI.nil ?_
   refine E.thenN (WC.condF rfl (WC.skip (E.blkN (E.thenN (WC.region (W.run 1 rfl ?_))))))
   refine W.a (.sub rfl rfl (by omega)) ?_
   refine W.run 1 rfl (W.nil ?_)
   refine E.again (k + 1) (.cons rfl (.cons rfl (.cons' rfl (int_eq (by omega)) (.nil _)))) ?_ ?_
   ·exact ⟨hk1, by rw [finD_succ]; exact hJ', hkp.trans hk'⟩
   first | omega | (simp only []; omega)
  refine ⟨_, rfl, ?_⟩
  refine WI.any (.not rfl) rfl rfl rfl rfl ?_
  refine WI.nil ?_
  refine E.thenN (WC.condT rfl (WC.ret (E.blkR (E.thenR (E.thenR (E.blkR ?_))))))
  refine E.ret0 rfl ?_
  exact ⟨⟨_, rfl⟩, .inr ⟨_, ⟨k + 1, hk1, (finD_succ n k hk1).symm⟩, hJx'⟩⟩
 have hkn : n = k := by omega
 subst hkn
 refine WC.exit (E.thenX (E.thenX (E.blkH (E.end_ ?_))))
 refine E.ret0 rfl ?_
 exact ⟨⟨_, rfl⟩, .inl ⟨_, rfl, hJ⟩⟩
theorem backD_seq {n gb c : Nat} {A : Option Addr} {xs : List Nat} (hn : n <= 1000000000) (w : World) (hB : Blk w gb 59 #[.slice A n c]) (hS : Vec w dv 1 A n xs) :
    SeqStopsK (α := Fin n) Fence.wide 2 prog 279 #[.pointer (some ⟨gb, 0, none⟩)] (fun x => #[.int .i64 ((x.val : Nat) : Int), .int .u32 (((xs.getD x.val 0 : Nat)) : Int)]) (KpV gb 59 A n c xs) (fun l => l = finD n n (Nat.le_refl n)) (fun pre => ∃ k, ∃ hk : k <= n, pre = finD n k hk) n w :=
  fun lp J Jx W hW _ _ hY h0 => callsIn_wide.2 (backD_in hn J Jx hY W (hB.le hW) (hS.le hW) h0)
end Go.Proofs.YtocheaahlpiajaaGreatDoor

namespace Go.Proofs.YtocheaahlpiajaaGreatDoor
open Tryz
open Go Go.Sx Go.Nsp
set_option maxRecDepth 20000
def cmpZ (a b : Int) : Int := if a < b then -1 else if b < a then 1 else 0
theorem cmpN_less {a b : Nat} (h : a < b) : cmpN a b = -1 := by unfold cmpN; rw [if_pos h]
theorem cmpN_more {a b : Nat} (h : b < a) : cmpN a b = 1 := by unfold cmpN; rw [if_neg (by omega), if_pos h]
theorem cmpN_same (a : Nat) : cmpN a a = 0 := by unfold cmpN; rw [if_neg (by omega), if_neg (by omega)]
theorem cmp_len {a b : Nat} (h : (digs a).length ≠ (digs b).length) : cmpZ ((digs a).length : Int) ((digs b).length : Int) = cmpN a b := by
  unfold cmpZ
  rcases Nat.lt_or_gt_of_ne h with h1 | h1
  · rw [if_pos (by omega), cmpN_less (digs_len_le h1)]
  · rw [if_neg (by omega), if_pos (by omega), cmpN_more (digs_len_le h1)]
theorem drop_same {l m : List Nat} {i : Nat} (hl : l.length = m.length) (h : ∀ j, i <= j -> j < l.length -> l.getD j 0 = m.getD j 0) : l.drop i = m.drop i := by
  apply List.ext_getElem (by simp [hl])
  intro k h1 h2
  simp only [List.length_drop] at h1 h2
  have := h (i + k) (by omega) (by omega)
  simp only [List.getElem_drop]
  simpa [List.getD, show i + k < l.length by omega, show i + k < m.length by omega] using this
theorem cmp_digit {a b : Nat} (hl : (digs a).length = (digs b).length) {i : Nat} (hi : i < (digs a).length) (h : ∀ j, i < j -> j < (digs a).length -> (digs a).getD j 0 = (digs b).getD j 0) (hne : (digs a).getD i 0 ≠ (digs b).getD i 0) : cmpN ((digs a).getD i 0) ((digs b).getD i 0) = cmpN a b := by
  have hd := drop_same (i := i + 1) hl (fun j h1 h2 => h j (by omega) h2)
  rcases Nat.lt_or_gt_of_ne hne with h1 | h1
  · have := val_less (digs_lt a) hl hi hd h1
    rw [val_digs, val_digs] at this
    rw [cmpN_less h1, cmpN_less this]
  · have := val_less (digs_lt b) hl.symm (by omega) hd.symm h1
    rw [val_digs, val_digs] at this
    rw [cmpN_more h1, cmpN_more this]
theorem cmp_all {a b : Nat} (hl : (digs a).length = (digs b).length) (h : ∀ j, j < (digs a).length -> (digs a).getD j 0 = (digs b).getD j 0) : cmpN a b = 0 := by
  have e : digs a = digs b := drop_same (i := 0) hl (fun j _ h2 => h j h2)
  have : a = b := by rw [<- val_digs a, <- val_digs b, e]
  rw [this, cmpN_same]
theorem u32_of (a : Nat) (h : a < 4294967296) : Value.int .u32 ((a : Nat) : Int) = u32v (BitVec.ofNat 32 a) := by
  unfold u32v
  rw [BitVec.toNat_ofNat, Nat.mod_eq_of_lt (by omega)]
theorem isNaN32_ok (a : Nat) (w : World) : Calls prog 280 #[.int .u32 (((a : Nat) : Int))] w fun r w' => r = .returned (.bool false) /\ Le w w' := by
 refine enter func280 rfl rfl ?_
 have L0 := Le.refl w
 refine WC.sr (W.run 1 rfl (W.nx (WC.sr (W.run 4 rfl (W.nx (WC.ret ?_))))))
 refine E.retG1 rfl rfl ?_
 exact ⟨by simp, L0⟩

theorem compare32_ok (a b : Nat) (w : World) : Calls prog 214 #[.int .u32 (((a : Nat) : Int)), .int .u32 (((b : Nat) : Int))] w fun r w' => r = .returned (.int .i64 (cmpN a b)) /\ Le w w' := by
 refine enter func214 rfl rfl ?_
 have L0 := Le.refl w
 refine WC.sr (W.run 1 rfl (W.nx (WC.sr (W.run 1 rfl ?_))))
 refine W.cl go280 rfl rfl (isNaN32_ok a w) ?_
 rintro _ w1_1 ⟨rfl, h1_1⟩
 have L1 := L0.trans h1_1
 refine W.run 1 rfl (W.nx (WC.sr (W.run 1 rfl ?_)))
 refine W.cl go280 rfl rfl (isNaN32_ok b w1_1) ?_
 rintro _ w2_1 ⟨rfl, h2_1⟩
 have L2 := L1.trans h2_1
 refine W.run 1 rfl (W.nx (WC.seq (WC.sr (W.run 1 rfl (W.nx (WC.condF rfl (WC.sn (WC.seq (WC.sr (W.run 1 rfl (W.nx (WC.condF rfl (WC.sn (WC.seq (WC.sr (W.run 3 rfl (W.nx ?_)))))))))))))))))
 by_cases c3 : ((a : Nat) : Int) < ((b : Nat) : Int)
 ·refine WC.condY rfl (decide_eq_true c3) ?_
  refine WC.sr (W.run 1 rfl (W.nx (WC.ret (E.thenR ?_))))
  refine E.retG1 rfl rfl ?_
  exact ⟨by unfold cmpN; first | (rw [if_pos (by omega)]) | (rw [if_neg (by omega), if_pos (by omega)]) | (rw [if_neg (by omega), if_neg (by omega)]), L2⟩
 refine WC.condN rfl (decide_eq_false c3) ?_
 refine WC.sn (WC.seq (WC.sr (W.run 3 rfl (W.nx ?_))))
 by_cases c4 : ((b : Nat) : Int) < ((a : Nat) : Int)
 ·refine WC.condY rfl (decide_eq_true c4) ?_
  refine WC.sr (W.run 1 rfl (W.nx (WC.ret (E.thenR ?_))))
  refine E.retG1 rfl rfl ?_
  exact ⟨by unfold cmpN; first | (rw [if_pos (by omega)]) | (rw [if_neg (by omega), if_pos (by omega)]) | (rw [if_neg (by omega), if_neg (by omega)]), L2⟩
 refine WC.condN rfl (decide_eq_false c4) ?_
 refine WC.sn (WC.sr (W.run 1 rfl (W.nx (WC.ret ?_))))
 refine E.retG1 rfl rfl ?_
 exact ⟨by unfold cmpN; first | (rw [if_pos (by omega)]) | (rw [if_neg (by omega), if_pos (by omega)]) | (rw [if_neg (by omega), if_neg (by omega)]), L2⟩

theorem isNaNi_ok (a : Int) (w : World) : Calls prog 278 #[.int .i64 (a)] w fun r w' => r = .returned (.bool false) /\ Le w w' := by
 refine enter func278 rfl rfl ?_
 have L0 := Le.refl w
 refine WC.sr (W.run 1 rfl (W.nx (WC.sr (W.run 4 rfl (W.nx (WC.ret ?_))))))
 refine E.retG1 rfl rfl ?_
 exact ⟨by simp, L0⟩

theorem comparei_ok (a b : Int) (w : World) : Calls prog 212 #[.int .i64 (a), .int .i64 (b)] w fun r w' => r = .returned (.int .i64 (cmpZ a b)) /\ Le w w' := by
 refine enter func212 rfl rfl ?_
 have L0 := Le.refl w
 refine WC.sr (W.run 1 rfl (W.nx (WC.sr (W.run 1 rfl ?_))))
 refine W.cl go278 rfl rfl (isNaNi_ok a w) ?_
 rintro _ w1_1 ⟨rfl, h1_1⟩
 have L1 := L0.trans h1_1
 refine W.run 1 rfl (W.nx (WC.sr (W.run 1 rfl ?_)))
 refine W.cl go278 rfl rfl (isNaNi_ok b w1_1) ?_
 rintro _ w2_1 ⟨rfl, h2_1⟩
 have L2 := L1.trans h2_1
 refine W.run 1 rfl (W.nx (WC.seq (WC.sr (W.run 1 rfl (W.nx (WC.condF rfl (WC.sn (WC.seq (WC.sr (W.run 1 rfl (W.nx (WC.condF rfl (WC.sn (WC.seq (WC.sr (W.run 3 rfl (W.nx ?_)))))))))))))))))
 by_cases c3 : a < b
 ·refine WC.condY rfl (decide_eq_true c3) ?_
  refine WC.sr (W.run 1 rfl (W.nx (WC.ret (E.thenR ?_))))
  refine E.retG1 rfl rfl ?_
  exact ⟨by unfold cmpZ; first | (rw [if_pos (by omega)]) | (rw [if_neg (by omega), if_pos (by omega)]) | (rw [if_neg (by omega), if_neg (by omega)]), L2⟩
 refine WC.condN rfl (decide_eq_false c3) ?_
 refine WC.sn (WC.seq (WC.sr (W.run 3 rfl (W.nx ?_))))
 by_cases c4 : b < a
 ·refine WC.condY rfl (decide_eq_true c4) ?_
  refine WC.sr (W.run 1 rfl (W.nx (WC.ret (E.thenR ?_))))
  refine E.retG1 rfl rfl ?_
  exact ⟨by unfold cmpZ; first | (rw [if_pos (by omega)]) | (rw [if_neg (by omega), if_pos (by omega)]) | (rw [if_neg (by omega), if_neg (by omega)]), L2⟩
 refine WC.condN rfl (decide_eq_false c4) ?_
 refine WC.sn (WC.sr (W.run 1 rfl (W.nx (WC.ret ?_))))
 refine E.retG1 rfl rfl ?_
 exact ⟨by unfold cmpZ; first | (rw [if_pos (by omega)]) | (rw [if_neg (by omega), if_pos (by omega)]) | (rw [if_neg (by omega), if_neg (by omega)]), L2⟩

theorem sub32_bv (x y b : BitVec 32) (w : World) : Calls prog 314 #[u32v x, u32v y, u32v b] w fun r w' => r = .returned (.tuple #[u32v (x - y - b), u32v (((~~~x &&& y) ||| (~~~(x ^^^ y) &&& (x - y - b))) >>> 31)]) /\ Le w w' := by
 refine enter func314 rfl rfl ?_
 have L0 := Le.refl w
 refine WC.sr (W.run 2 rfl (W.nx (WC.sr (W.run 2 rfl ?_))))
 refine W.a (.sub32 rfl rfl) ?_
 refine W.run 1 rfl ?_
 refine W.a (.sub32 rfl rfl) ?_
 refine W.run 1 rfl (W.nx (WC.sr (W.run 1 rfl ?_)))
 refine W.a (.com32 rfl) ?_
 refine W.run 1 rfl ?_
 refine W.a (.and32 rfl rfl) ?_
 refine W.run 2 rfl ?_
 refine W.a (.xor32 rfl rfl) ?_
 refine W.a (.com32 rfl) ?_
 refine W.run 1 rfl ?_
 refine W.a (.and32 rfl rfl) ?_
 refine W.a (.or32 rfl rfl) ?_
 refine W.a (.shr32 31 rfl rfl rfl (by decide)) ?_
 refine W.run 1 rfl (W.nx (WC.ret ?_))
 refine E.retG2 rfl rfl rfl ?_
 exact ⟨rfl, L0⟩

theorem sub32_ok (a c d : Nat) (ha : a < 4294967296) (hc : c < 4294967296) (hd : d <= 1) (w : World) : Calls prog 314 #[.int .u32 ((a : Nat) : Int), .int .u32 ((c : Nat) : Int), .int .u32 ((d : Nat) : Int)] w fun r w' => r = .returned (.tuple #[.int .u32 (((a + (B - c) + (B - d)) % B : Nat) : Int), .int .u32 (((if a < c + d then 1 else 0 : Nat)) : Int)]) /\ Le w w' := by
  have h := sub32_bv (BitVec.ofNat 32 a) (BitVec.ofNat 32 c) (BitVec.ofNat 32 d) w
  rw [<- u32_of a ha, <- u32_of c hc, <- u32_of d (by omega)] at h
  have e1 : (BitVec.ofNat 32 a).toNat = a := by rw [BitVec.toNat_ofNat, Nat.mod_eq_of_lt (by omega)]
  have e2 : (BitVec.ofNat 32 c).toNat = c := by rw [BitVec.toNat_ofNat, Nat.mod_eq_of_lt (by omega)]
  have e3 : (BitVec.ofNat 32 d).toNat = d := by rw [BitVec.toNat_ofNat, Nat.mod_eq_of_lt (by omega)]
  have h1 := sub32_diff (BitVec.ofNat 32 a) (BitVec.ofNat 32 c) (BitVec.ofNat 32 d)
  have h2 := sub32_borrow (BitVec.ofNat 32 a) (BitVec.ofNat 32 c) (BitVec.ofNat 32 d) (by rw [e3]; exact hd)
  rw [e1, e2, e3] at h1 h2
  unfold u32v at h
  rw [h1, h2] at h
  exact h

theorem ncmp_ok {A A2 : Option Addr} {n c m c2 a b : Nat} (w : World) (hV : Vec w dv 1 A n (digs a)) (hW : Vec w dv 1 A2 m (digs b)) (hn : n <= 1000000) (hm : m <= 1000000) : Calls prog 109 #[.slice A n c, .slice A2 m c2] w fun r w' => r = .returned (.int .i64 (cmpN a b)) /\ Le w w' := by
 have hl := hV.1
 have hl2 := hW.1
 have hB : B = 4294967296 := rfl
 refine enterM func109 rfl rfl ?_
 have L0 := Le.refl w
 refine WC.sr (W.ef rfl rfl rfl ?_)
 refine Ef.box rfl ?_
 intro g0_0 w0_0 hg0_0 b0_0 h0_0
 have L1 := L0.trans h0_0
 have b0_0 : Blk w0_0 g0_0 59 #[.slice A2 m c2] := b0_0
 refine W.ef rfl rfl rfl ?_
 refine Ef.alloc z3 ?_
 intro g0_1 w0_1 hg0_1 b0_1 h0_1
 have L2 := L1.trans h0_1
 have b0_1 : Blk w0_1 g0_1 3 #[.int .i64 (0)] := b0_1
 refine W.nx (WC.seq ?_)
 refine WC.draw [0, 2, 1, 3, 4, 5] mixed (by kernel_rfl) ?_
 intro w1 d1
 have L3 := L2.trans d1
 refine G.run 1 rfl ?_
 have f4 := (b0_0.le (h0_1.trans d1))
 refine G.r rfl (.loadB (v := .slice A2 m c2) na59 rfl f4 rfl) ?_
 refine G.ef rfl rfl rfl rfl rfl ?_
 refine Ef.call go211 rfl rfl (ntaken_ok w1 (hV.le L3) (by omega)) ?_
 rintro _ w1_1 ⟨rfl, h1_1⟩
 refine ⟨_, rfl, ?_⟩
 refine ⟨fun _ => h1_1, ?_⟩
 have L5 := L3.trans h1_1
 refine G.ef rfl rfl rfl rfl rfl ?_
 refine Ef.call go211 rfl rfl (ntaken_ok w1_1 (hW.le L5) (by omega)) ?_
 rintro _ w1_3 ⟨rfl, h1_3⟩
 refine ⟨_, rfl, ?_⟩
 refine ⟨fun _ => h1_3, ?_⟩
 have L6 := L5.trans h1_3
 refine G.run 1 rfl ?_
 have f7 := (f4.le (h1_1.trans h1_3))
 refine G.ef0 rfl rfl rfl rfl ?_
 refine Ef.store sz59 rfl rfl f7 (by first | decide | (simp; done)) (rfl) ?_
 intro w1_5 b1_5 h1_5
 refine noT (by kernel_rfl) ?_
 have b1_5 : Blk w1_5 g0_0 59 #[.slice A2 m c2] := b1_5
 have L8 := L6.tb h1_5 L0 hg0_0
 refine G.nil (E.thenN (WC.seq (WC.sr (W.run 1 rfl ?_))))
 refine W.r (.len underlying59 rfl) ?_
 refine W.r (.loadB (v := .slice A2 m c2) na59 rfl b1_5 rfl) ?_
 refine W.r (.len underlying59 rfl) ?_
 refine W.run 1 rfl (W.nx ?_)
 by_cases c0 : ((n : Nat) : Int) ≠ ((m : Nat) : Int)
 ·refine WC.condY rfl (decide_eq_true c0) ?_
  refine WC.sr (W.run 1 rfl ?_)
  refine W.r (.len underlying59 rfl) ?_
  refine W.r (.loadB (v := .slice A2 m c2) na59 rfl b1_5 rfl) ?_
  refine W.r (.len underlying59 rfl) ?_
  refine W.cl go212 rfl rfl (comparei_ok ((n : Nat) : Int) ((m : Nat) : Int) w1_5) ?_
  rintro _ w3_4 ⟨rfl, h3_4⟩
  have L9 := L8.trans h3_4
  have f10 := (((b0_1.le (d1.trans (h1_1.trans h1_3))).ch h1_5 (fun h => (show g0_0 ≠ g0_1 from by have := b0_0.lt; omega) (Option.some.inj h))).le h3_4)
  refine W.ef0 rfl rfl ?_
  refine Ef.store sz3 rfl rfl f10 (by first | decide | (simp; done)) (rfl) ?_
  intro w3_5 b3_5 h3_5
  have b3_5 : Blk w3_5 g0_1 3 #[.int .i64 ((cmpZ ((n : Nat) : Int) ((m : Nat) : Int)))] := b3_5
  have L11 := L9.tb h3_5 L1 hg0_1
  refine W.nx (WC.ret (E.thenR ?_))
  refine E.retM1 rfl (resN rfl b3_5 na3 rfl) ?_
  exact ⟨congrArg (fun v => Ending.returned (Value.int .i64 v)) (by rw [<- hl, <- hl2]; exact cmp_len (by omega)), L11⟩
 refine WC.condN rfl (decide_eq_false c0) ?_
 have hnm : n = m := by omega
 refine WC.sn (WC.seq (WC.sr (W.run 1 rfl ?_)))
 refine W.cl go213 rfl rfl (backD_ok w1_5) ?_
 rintro _ w4_1 ⟨gb4_1, rfl, hgb4_1, bb4_1, h4_1⟩
 have L12 := L8.trans h4_1
 refine W.nx (WC.block ?_)
 have f13 := (b1_5.le h4_1)
 have f14 := (((b0_1.le (d1.trans (h1_1.trans h1_3))).ch h1_5 (fun h => (show g0_0 ≠ g0_1 from by have := b0_0.lt; omega) (Option.some.inj h))).le h4_1)
 have hbq := backD_seq (c := c) (xs := (digs a)) (by omega) w4_1 bb4_1 (hV.le L12)
 refine WC.rangeX (α := Fin n) (N := n) rfl go279 rfl rfl hbq (fun A => KpV.refl _ _ _ _ _ _ A) (fun h k => h.trans k) (fun Wd q o o' hq h1 h2 _ => KpV.put trivial h1 h2) (fun (pre : List (Fin n)) Wd => (∀ y ∈ pre, (digs a).getD y.val 0 = (digs b).getD y.val 0) /\ Le w Wd /\ w4_1.heap.size <= Wd.heap.size /\ Blk Wd gb4_1 59 #[.slice A n c] /\ Blk Wd g0_0 59 #[.slice A2 m c2] /\ Blk Wd g0_1 3 #[.int .i64 (0)]) (fun (pre : List (Fin n)) Wd => ∃ pre0 x, (pre = pre0 ++ [x]) /\ (∀ y ∈ pre0, (digs a).getD y.val 0 = (digs b).getD y.val 0) /\ (((digs a).getD x.val 0) ≠ ((digs b).getD x.val 0)) /\ Le w Wd /\ w4_1.heap.size <= Wd.heap.size /\ Blk Wd g0_1 3 #[.int .i64 ((cmpN ((digs a).getD x.val 0) ((digs b).getD x.val 0)))]) (fun pre Wd W' row ⟨hpr, LI, zI, f0, f1, f2⟩ hg hr => ⟨hpr, LI.then_ hg (fun q e => Nat.le_trans L12.size (hr q e).1), Nat.le_trans zI hg.size, f0.grown hg (fun r e => (hr r e).2), f1.grown hg (fun r e => (hr r e).2), f2.grown hg (fun r e => (hr r e).2)⟩) (fun pre Wd W' row ⟨pre0, x, hpe, hpr, hne, LI, zI, f0⟩ hg hr => ⟨pre0, x, hpe, hpr, hne, LI.then_ hg (fun q e => Nat.le_trans L12.size (hr q e).1), Nat.le_trans zI hg.size, f0.grown hg (fun r e => (hr r e).2)⟩) ⟨fun y hy => by simp at hy, L12, Nat.le_refl _, bb4_1, f13, f14⟩ (fun x => [(3, .pointer (some ⟨g0_0, 0, none⟩)), (4, .pointer (some ⟨g0_1, 0, none⟩)), (5, .int .i64 ((x.val : Nat) : Int)), (6, .int .u32 ((((digs a).getD x.val 0 : Nat)) : Int))]) ?_ ?_ ?_ ?_
 ·intro lp x Wd
  refine RC.seq ?_
  refine RC.region rfl (fun ⟨_, _, h⟩ => h) ?_
  refine W.run 1 rfl (W.nil ?_)
  refine RC.thenN ?_
  refine RC.region rfl (fun ⟨_, _, h⟩ => h) ?_
  refine W.run 1 rfl (W.nil ?_)
  exact fun a' ha' => ⟨ha'.sub (.cons rfl (.cons rfl (.cons rfl (.cons rfl (.nil _))))), rfl⟩
 ·rintro lp pre x Wd ⟨hpr, LI, zI, f0, f1, f2⟩ hpre
  have hx := x.2
  refine RC.block ?_
  refine RC.seq ?_
  refine RC.region rfl (fun ⟨_, _, h⟩ => h) ?_
  refine W.run 1 rfl ?_
  refine W.r (.loadB (v := .slice A2 m c2) na59 rfl f1 rfl) ?_
  refine W.run 1 rfl ?_
  refine W.a (.idxS (x.val) underlying59 sz273 rfl rfl (hW.isSome dv_row (by omega)) (rfl) (by omega)) ?_
  refine W.r (.vone (v := .int .u32 (((((digs b).getD x.val 0) : Nat) : Int))) na273 rfl (hW.le LI) dv_row (getS (digs b) 0 (by first | omega | (simp only [List.length_cons, List.length_nil]; omega))) rfl) ?_
  refine W.run 1 rfl (W.nil ?_)
  refine RC.thenN ?_
  by_cases c1 : ((((digs a).getD x.val 0) : Nat) : Int) ≠ ((((digs b).getD x.val 0) : Nat) : Int)
  ·refine RC.condY rfl (decide_eq_true c1) ?_
   refine RC.seq ?_
   refine RC.region rfl (fun ⟨_, _, h⟩ => h) ?_
   refine W.run 1 rfl ?_
   refine W.r (.loadB (v := .slice A2 m c2) na59 rfl f1 rfl) ?_
   refine W.run 1 rfl ?_
   refine W.a (.idxS (x.val) underlying59 sz273 rfl rfl (hW.isSome dv_row (by omega)) (rfl) (by omega)) ?_
   refine W.r (.vone (v := .int .u32 (((((digs b).getD x.val 0) : Nat) : Int))) na273 rfl (hW.le LI) dv_row (getS (digs b) 0 (by first | omega | (simp only [List.length_cons, List.length_nil]; omega))) rfl) ?_
   refine W.cl go214 rfl rfl (compare32_ok ((digs a).getD x.val 0) ((digs b).getD x.val 0) Wd) ?_
   rintro _ w8_5 ⟨rfl, h8_5⟩
   have L15 := LI.trans h8_5
   have f16 := (f2.le h8_5)
   refine W.ef0 rfl rfl ?_
   refine Ef.store sz3 rfl rfl f16 (by first | decide | (simp; done)) (rfl) ?_
   intro w8_6 b8_6 h8_6
   have b8_6 : Blk w8_6 g0_1 3 #[.int .i64 ((cmpN ((digs a).getD x.val 0) ((digs b).getD x.val 0)))] := b8_6
   have L17 := L15.tb h8_6 L1 hg0_1
   refine W.nil ?_
   refine RC.thenN ?_
   refine RC.ret ?_
   refine E.blkR ?_
   exact fun a' _ => ⟨((KeepsFrom.of_le h8_5).trans (KeepsFrom.of_ch h8_6 f16)), rfl, ⟨pre, x, rfl, hpr, by omega, L17, by have := zI; have := h8_5.size; have := h8_6.size; omega, b8_6⟩⟩
  refine RC.condN rfl (decide_eq_false c1) ?_
  refine RC.skip ?_
  refine E.blkN ?_
  exact fun a' _ => ⟨(KeepsFrom.refl _ _), ⟨fun _ => f0, fun _ => (hV.le LI)⟩, ⟨fun y hy => by rcases List.mem_append.1 hy with h | h; exact hpr y h; rw [List.mem_singleton.1 h]; omega, LI, by have := zI; omega, f0, f1, f2⟩⟩
 ·rintro D pre Wd hD hS ⟨hpr, LI, zI, f0, f1, f2⟩ hdef
  subst hS
  have hall : ∀ j, j < (digs a).length -> (digs a).getD j 0 = (digs b).getD j 0 := fun j hj => hpr ⟨j, by omega⟩ (mem_finD.2 (by simp))
  refine DE.blkN ?_
  refine DE.thenN ?_
  refine DC.seq ?_
  refine DC.region ?_
  refine DW.ef0 rfl rfl ?_
  refine Ef.store sz3 rfl rfl f2 (by first | decide | (simp; done)) (rfl) ?_
  intro w9_0 b9_0 h9_0
  have b9_0 : Blk w9_0 g0_1 3 #[.int .i64 (0)] := b9_0
  have L19 := LI.tb h9_0 L1 hg0_1
  refine DW.nil ?_
  refine DE.thenN ?_
  refine DC.ret ?_
  have f20 := (hdef.ch h9_0 (f2.ne_dob hdef))
  obtain ⟨hgD, hrD⟩ := Dob.put f20
  have L21 := L19.then_ hgD (fun q e => by cases e; exact Nat.le_trans L12.size hD)
  have f22 := (b9_0.grown hgD hrD)
  refine DE.retM1 rfl f20 (resN rfl f22 na3 rfl) ?_
  exact ⟨congrArg (fun v => Ending.returned (Value.int .i64 v)) (cmp_all (by omega) hall).symm, L21⟩
 rintro D xs Wd hD hS ⟨pre0, x, hpe, hpr, hne, LI, zI, f0⟩ hdef
 obtain ⟨k, hk, hS⟩ := hS
 have hxx := x.2
 have hlk : pre0.length + 1 = k := by have h9 := congrArg List.length (hpe.symm.trans hS); rw [finD_length] at h9; simpa using h9
 have hk2 : k - 1 + 1 <= n := by omega
 have hfs := finD_succ n (k - 1) hk2
 have hpe2 : pre0 = finD n (k - 1) (by omega) /\ x = ⟨n - 1 - (k - 1), by omega⟩ := by have h9 := hpe.symm.trans hS; rw [show finD n k hk = finD n (k - 1 + 1) hk2 by congr 1; omega, hfs] at h9; have h8 := List.append_inj' h9 rfl; exact ⟨h8.1, by simpa using h8.2⟩
 have hxv : x.val = n - k := by rw [hpe2.2]; simp only; omega
 refine DE.blkR ?_
 refine DE.thenR ?_
 obtain ⟨hgD, hrD⟩ := Dob.put hdef
 have L23 := LI.then_ hgD (fun q e => by cases e; exact Nat.le_trans L12.size hD)
 have f24 := (f0.grown hgD hrD)
 refine DE.retM1 rfl hdef (resN rfl f24 na3 rfl) ?_
 exact ⟨congrArg (fun v => Ending.returned (Value.int .i64 v)) (cmp_digit (by omega) (by omega) (fun j h1 h2 => hpr ⟨j, by omega⟩ (by rw [hpe2.1]; exact mem_finD.2 (by simp only; omega))) hne), L23⟩

theorem nup_ok {A : Option Addr} {n c a : Nat} (d : Nat) (w : World) (hV : Vec w dv 1 A n (digs a)) (hd : d < 4294967296) (hn : n <= 100000) : Calls prog 274 #[.slice A n c, .int .u32 (((d : Nat) : Int))] w fun r w' => ∃ A c, r = .returned (.slice A (digs (d + B * a)).length c) /\ OVec w' w.heap.size 273 dv 1 A (digs (d + B * a)).length c (digs (d + B * a)) /\ Le w w' := by
 have hl := hV.1
 have hB : B = 4294967296 := rfl
 refine enter func274 rfl rfl ?_
 have L0 := Le.refl w
 refine WC.sr (W.run 1 rfl (W.nx (WC.sr (W.run 1 rfl ?_))))
 refine W.r (.len underlying59 rfl) ?_
 refine W.a (.add rfl rfl (by omega)) ?_
 refine W.ef rfl rfl rfl ?_
 refine Ef.vmake 0 (n + 1) underlying59 el273 dv_row rfl rfl (by omega) rfl (by omega) (by omega) (by unfold maxLen; omega) ?_
 intro g1_3 w1_3 hg1_3 o1_3 h1_3
 have L1 := L0.trans h1_3
 refine W.run 1 rfl (W.nx (WC.sr (W.run 1 rfl ?_)))
 have cp2 := o1_3.cap
 have v3 := o1_3.vec.cutL (n + 1) 1 (by omega) (by omega) dv_row
 have v3l := v3.1
 refine W.a (.cutL (1) underlying59 sz273 rfl rfl (rfl) (by omega) (by omega)) ?_
 refine W.run 1 rfl (W.ef rfl rfl rfl ?_)
 refine Ef.vcopy (j := 1) (k := n) underlying59 sz273 underlying59 rfl o1_3 dv_row rfl (hV.le L1) (by omega) (by omega) ?_
 intro w2_3 o2_3 h2_3
 have L4 := L1.then_ h2_3 (fun q hq => Nat.le_trans L0.size (o1_3.row hq).1)
 have o5 := o2_3.cast (m' := (n + 1)) (ys := (0 :: digs a)) (rfl) (by rw [List.replicate_succ]; simp; omega)
 refine W.nx (WC.sr (W.run 2 rfl ?_))
 refine W.a (.idxS (0) underlying59 sz273 rfl rfl (o1_3.vec.isSome dv_row (by omega)) (rfl) (by omega)) ?_
 refine W.ef0 rfl rfl ?_
 refine Ef.vset (j := 0) (o := 0) d sz273 rfl (by omega) rfl o5 dv_row (getS (0 :: digs a) 0 (by simp)) (by decide) rfl rfl ?_
 intro w3_3 o3_3 h3_3
 have L6 := L4.then_ h3_3 (fun q hq => Nat.le_trans L0.size (o5.row hq).1)
 have o7 := o3_3.cast (m' := (n + 1)) (ys := (d :: digs a)) (rfl) (rfl)
 refine W.nx (WC.sr (W.run 1 rfl ?_))
 refine W.cl go210 rfl rfl ((by have h := low_ok w3_3 o7 (fun q hq => by rcases List.mem_cons.1 hq with rfl | h; omega; exact digs_lt a q h) (by omega); rw [(by simp only [val, val_digs] : val (d :: digs a) = d + B * a)] at h; exact h)) ?_
 rintro _ w4_1 ⟨rfl, o4_1, h4_1⟩
 have L8 := L6.trans h4_1
 refine W.run 1 rfl (W.nx (WC.ret ?_))
 refine E.retG1 rfl rfl ?_
 exact ⟨_, _, rfl, (o4_1.mono L0.size), L8⟩

theorem nclone_ok {A : Option Addr} {n c a : Nat} (w : World) (hV : Vec w dv 1 A n (digs a)) (hn : n <= 1000000) : Calls prog 215 #[.slice A n c] w fun r w' => ∃ A c, r = .returned (.slice A (digs a).length c) /\ OVec w' w.heap.size 273 dv 1 A (digs a).length c (digs a) /\ Le w w' := by
 have hl := hV.1
 refine enter func215 rfl rfl ?_
 have L0 := Le.refl w
 refine WC.sr (W.run 1 rfl (W.nx (WC.seq (WC.sr (W.run 1 rfl ?_)))))
 refine W.a (.isNil underlying59 rfl) ?_
 refine W.nx ?_
 by_cases c0 : A.isNone = true
 ·refine WC.condY rfl (c0) ?_
  refine WC.sr (W.run 1 rfl (W.nx (WC.ret (E.thenR ?_))))
  refine E.retG1 rfl rfl ?_
  have hzn : n = 0 := Classical.byContradiction (fun h0 => by have h1 := hV.isSome dv_row (by omega); have h2 := (by simpa using (by assumption : A.isNone = true) : A = none); rw [h2] at h1; cases h1); have hzd : digs a = [] := List.length_eq_zero_iff.1 (by omega); exact ⟨none, 0, by rw [hzd]; rfl, by rw [hzd]; exact OVec.nil _ _ _ _ _ _, L0⟩
 refine WC.condN rfl ((Bool.eq_false_iff.2 c0)) ?_
 refine WC.sn (WC.sr (W.ef rfl rfl rfl ?_))
 refine Ef.buildSlice0 underlying59 el273 ?_
 intro g3_0 w3_0 hg3_0 b3_0 h3_0
 have L1 := L0.trans h3_0
 have o3_0 : OVec w3_0 w.heap.size 273 dv 1 (some ⟨g3_0, 0, none⟩) 0 0 [] := OVec.nil _ _ _ _ _ _
 refine W.run 1 rfl (W.ef rfl rfl rfl ?_)
 refine Ef.vcat underlying59 el273 underlying59 dv_row rfl o3_0 rfl (hV.le L1) (by omega) (by unfold maxLen; omega) (by have := h3_0.size; omega) ?_
 intro A3_2 c3_2 w3_2 o3_2 h3_2 at3_2
 have L2 := L1.then_ h3_2 (fun q hq => Nat.le_trans L0.size (o3_0.row hq).1)
 refine W.run 1 rfl (W.nx (WC.ret ?_))
 refine E.retG1 rfl rfl ?_
 have hz : (0 + n) = (digs a).length := (by omega); have hq := (o3_2.mono L0.size); exact ⟨_, _, by rw [hz], hq.cast hz (by simp), L2⟩

theorem nsub_ok {A A2 : Option Addr} {n c m c2 a b : Nat} (w : World) (hV : Vec w dv 1 A n (digs a)) (hW : Vec w dv 1 A2 m (digs b)) (hle : b <= a) (hn : n <= 1000000) (hm : m <= 1000000) : Calls prog 277 #[.slice A n c, .slice A2 m c2] w fun r w' => ∃ A c, r = .returned (.tuple #[.slice A (digs (a - b)).length c, .bool true]) /\ OVec w' w.heap.size 273 dv 1 A (digs (a - b)).length c (digs (a - b)) /\ Le w w' := by
 have hl := hV.1
 have hl2 := hW.1
 have hB : B = 4294967296 := rfl
 have hmn : m <= n := Nat.le_of_not_lt fun h => by have := digs_len_le (a := a) (b := b) (by omega); omega
 refine enter func277 rfl rfl ?_
 have L0 := Le.refl w
 refine WC.sr (W.run 2 rfl (W.nx (WC.sr (W.run 1 rfl ?_))))
 refine W.cl go211 rfl rfl (ntaken_ok w (hV.le L0) (by omega)) ?_
 rintro _ w1_1 ⟨rfl, h1_1⟩
 have L1 := L0.trans h1_1
 refine W.run 1 rfl ?_
 refine W.cl go211 rfl rfl (ntaken_ok w1_1 (hW.le L1) (by omega)) ?_
 rintro _ w1_3 ⟨rfl, h1_3⟩
 have L2 := L1.trans h1_3
 refine W.run 2 rfl (W.nx (WC.seq (WC.sr (W.run 2 rfl ?_))))
 refine W.cl go109 rfl rfl (ncmp_ok w1_3 (hV.le L2) (hW.le L2) (by omega) (by omega)) ?_
 rintro _ w2_2 ⟨rfl, h2_2⟩
 have L3 := L2.trans h2_2
 refine W.a (.dec (.lss rfl rfl) (decide_eq_false (by unfold cmpN; rw [if_neg (by omega)]; split <;> omega))) ?_
 refine W.nx (WC.condF rfl (WC.sn (WC.sr (W.run 1 rfl ?_))))
 refine W.r (.len underlying59 rfl) ?_
 refine W.ef rfl rfl rfl ?_
 refine Ef.vmake 0 n underlying59 el273 dv_row rfl rfl (rfl) rfl (rfl) (by omega) (by unfold maxLen; omega) ?_
 intro g4_2 w4_2 hg4_2 o4_2 h4_2
 have L4 := L3.trans h4_2
 refine W.run 1 rfl (W.nx (WC.sr (W.run 1 rfl (W.nx (WC.seq (WC.sr (W.run 1 rfl ?_)))))))
 refine W.r (.len underlying59 rfl) ?_
 refine W.run 1 rfl (W.nx (WC.block ?_))
 refine WC.loop (ι := Nat × Nat × (List Nat)) (fun ⟨i, br, out⟩ => [(0, .slice A n c), (1, .slice A2 m c2), (6, .slice (some ⟨g4_2, 0, none⟩) n n), (7, .int .u32 (((br : Nat) : Int))), (22, .int .i64 (((n : Nat) : Int))), (23, .int .i64 (((i : Nat) : Int)))]) (fun ⟨i, br, out⟩ wl0 => (i <= n) /\ (br <= 1) /\ (out.length = n) /\ (∀ d ∈ out, d < B) /\ (∀ j, i <= j -> out.getD j 0 = 0) /\ (val out + val ((digs b).take i) = val ((digs a).take i) + B ^ i * br) /\ Le w wl0 /\ w4_2.heap.size <= wl0.heap.size /\ OVec wl0 w2_2.heap.size 273 dv 1 (some ⟨g4_2, 0, none⟩) n n out) (fun ⟨i, br, out⟩ => n - i) (0, 0, (List.replicate n 0)) ?_ ?_ ?_
 ·exact .cons rfl (.cons rfl (.cons rfl (.cons rfl (.cons rfl (.cons rfl (.nil _))))))
 ·exact ⟨Nat.zero_le _, by decide, List.length_replicate, rep_lt _, (fun j hj => rep_get _ _), by rw [val_replicate]; simp [val], L4, Nat.le_refl _, o4_2⟩
 rintro ⟨i, br, out⟩ wl0 ⟨hi, hbr, hol, hob, hoz, hov, Ll0, zl0, f0_0⟩
 have lb0_3 : w2_2.heap.size <= wl0.heap.size := by have := h4_2.size; omega
 refine WC.sr (W.run 1 rfl (W.nx (WC.seq ?_)))
 by_cases c1 : ((i : Nat) : Int) < ((n : Nat) : Int)
 ·refine WC.condY rfl (decide_eq_true c1) ?_
  have hx := dig_lt a i
  have hy := dig_lt b i
  refine WC.sn (WC.seq (WC.block (WC.sr (W.run 2 rfl (W.nx (WC.sr (W.run 1 rfl (W.nx ?_))))))))
  refine WC.cut (ι := Nat) (fun y => [(0, .slice A n c), (1, .slice A2 m c2), (6, .slice (some ⟨g4_2, 0, none⟩) n n), (7, .int .u32 (((br : Nat) : Int))), (8, .int .i64 (((i : Nat) : Int))), (9, .int .u32 (((y : Nat) : Int))), (22, .int .i64 (((n : Nat) : Int))), (23, .int .i64 (((i : Nat) : Int)))]) (fun y wc12 => (y = ((digs b).getD i 0)) /\ Le w wc12 /\ wl0.heap.size <= wc12.heap.size /\ OVec wc12 w2_2.heap.size 273 dv 1 (some ⟨g4_2, 0, none⟩) n n out) ?_ ?_
  ·refine WC.sr (W.run 2 rfl ?_)
   refine W.r (.len underlying59 rfl) ?_
   refine W.run 1 rfl (W.nx ?_)
   by_cases c2 : ((i : Nat) : Int) < ((m : Nat) : Int)
   ·refine WC.condY rfl (decide_eq_true c2) ?_
    refine WC.region (W.run 2 rfl ?_)
    refine W.a (.idxS (i) underlying59 sz273 rfl rfl (hW.isSome dv_row (by omega)) (rfl) (by omega)) ?_
    refine W.r (.vone (v := .int .u32 (((((digs b).getD i 0) : Nat) : Int))) na273 rfl (hW.le Ll0) dv_row (getS (digs b) 0 (by first | omega | (simp only [List.length_cons, List.length_nil]; omega))) rfl) ?_
    refine W.run 1 rfl (W.nil ?_)
    refine E.meet ((digs b).getD i 0) (.cons rfl (.cons rfl (.cons rfl (.cons rfl (.cons rfl (.cons rfl (.cons rfl (.cons rfl (.nil _))))))))) ?_
    exact ⟨rfl, Ll0, Nat.le_refl _, f0_0⟩
   refine WC.condN rfl (decide_eq_false c2) ?_
   refine WC.skip ?_
   refine E.meet 0 (.cons rfl (.cons rfl (.cons rfl (.cons rfl (.cons rfl (.cons rfl (.cons rfl (.cons rfl (.nil _))))))))) ?_
   exact ⟨(getD_none (by omega)).symm, Ll0, Nat.le_refl _, f0_0⟩
  rintro y wc12 ⟨hyv, Lc2, sc2, m2_0⟩
  have lc2_3 : w2_2.heap.size <= wc12.heap.size := by have := lb0_3; have := sc2; omega
  have hstep := sub_step (out := out) (a := []) (b := []) (y := y) (i := i) (by omega) (hoz i (Nat.le_refl _)) hov hx (by omega) hbr
  rw [hyv, <- val_take_succ (show i < (digs a).length by omega), show val ((digs b).take i) + B ^ i * ((digs b).getD i 0) = val ((digs b).take (i + 1)) from by rcases Nat.lt_or_ge i (digs b).length with h9 | h9; exact (val_take_succ h9).symm; rw [getD_none h9, Nat.mul_zero, Nat.add_zero, List.take_of_length_le h9, List.take_of_length_le (by omega)]] at hstep
  rw [<- hyv] at hstep
  refine WC.region (W.run 4 rfl ?_)
  refine W.a (.idxS (i) underlying59 sz273 rfl rfl (hV.isSome dv_row (by omega)) (rfl) (by omega)) ?_
  refine W.r (.vone (v := .int .u32 (((((digs a).getD i 0) : Nat) : Int))) na273 rfl (hV.le Lc2) dv_row (getS (digs a) 0 (by first | omega | (simp only [List.length_cons, List.length_nil]; omega))) rfl) ?_
  refine W.run 2 rfl ?_
  refine W.cl go314 rfl rfl (sub32_ok ((digs a).getD i 0) y br (by omega) (by omega) (by omega) wc12) ?_
  rintro _ w12_8 ⟨rfl, h12_8⟩
  have L5 := Lc2.trans h12_8
  refine W.run 3 rfl ?_
  refine W.a (.idxS (i) underlying59 sz273 rfl rfl (o4_2.vec.isSome dv_row (by omega)) (rfl) (by omega)) ?_
  have f6 := (m2_0.le h12_8)
  refine W.ef0 rfl rfl ?_
  refine Ef.vset (j := i) (o := 0) ((((digs a).getD i 0) + (B - y) + (B - br)) % B) sz273 rfl (by omega) rfl f6 dv_row (getS out 0 (by omega)) (by decide) rfl rfl ?_
  intro w12_13 o12_13 h12_13
  have L7 := L5.then_ h12_13 (fun q hq => Nat.le_trans L3.size (f6.row hq).1)
  refine W.run 1 rfl (W.nil (E.blkN (E.thenN (WC.region ?_))))
  refine W.a (.add rfl rfl (by omega)) ?_
  refine W.run 1 rfl (W.nil ?_)
  refine E.again (i + 1, (if ((digs a).getD i 0) < y + br then 1 else 0), (out.set i ((((digs a).getD i 0) + (B - y) + (B - br)) % B))) (.cons rfl (.cons rfl (.cons rfl (.cons rfl (.cons rfl (.cons rfl (.nil _))))))) ?_ ?_
  ·exact ⟨by omega, by split <;> decide, by simp [hol], set_lt hob (Nat.mod_lt _ (by decide)), (fun j hj => by rw [List.getD_eq_getElem?_getD, List.getElem?_set_ne (by omega), <- List.getD_eq_getElem?_getD]; exact hoz j (by omega)), hstep, L7, by have := zl0; have := h12_8.size; have := h12_13.size; have := sc2; have := h1_1.size; have := h1_3.size; have := h2_2.size; have := h4_2.size; omega, o12_13⟩
  first | omega | (simp only []; omega)
 refine WC.condN rfl (decide_eq_false c1) ?_
 have hov2 := hov
 rw [show i = n by omega, List.take_of_length_le (by omega), List.take_of_length_le (by omega), val_digs, val_digs] at hov2
 have hvl := val_lt hob
 have hbr0 : br = 0 := by rw [hol] at hvl; rcases (show br = 0 \/ br = 1 by omega) with h | h; exact h; rw [h, Nat.mul_one] at hov2; omega
 refine WC.exit (E.thenX (E.thenX (E.blkH (E.thenN (WC.sr (W.run 1 rfl ?_))))))
 refine W.cl go210 rfl rfl ((by have h := low_ok wl0 f0_0 hob (by omega); rw [(by rw [hbr0] at hov2; omega : val out = a - b)] at h; exact h)) ?_
 rintro _ w14_1 ⟨rfl, o14_1, h14_1⟩
 have L8 := Ll0.trans h14_1
 refine W.run 2 rfl (W.nx (WC.ret ?_))
 refine E.retG2 rfl rfl rfl ?_
 exact ⟨_, _, rfl, (o14_1.mono L3.size), L8⟩
end Go.Proofs.YtocheaahlpiajaaGreatDoor

namespace Go.Proofs.YtocheaahlpiajaaGreatDoor
open Tryz
open Go Go.Sx Go.Nsp
set_option maxRecDepth 20000
def dmS (l : List Nat) (b : Nat) {n : Nat} (st : Nat × List Nat) (x : Fin n) : Nat × List Nat :=
  ((l.getD x.val 0 + B * st.1) % b, if l.getD x.val 0 + B * st.1 < b then st.2 else st.2.set x.val ((l.getD x.val 0 + B * st.1) / b))
def dmF (l : List Nat) (b n : Nat) (pre : List (Fin n)) : Nat × List Nat := pre.foldl (dmS l b) (0, List.replicate n 0)
def dmR (l : List Nat) (b n : Nat) (pre : List (Fin n)) : Nat := (dmF l b n pre).1
def dmQ (l : List Nat) (b n : Nat) (pre : List (Fin n)) : List Nat := (dmF l b n pre).2
theorem dmF_snoc (l : List Nat) (b n : Nat) (pre : List (Fin n)) (x : Fin n) : dmF l b n (pre ++ [x]) = dmS l b (dmF l b n pre) x := by unfold dmF; rw [List.foldl_append]; rfl
theorem dmR_nil (l : List Nat) (b n : Nat) : dmR l b n [] = 0 := rfl
theorem dmR_next (l : List Nat) (b n : Nat) (pre : List (Fin n)) (x : Fin n) : dmR l b n (pre ++ [x]) = (l.getD x.val 0 + B * dmR l b n pre) % b := by unfold dmR; rw [dmF_snoc]; rfl
theorem dmQ_less {l : List Nat} {b n : Nat} {pre : List (Fin n)} {x : Fin n} (h : l.getD x.val 0 + B * dmR l b n pre < b) : dmQ l b n (pre ++ [x]) = dmQ l b n pre := by
  unfold dmQ
  rw [dmF_snoc]
  exact if_pos h
theorem dmQ_more {l : List Nat} {b n : Nat} {pre : List (Fin n)} {x : Fin n} (h : ¬ l.getD x.val 0 + B * dmR l b n pre < b) : dmQ l b n (pre ++ [x]) = (dmQ l b n pre).set x.val ((l.getD x.val 0 + B * dmR l b n pre) / b) := by
  unfold dmQ
  rw [dmF_snoc]
  exact if_neg h
theorem dmQ_len (l : List Nat) (b n : Nat) (pre : List (Fin n)) : (dmQ l b n pre).length = n := by
  have key : ∀ (p : List (Fin n)) (st : Nat × List Nat), st.2.length = n -> (p.foldl (dmS l b) st).2.length = n := by
    intro p
    induction p with
    | nil => exact fun st h => h
    | cons x p ih =>
      intro st h
      refine ih _ ?_
      unfold dmS
      simp only
      split
      · exact h
      · rw [List.length_set]; exact h
  exact key pre _ List.length_replicate
theorem dmR_lt {l : List Nat} {b n : Nat} (hb : 0 < b) (pre : List (Fin n)) : dmR l b n pre < b := by
  rcases List.eq_nil_or_concat pre with rfl | ⟨p, x, rfl⟩
  · exact hb
  · rw [List.concat_eq_append, dmR_next]; exact Nat.mod_lt _ hb
theorem dm_room {d r b : Nat} (hd : d < B) (hr : r < b) : (d + B * r) / b < B := by
  rw [Nat.div_lt_iff_lt_mul (by omega)]
  have := Nat.mul_le_mul_left B (show r + 1 <= b from hr)
  rw [Nat.mul_add] at this
  omega
structure DmI (l : List Nat) (b n k : Nat) (r : Nat) (q : List Nat) : Prop where
  len : q.length = n
  lt : ∀ d ∈ q, d < B
  zero : ∀ j, j < n - k -> q.getD j 0 = 0
  eq : val (l.drop (n - k)) = b * val (q.drop (n - k)) + r
  rem : r < b
theorem dm_all {l : List Nat} {b n : Nat} (hb : 0 < b) (hl : l.length = n) (hlt : ∀ d ∈ l, d < B) : ∀ (k : Nat) (h : k <= n), DmI l b n k (dmR l b n (finD n k h)) (dmQ l b n (finD n k h))
  | 0, h => ⟨List.length_replicate, rep_lt _, fun j _ => rep_get _ _, by
      have e1 : l.drop (n - 0) = [] := List.drop_eq_nil_of_le (by omega)
      have e2 : (dmQ l b n (finD n 0 h)).drop (n - 0) = [] := List.drop_eq_nil_of_le (by unfold dmQ dmF finD; simp)
      rw [e1, e2]; rfl, hb⟩
  | k + 1, h => by
    obtain ⟨i1, i2, i3, i4, i5⟩ := dm_all hb hl hlt k (by omega)
    have hx : n - 1 - k < n := by omega
    rw [finD_succ n k h]
    generalize hp : finD n k (by omega) = pre at *
    generalize hr : dmR l b n pre = r at *
    have hd : l.getD (n - 1 - k) 0 < B := getD_lt hlt _
    have hroom := dm_room hd i5
    have hnext := dmR_next l b n pre ⟨n - 1 - k, hx⟩
    rw [hr] at hnext
    simp only at hnext
    have hk : n - (k + 1) = n - 1 - k := by omega
    have hdl := val_drop (l := l) (k := n - 1 - k) (by omega)
    rw [show n - 1 - k + 1 = n - k by omega] at hdl
    have key : ∀ q' : List Nat, q'.length = n -> q'.getD (n - 1 - k) 0 = (l.getD (n - 1 - k) 0 + B * r) / b -> (∀ j, n - 1 - k < j -> q'.getD j 0 = (dmQ l b n pre).getD j 0) -> val (l.drop (n - (k + 1))) = b * val (q'.drop (n - (k + 1))) + (l.getD (n - 1 - k) 0 + B * r) % b := by
      intro q' h1 h2 h3
      have hdq := val_drop (l := q') (k := n - 1 - k) (by omega)
      rw [show n - 1 - k + 1 = n - k by omega] at hdq
      have hsame : q'.drop (n - k) = (dmQ l b n pre).drop (n - k) := drop_same (by omega) (fun j j1 _ => h3 j (by omega))
      rw [hk, hdl, hdq, h2, hsame, i4]
      have hdm := Nat.div_add_mod (l.getD (n - 1 - k) 0 + B * r) b
      rw [Nat.mul_add, Nat.mul_add, Nat.mul_left_comm b B]
      omega
    rw [hnext]
    by_cases hless : l.getD (n - 1 - k) 0 + B * r < b
    · rw [dmQ_less (x := ⟨n - 1 - k, hx⟩) (by rw [hr]; exact hless)]
      refine ⟨i1, i2, fun j hj => i3 j (by omega), ?_, Nat.mod_lt _ hb⟩
      exact key _ i1 (by rw [i3 _ (by omega), Nat.div_eq_of_lt hless]) (fun j _ => rfl)
    · have hm := dmQ_more (x := ⟨n - 1 - k, hx⟩) (by rw [hr]; exact hless : ¬ l.getD (⟨n - 1 - k, hx⟩ : Fin n).val 0 + B * dmR l b n pre < b)
      rw [hr] at hm
      simp only at hm
      rw [hm]
      refine ⟨by simp [i1], set_lt i2 hroom, fun j hj => ?_, ?_, Nat.mod_lt _ hb⟩
      · rw [List.getD_eq_getElem?_getD, List.getElem?_set_ne (by omega), <- List.getD_eq_getElem?_getD]
        exact i3 j (by omega)
      · refine key _ (by simp [i1]) ?_ (fun j hj => ?_)
        · rw [List.getD_eq_getElem?_getD, List.getElem?_set_self (by omega)]
          rfl
        · rw [List.getD_eq_getElem?_getD, List.getElem?_set_ne (by omega), <- List.getD_eq_getElem?_getD]
theorem dm_end {a b n : Nat} (hb : 0 < b) (hl : (digs a).length = n) : dmR (digs a) b n (finD n n (Nat.le_refl n)) = a % b /\ val (dmQ (digs a) b n (finD n n (Nat.le_refl n))) = a / b /\ (dmQ (digs a) b n (finD n n (Nat.le_refl n))).length = n /\ ∀ d ∈ dmQ (digs a) b n (finD n n (Nat.le_refl n)), d < B := by
  obtain ⟨i1, i2, i3, i4, i5⟩ := dm_all hb hl (digs_lt a) n (Nat.le_refl n)
  rw [Nat.sub_self, List.drop_zero, List.drop_zero, val_digs] at i4
  obtain ⟨h1, h2⟩ := div_mod i4 i5
  exact ⟨h2.symm, h1.symm, i1, i2⟩
def intV {n : Nat} (a : Nat) (pre : List (Fin n)) : Nat := if pre = [] then 0 else a
theorem intV_snoc {n : Nat} (a : Nat) (pre : List (Fin n)) (x : Fin n) : intV a (pre ++ [x]) = a := by unfold intV; rw [if_neg (by simp)]
theorem intV_dig {a n i : Nat} (ha : a < 4294967296) (hl : (digs a).length = n) (hi : i < n) : (digs a).getD i 0 = a := by
  by_cases h : a = 0
  · rw [h, digs_zero] at hl; simp at hl; omega
  · have e : digs a = [a] := by rw [digs_pos h, Nat.mod_eq_of_lt (show a < B from ha), Nat.div_eq_of_lt (show a < B from ha), digs_zero]
    rw [e] at hl ⊢
    simp at hl
    have : i = 0 := by omega
    subst this
    rfl
theorem intV_all {a n : Nat} (hl : (digs a).length = n) : intV a (finD n n (Nat.le_refl n)) = a := by
  unfold intV
  split
  · rename_i h
    have := congrArg List.length h
    rw [finD_length] at this
    simp at this
    subst this
    have h0 : digs a = [] := List.length_eq_zero_iff.1 hl
    rw [<- val_digs a, h0]
    rfl
  · rfl
theorem greatest_div {V b D : Nat} (hb : 0 < b) (h1 : b * D <= V) (hV : V / b < B) (h2 : D + 1 = B \/ ¬ b * (D + 1) <= V) : D = V / b := by
  have h3 : D <= V / b := (Nat.le_div_iff_mul_le hb).2 (by rw [Nat.mul_comm]; exact h1)
  rcases h2 with h2 | h2
  · omega
  · have h4 : V / b < D + 1 := (Nat.div_lt_iff_lt_mul hb).2 (by rw [Nat.mul_comm]; omega)
    omega
theorem digs_one {d : Nat} (h0 : 0 < d) (h : d < B) : [d] = digs d := by
  rw [digs_pos (by omega), Nat.mod_eq_of_lt h, Nat.div_eq_of_lt h, digs_zero]
theorem cmpN_le {a b : Nat} : cmpN a b <= 0 ↔ a <= b := by unfold cmpN; split <;> (try split) <;> omega
theorem cmpN_lt {a b : Nat} : cmpN a b < 0 ↔ a < b := by unfold cmpN; split <;> (try split) <;> omega
theorem digs_len_mono {a b : Nat} (h : a <= b) : (digs a).length <= (digs b).length := Nat.le_of_not_lt fun h1 => by have := digs_len_le h1; omega
theorem digs_len_up {d r : Nat} (hd : d < B) : (digs (d + B * r)).length <= (digs r).length + 1 := by
  by_cases h : r = 0 /\ d = 0
  · rw [h.1, h.2]; simp [digs_zero]
  · rw [<- digs_up hd h]; exact Nat.le_refl _
theorem digs_len_pow : ∀ (k : Nat) {a : Nat}, a < B ^ k -> (digs a).length <= k
  | 0, a, h => by
    have : a = 0 := by simpa using h
    rw [this, digs_zero]
    exact Nat.le_refl _
  | k + 1, a, h => by
    by_cases h0 : a = 0
    · rw [h0, digs_zero]; exact Nat.zero_le _
    · rw [digs_pos h0, List.length_cons]
      have := digs_len_pow k (a := a / B) ((Nat.div_lt_iff_lt_mul B_pos).2 (by rw [<- Nat.pow_succ]; exact h))
      omega
theorem digs_mul_len (a b : Nat) : (digs (a * b)).length <= (digs a).length + (digs b).length := by
  have h1 := val_lt (digs_lt a)
  have h2 := val_lt (digs_lt b)
  rw [val_digs] at h1 h2
  refine digs_len_pow _ ?_
  rw [Nat.pow_add]
  exact Nat.mul_lt_mul'' h1 h2
theorem digs_len_one {d : Nat} (h : d < B) : (digs d).length <= 1 := by
  have := digs_len_up (r := 0) h
  rw [Nat.mul_zero, Nat.add_zero, digs_zero] at this
  exact this
theorem dm1_ok {g1 g2 m c2 k c3 b V : Nat} {A2 A3 : Option Addr} (d : Nat) (w : World) (hb1 : Blk w g1 59 #[.slice A2 m c2]) (hb2 : Blk w g2 59 #[.slice A3 k c3]) (hW : Vec w dv 1 A2 m (digs b)) (hR : Vec w dv 1 A3 k (digs V)) (hd0 : 0 < d) (hd : d < 4294967296) (hm : m <= 100000) (hk : k <= 200000) : Calls prog 276 #[.int .u32 (((d : Nat) : Int)), .pointer (some ⟨g1, 0, none⟩), .pointer (some ⟨g2, 0, none⟩)] w fun r w' => r = .returned (.bool (decide (b * d <= V))) /\ Le w w' := by
 have hl2 := hW.1
 have hl3 := hR.1
 have hB : B = 4294967296 := rfl
 have hd1 := digs_len_one (d := d) (by omega)
 have hml := digs_mul_len b d
 refine enter func276 rfl rfl ?_
 have L0 := Le.refl w
 refine WC.sr (W.run 1 rfl (W.nx (WC.seq ?_)))
 refine WC.draw [0, 1, 4, 2, 3, 5, 6, 7] mixed (by kernel_rfl) ?_
 intro w1 d1
 have L1 := L0.trans d1
 refine G.r rfl (.loadB (v := .slice A2 m c2) na59 rfl (hb1.le L1) rfl) ?_
 refine G.run 1 rfl ?_
 refine G.r rfl (.loadB (v := .slice A3 k c3) na59 rfl (hb2.le L1) rfl) ?_
 refine G.ef rfl rfl rfl rfl rfl ?_
 refine Ef.buildSliceV (len := 1) [_] underlying59 el273 rfl (by simp [Value.cells]) rfl (by decide) (by decide) ?_
 intro g1_2 w1_2 hg1_2 b1_2 h1_2
 refine ⟨fun _ => h1_2, ?_⟩
 have L2 := L1.trans h1_2
 have b1_2 : Blk w1_2 g1_2 273 (([d]).map dv).flatten.toArray := b1_2
 have o1_2 : OVec w1_2 w1.heap.size 273 dv 1 (some ⟨g1_2, 0, none⟩) 1 1 ([d]) := b1_2.ovec hg1_2 dv_row rfl rfl (by decide)
 have o3 := o1_2.cast (m' := 1) (ys := (digs d)) (rfl) (digs_one hd0 (by omega))
 refine G.ef rfl rfl rfl rfl rfl ?_
 refine Ef.call go182 rfl rfl (nmul_ok w1_2 (hW.le L2) o3.vec (by omega) (by omega)) ?_
 rintro _ w1_3 ⟨Ad1_3, cd1_3, rfl, o1_3, h1_3⟩
 refine ⟨_, rfl, ?_⟩
 refine ⟨fun _ => h1_3, ?_⟩
 have L4 := L2.trans h1_3
 refine G.ef rfl rfl rfl rfl rfl ?_
 refine Ef.call go109 rfl rfl (ncmp_ok w1_3 o1_3.vec (hR.le L4) (by omega) (by omega)) ?_
 rintro _ w1_5 ⟨rfl, h1_5⟩
 refine ⟨_, rfl, ?_⟩
 refine ⟨fun _ => h1_5, ?_⟩
 have L5 := L4.trans h1_5
 refine G.run 2 rfl (G.nil (E.thenN (WC.ret ?_)))
 refine E.retG1 rfl rfl ?_
 exact ⟨rB (decide_eq_decide.2 cmpN_le), L5⟩

theorem ndivmod_ok {A A2 : Option Addr} {n c m c2 a b : Nat} (w : World) (hV : Vec w dv 1 A n (digs a)) (hW : Vec w dv 1 A2 m (digs b)) (hb0 : 0 < b) (hn : n <= 100000) (hm : m <= 90000) : Calls prog 209 #[.slice A n c, .slice A2 m c2] w fun r w' => ∃ Aq cq Ar cr, r = .returned (.tuple #[.slice Aq (digs (a / b)).length cq, .slice Ar (digs (a % b)).length cr, .bool true]) /\ OVec w' w.heap.size 273 dv 1 Aq (digs (a / b)).length cq (digs (a / b)) /\ OVec w' w.heap.size 273 dv 1 Ar (digs (a % b)).length cr (digs (a % b)) /\ Le w w' := by
 have hl := hV.1
 have hl2 := hW.1
 have hB : B = 4294967296 := rfl
 have hm0 : 0 < m := by rw [<- hl2, digs_pos (by omega)]; simp
 refine enterM func209 rfl rfl ?_
 have L0 := Le.refl w
 refine WC.sr (W.ef rfl rfl rfl ?_)
 refine Ef.box rfl ?_
 intro g0_0 w0_0 hg0_0 b0_0 h0_0
 have L1 := L0.trans h0_0
 have b0_0 : Blk w0_0 g0_0 59 #[.slice A2 m c2] := b0_0
 refine W.run 3 rfl (W.nx (WC.seq ?_))
 refine WC.draw [0, 2, 1, 3, 4, 5] mixed (by kernel_rfl) ?_
 intro w1 d1
 have L2 := L1.trans d1
 refine G.run 1 rfl ?_
 have f3 := (b0_0.le d1)
 refine G.r rfl (.loadB (v := .slice A2 m c2) na59 rfl f3 rfl) ?_
 refine G.ef rfl rfl rfl rfl rfl ?_
 refine Ef.call go211 rfl rfl (ntaken_ok w1 (hV.le L2) (by omega)) ?_
 rintro _ w1_1 ⟨rfl, h1_1⟩
 refine ⟨_, rfl, ?_⟩
 refine ⟨fun _ => h1_1, ?_⟩
 have L4 := L2.trans h1_1
 refine G.ef rfl rfl rfl rfl rfl ?_
 refine Ef.call go211 rfl rfl (ntaken_ok w1_1 (hW.le L4) (by omega)) ?_
 rintro _ w1_3 ⟨rfl, h1_3⟩
 refine ⟨_, rfl, ?_⟩
 refine ⟨fun _ => h1_3, ?_⟩
 have L5 := L4.trans h1_3
 refine G.run 1 rfl ?_
 have f6 := (f3.le (h1_1.trans h1_3))
 refine G.ef0 rfl rfl rfl rfl ?_
 refine Ef.store sz59 rfl rfl f6 (by first | decide | (simp; done)) (rfl) ?_
 intro w1_5 b1_5 h1_5
 refine noT (by kernel_rfl) ?_
 have b1_5 : Blk w1_5 g0_0 59 #[.slice A2 m c2] := b1_5
 have L7 := L5.tb h1_5 L0 hg0_0
 refine G.nil (E.thenN (WC.seq (WC.sr ?_)))
 refine W.r (.loadB (v := .slice A2 m c2) na59 rfl b1_5 rfl) ?_
 refine W.r (.len underlying59 rfl) ?_
 refine W.a (.dec (.eql rfl rfl) (decide_eq_false (by omega))) ?_
 refine W.nx (WC.condF rfl (WC.sn (WC.sr (W.run 1 rfl ?_))))
 refine W.r (.len underlying59 rfl) ?_
 refine W.ef rfl rfl rfl ?_
 refine Ef.vmake 0 n underlying59 el273 dv_row rfl rfl (rfl) rfl (rfl) (by omega) (by unfold maxLen; omega) ?_
 intro g4_2 w4_2 hg4_2 o4_2 h4_2
 have L8 := L7.trans h4_2
 refine W.ef rfl rfl rfl ?_
 refine Ef.alloc z59 ?_
 intro g4_3 w4_3 hg4_3 b4_3 h4_3
 have L9 := L8.trans h4_3
 have b4_3 : Blk w4_3 g4_3 59 #[.slice none 0 0] := b4_3
 refine W.ef0 rfl rfl ?_
 refine Ef.store sz59 rfl rfl b4_3 (by first | decide | (simp; done)) (rfl) ?_
 intro w4_4 b4_4 h4_4
 have b4_4 : Blk w4_4 g4_3 59 #[.slice (some ⟨g4_2, 0, none⟩) n n] := b4_4
 have L10 := L9.tb h4_4 L8 hg4_3
 refine W.nx (WC.sr (W.ef rfl rfl rfl ?_))
 refine Ef.alloc z59 ?_
 intro g5_0 w5_0 hg5_0 b5_0 h5_0
 have L11 := L10.trans h5_0
 have b5_0 : Blk w5_0 g5_0 59 #[.slice none 0 0] := b5_0
 refine W.nx (WC.seq (WC.sr (W.run 1 rfl ?_)))
 refine W.cl go213 rfl rfl (backD_ok w5_0) ?_
 rintro _ w6_1 ⟨gb6_1, rfl, hgb6_1, bb6_1, h6_1⟩
 have L12 := L11.trans h6_1
 refine W.nx (WC.block ?_)
 have f13 := (((o4_2.le h4_3).ch h4_4 (fun q hq => by cases hq; exact (fun he => by have := (o4_2.row he).2; omega))).le (h5_0.trans h6_1))
 have f14 := (b5_0.le h6_1)
 have f15 := (((b1_5.le (h4_2.trans h4_3)).ch h4_4 (fun h => (show g4_3 ≠ g0_0 from by have := b1_5.lt; have := h4_2.size; omega) (Option.some.inj h))).le (h5_0.trans h6_1))
 have f16 := (b4_4.le (h5_0.trans h6_1))
 have hbq := backD_seq (c := c) (xs := (digs a)) (by omega) w6_1 bb6_1 (hV.le L12)
 refine WC.rangeX (α := Fin n) (N := n) rfl go279 rfl rfl hbq (fun A => KpV.refl _ _ _ _ _ _ A) (fun h k => h.trans k) (fun Wd q o o' hq h1 h2 _ => KpV.put trivial h1 h2) (fun (pre : List (Fin n)) Wd => ∃ Ar cr, Le w Wd /\ w6_1.heap.size <= Wd.heap.size /\ Blk Wd gb6_1 59 #[.slice A n c] /\ Blk Wd g0_0 59 #[.slice A2 m c2] /\ Blk Wd g4_3 59 #[.slice (some ⟨g4_2, 0, none⟩) n n] /\ OVec Wd w1_5.heap.size 273 dv 1 (some ⟨g4_2, 0, none⟩) n n (dmQ (digs a) b n pre) /\ Blk Wd g5_0 59 #[.slice Ar ((digs (dmR (digs a) b n pre)).length) cr] /\ OVec Wd w6_1.heap.size 273 dv 1 Ar ((digs (dmR (digs a) b n pre)).length) cr (digs (dmR (digs a) b n pre))) (fun _ _ => False) (fun pre Wd W' row ⟨Ar, cr, LI, zI, f0, f1, f2, f3, f4, f5⟩ hg hr => ⟨Ar, cr, LI.then_ hg (fun q e => Nat.le_trans L12.size (hr q e).1), Nat.le_trans zI hg.size, f0.grown hg (fun r e => (hr r e).2), f1.grown hg (fun r e => (hr r e).2), f2.grown hg (fun r e => (hr r e).2), f3.grown hg (fun r e => (hr r e).2), f4.grown hg (fun r e => (hr r e).2), f5.grown hg (fun r e => (hr r e).2)⟩) (fun _ _ _ _ hf _ _ => hf) ⟨none, 0, L12, Nat.le_refl _, bb6_1, f15, f16, f13, (Blk.cast f14 (by rw [dmR_nil, digs_zero]; rfl)), (OVec.cast (OVec.nil w6_1 w6_1.heap.size 273 dv 1 none) (by rw [dmR_nil, digs_zero]; rfl) (by rw [dmR_nil, digs_zero]))⟩ (fun x => [(3, .pointer (some ⟨g0_0, 0, none⟩)), (7, .pointer (some ⟨g4_3, 0, none⟩)), (8, .pointer (some ⟨g5_0, 0, none⟩)), (9, .int .i64 ((x.val : Nat) : Int)), (10, .int .u32 ((((digs a).getD x.val 0 : Nat)) : Int))]) ?_ ?_ ?_ ?_
 ·intro lp x Wd
  refine RC.seq ?_
  refine RC.region rfl (fun ⟨_, _, h⟩ => h) ?_
  refine W.run 1 rfl (W.nil ?_)
  refine RC.thenN ?_
  refine RC.region rfl (fun ⟨_, _, h⟩ => h) ?_
  refine W.run 1 rfl (W.nil ?_)
  exact fun a' ha' => ⟨ha'.sub (.cons rfl (.cons rfl (.cons rfl (.cons rfl (.cons rfl (.nil _)))))), rfl⟩
 ·rintro lp pre x Wd ⟨Ar, cr, LI, zI, f0, f1, f2, f3, f4, f5⟩ hpre
  have lb2_4 : w1_5.heap.size <= Wd.heap.size := by have := h4_2.size; have := h4_3.size; have := h4_4.size; have := h5_0.size; have := h6_1.size; omega
  have lb2_8 : w6_1.heap.size <= Wd.heap.size := by omega
  have hx := x.2
  have hql := dmQ_len (digs a) b n pre
  have hrl := dmR_lt (l := digs a) hb0 pre
  have hdx := dig_lt a x.val
  have hroom := dm_room hdx hrl
  have hrm := digs_len_mono (Nat.le_of_lt hrl)
  have hul := digs_len_up (d := ((digs a).getD x.val 0)) (r := (dmR (digs a) b n pre)) hdx
  refine RC.block ?_
  refine RC.seq ?_
  refine RC.region rfl (fun ⟨_, _, h⟩ => h) ?_
  refine W.r (.loadB (v := .slice Ar ((digs (dmR (digs a) b n pre)).length) cr) na59 rfl f4 rfl) ?_
  refine W.run 1 rfl ?_
  refine W.cl go274 rfl rfl (nup_ok ((digs a).getD x.val 0) Wd f5.vec (hdx) (by omega)) ?_
  rintro _ w9_2 ⟨Ad9_2, cd9_2, rfl, o9_2, h9_2⟩
  have L17 := LI.trans h9_2
  have f18 := (f4.le h9_2)
  refine W.ef0 rfl rfl ?_
  refine Ef.store sz59 rfl rfl f18 (by first | decide | (simp; done)) (rfl) ?_
  intro w9_3 b9_3 h9_3
  have b9_3 : Blk w9_3 g5_0 59 #[.slice Ad9_2 ((digs (((digs a).getD x.val 0) + B * (dmR (digs a) b n pre))).length) cd9_2] := b9_3
  have L19 := L17.tb h9_3 L10 hg5_0
  refine W.nil ?_
  refine RC.thenN ?_
  refine RC.seq ?_
  refine RC.seq ?_
  refine RC.region rfl (fun ⟨_, _, h⟩ => h) ?_
  refine W.r (.loadB (v := .slice Ad9_2 ((digs (((digs a).getD x.val 0) + B * (dmR (digs a) b n pre))).length) cd9_2) na59 rfl b9_3 rfl) ?_
  have f20 := ((f1.le h9_2).ch h9_3 (fun h => (show g5_0 ≠ g0_0 from by have := b1_5.lt; have := h4_2.size; have := h4_3.size; have := h4_4.size; omega) (Option.some.inj h)))
  refine W.r (.loadB (v := .slice A2 m c2) na59 rfl f20 rfl) ?_
  have f21 := (o9_2.ch h9_3 (fun q hq => by cases hq; exact (fun he => by have := (o9_2.row he).1; have := f4.lt; omega)))
  refine W.cl go109 rfl rfl (ncmp_ok w9_3 f21.vec (hW.le L19) (by omega) (by omega)) ?_
  rintro _ w10_2 ⟨rfl, h10_2⟩
  have L22 := L19.trans h10_2
  refine W.run 1 rfl (W.nil ?_)
  refine RC.thenN ?_
  by_cases c1 : (cmpN (((digs a).getD x.val 0) + B * (dmR (digs a) b n pre)) b) < 0
  ·refine RC.condY rfl (decide_eq_true c1) ?_
   have hlt : (((digs a).getD x.val 0) + B * (dmR (digs a) b n pre)) < b := cmpN_lt.1 c1
   refine RC.exit ?_
   refine E.thenX (E.blkH ?_)
   have f23 := (((f0.le h9_2).ch h9_3 (fun h => (show g5_0 ≠ gb6_1 from by have := b5_0.lt; omega) (Option.some.inj h))).le h10_2)
   have f24 := (f20.le h10_2)
   have f25 := (((f2.le h9_2).ch h9_3 (fun h => (show g5_0 ≠ g4_3 from by have := b4_4.lt; omega) (Option.some.inj h))).le h10_2)
   have f26 := (((f3.le h9_2).ch h9_3 (fun q hq => by cases hq; exact (fun he => by have := (o4_2.row he).2; have := h4_3.size; have := h4_4.size; omega))).le h10_2)
   have f27 := (b9_3.le h10_2)
   have f28 := (f21.le h10_2)
   exact fun a' _ => ⟨((KeepsFrom.of_le h9_2).trans ((KeepsFrom.of_ch h9_3 f18).trans (KeepsFrom.of_le h10_2))), ⟨fun _ => f23, fun _ => (hV.le L22)⟩, ⟨Ad9_2, cd9_2, L22, by have := zI; have := h9_2.size; have := h9_3.size; have := h10_2.size; omega, f23, f24, f25, (f26.cast rfl (dmQ_less hlt).symm), (f27.cast (by rw [dmR_next, Nat.mod_eq_of_lt hlt])), ((f28.mono (by omega)).cast (by rw [dmR_next, Nat.mod_eq_of_lt hlt]) (by rw [dmR_next, Nat.mod_eq_of_lt hlt]))⟩⟩
  refine RC.condN rfl (decide_eq_false c1) ?_
  have hlt : ¬ (((digs a).getD x.val 0) + B * (dmR (digs a) b n pre)) < b := fun h => c1 (cmpN_lt.2 h)
  have hqp : 0 < (((digs a).getD x.val 0) + B * (dmR (digs a) b n pre)) / b := Nat.div_pos (by omega) hb0
  have hq1 := digs_len_one hroom
  have hmd := Nat.mul_div_le (((digs a).getD x.val 0) + B * (dmR (digs a) b n pre)) b
  have hml := digs_len_mono hmd
  refine RC.skip ?_
  refine RC.thenN ?_
  refine RC.seq ?_
  refine RC.draw [0, 1, 2, 3, 4, 5] mixed (by kernel_rfl) rfl ?_
  intro w11 d11
  have L29 := L22.trans d11
  have f30 := (((f2.le h9_2).ch h9_3 (fun h => (show g5_0 ≠ g4_3 from by have := b4_4.lt; omega) (Option.some.inj h))).le (h10_2.trans d11))
  refine G.r rfl (.loadB (v := .slice (some ⟨g4_2, 0, none⟩) n n) na59 rfl f30 rfl) ?_
  refine G.run 1 rfl ?_
  refine G.a rfl (.makeFunc rfl) ?_
  have f31 := (f20.le (h10_2.trans d11))
  have f32 := (b9_3.le (h10_2.trans d11))
  have f33 := (f21.le (h10_2.trans d11))
  refine G.ef rfl rfl rfl rfl rfl ?_
  refine Ef.call go275 rfl rfl (greatest_ok (fun d => decide (b * d <= (((digs a).getD x.val 0) + B * (dmR (digs a) b n pre)))) go276 w11 (fun d w1 h0 h1 hl => dm1_ok d w1 (f31.le hl) (f32.le hl) (hW.le (L29.trans hl)) (f33.vec.le hl) h0 h1 (by omega) (by omega)) (by simp)) ?_
  rintro _ w11_3 ⟨D11_3, rfl, ⟨hD111_3, hD211_3, hD311_3⟩, h11_3⟩
  refine ⟨_, rfl, ?_⟩
  refine ⟨fun _ => h11_3, ?_⟩
  have L34 := L29.trans h11_3
  have hDe11_3 : D11_3 = (((digs a).getD x.val 0) + B * (dmR (digs a) b n pre)) / b := greatest_div hb0 (of_decide_eq_true hD211_3) hroom (hD311_3.imp (fun h => h.trans hB.symm) of_decide_eq_false)
  subst hDe11_3
  refine G.a rfl (.idxS (x.val) underlying59 sz273 rfl rfl (o4_2.vec.isSome dv_row (by omega)) (rfl) (by omega)) ?_
  have f35 := (((f3.le h9_2).ch h9_3 (fun q hq => by cases hq; exact (fun he => by have := (o4_2.row he).2; have := h4_3.size; have := h4_4.size; omega))).le (h10_2.trans (d11.trans h11_3)))
  refine G.ef0 rfl rfl rfl rfl ?_
  refine Ef.vset (j := x.val) (o := 0) ((((digs a).getD x.val 0) + B * (dmR (digs a) b n pre)) / b) sz273 rfl (by omega) rfl f35 dv_row (getS (dmQ (digs a) b n pre) 0 (by omega)) (by decide) rfl rfl ?_
  intro w11_5 o11_5 h11_5
  refine noT (by kernel_rfl) ?_
  have L36 := L34.then_ h11_5 (fun q hq => Nat.le_trans L7.size (f35.row hq).1)
  refine G.nil ?_
  refine RC.thenN ?_
  refine RC.draw [0, 1, 2, 3, 4, 5, 6, 7, 8, 9, 10, 11, 12] mixed (by kernel_rfl) rfl ?_
  intro w12 d12
  have L37 := L36.trans d12
  have f38 := (((f32.le h11_3).ch h11_5 (fun he => by have := (o4_2.row he).2; have := h4_3.size; have := h4_4.size; omega)).le d12)
  refine G.r rfl (.loadB (v := .slice Ad9_2 ((digs (((digs a).getD x.val 0) + B * (dmR (digs a) b n pre))).length) cd9_2) na59 rfl f38 rfl) ?_
  have f39 := (((f31.le h11_3).ch h11_5 (fun he => by have := (f35.row he).1; have := b1_5.lt; omega)).le d12)
  refine G.r rfl (.loadB (v := .slice A2 m c2) na59 rfl f39 rfl) ?_
  have f40 := (((f30.le h11_3).ch h11_5 (fun he => by have := (o4_2.row he).2; omega)).le d12)
  refine G.r rfl (.loadB (v := .slice (some ⟨g4_2, 0, none⟩) n n) na59 rfl f40 rfl) ?_
  refine G.run 1 rfl ?_
  refine G.a rfl (.idxS (x.val) underlying59 sz273 rfl rfl (o4_2.vec.isSome dv_row (by omega)) (rfl) (by omega)) ?_
  have f41 := (o11_5.le d12)
  refine G.r rfl (.vone (v := .int .u32 (((((((digs a).getD x.val 0) + B * (dmR (digs a) b n pre)) / b) : Nat) : Int))) na273 rfl f41.vec dv_row (List.getElem?_set_self (by omega)) rfl) ?_
  refine G.ef rfl rfl rfl rfl rfl ?_
  refine Ef.buildSliceV (len := 1) [_] underlying59 el273 rfl (by simp [Value.cells]) rfl (by decide) (by decide) ?_
  intro g12_6 w12_6 hg12_6 b12_6 h12_6
  refine ⟨fun _ => h12_6, ?_⟩
  have L42 := L37.trans h12_6
  have b12_6 : Blk w12_6 g12_6 273 (([((((digs a).getD x.val 0) + B * (dmR (digs a) b n pre)) / b)]).map dv).flatten.toArray := b12_6
  have o12_6 : OVec w12_6 w12.heap.size 273 dv 1 (some ⟨g12_6, 0, none⟩) 1 1 ([((((digs a).getD x.val 0) + B * (dmR (digs a) b n pre)) / b)]) := b12_6.ovec hg12_6 dv_row rfl rfl (by decide)
  have o43 := o12_6.cast (m' := 1) (ys := (digs ((((digs a).getD x.val 0) + B * (dmR (digs a) b n pre)) / b))) (rfl) (digs_one hqp hroom)
  refine G.ef rfl rfl rfl rfl rfl ?_
  refine Ef.call go182 rfl rfl (nmul_ok w12_6 (hW.le L42) o43.vec (by omega) (by omega)) ?_
  rintro _ w12_7 ⟨Ad12_7, cd12_7, rfl, o12_7, h12_7⟩
  refine ⟨_, rfl, ?_⟩
  refine ⟨fun _ => h12_7, ?_⟩
  have L44 := L42.trans h12_7
  have f45 := (((f33.le h11_3).ch h11_5 ((fun q h1 h2 => by have := (f3.row h1).2; have := (f33.row h2).1; omega))).le (d12.trans (h12_6.trans h12_7)))
  refine G.ef rfl rfl rfl rfl rfl ?_
  refine Ef.call go277 rfl rfl (nsub_ok w12_7 f45.vec o12_7.vec (hmd) (by omega) (by omega)) ?_
  rintro _ w12_8 ⟨Ad12_8, cd12_8, rfl, o12_8, h12_8⟩
  refine ⟨_, rfl, ?_⟩
  refine ⟨fun _ => h12_8, ?_⟩
  have L46 := L44.trans h12_8
  refine G.run 3 rfl ?_
  have f47 := (f38.le (h12_6.trans (h12_7.trans h12_8)))
  refine G.ef0 rfl rfl rfl rfl ?_
  refine Ef.store sz59 rfl rfl f47 (by first | decide | (simp; done)) (rfl) ?_
  intro w12_12 b12_12 h12_12
  refine noT (by kernel_rfl) ?_
  have b12_12 : Blk w12_12 g5_0 59 #[.slice Ad12_8 ((digs ((((digs a).getD x.val 0) + B * (dmR (digs a) b n pre)) - (b * ((((digs a).getD x.val 0) + B * (dmR (digs a) b n pre)) / b)))).length) cd12_8] := b12_12
  have L48 := L46.tb h12_12 L10 hg5_0
  refine G.nil (E.blkN ?_)
  have f49 := ((((((f0.le h9_2).ch h9_3 (fun h => (show g5_0 ≠ gb6_1 from by have := b5_0.lt; omega) (Option.some.inj h))).le (h10_2.trans (d11.trans h11_3))).ch h11_5 (fun he => by have := (o4_2.row he).2; have := h4_3.size; have := h4_4.size; have := h5_0.size; omega)).le (d12.trans (h12_6.trans (h12_7.trans h12_8)))).ch h12_12 (fun h => (show g5_0 ≠ gb6_1 from by have := b5_0.lt; omega) (Option.some.inj h)))
  have f50 := ((f39.le (h12_6.trans (h12_7.trans h12_8))).ch h12_12 (fun h => (show g5_0 ≠ g0_0 from by have := b1_5.lt; have := h4_2.size; have := h4_3.size; have := h4_4.size; omega) (Option.some.inj h)))
  have f51 := ((f40.le (h12_6.trans (h12_7.trans h12_8))).ch h12_12 (fun h => (show g5_0 ≠ g4_3 from by have := b4_4.lt; omega) (Option.some.inj h)))
  have f52 := ((f41.le (h12_6.trans (h12_7.trans h12_8))).ch h12_12 (fun q hq => by cases hq; exact (fun he => by have := (o4_2.row he).2; have := h4_3.size; have := h4_4.size; omega)))
  have f53 := (o12_8.ch h12_12 (fun q hq => by cases hq; exact (fun he => by have := (o12_8.row he).1; have := f38.lt; have := h12_6.size; have := h12_7.size; omega)))
  exact fun a' _ => ⟨((KeepsFrom.of_le h9_2).trans ((KeepsFrom.of_ch h9_3 f18).trans ((KeepsFrom.of_le h10_2).trans ((KeepsFrom.of_le d11).trans ((KeepsFrom.of_le h11_3).trans ((KeepsFrom.of_own h11_5 f35).trans ((KeepsFrom.of_le d12).trans ((KeepsFrom.of_le h12_6).trans ((KeepsFrom.of_le h12_7).trans ((KeepsFrom.of_le h12_8).trans (KeepsFrom.of_ch h12_12 f47))))))))))), ⟨fun _ => f49, fun _ => (hV.le L48)⟩, ⟨Ad12_8, cd12_8, L48, by have := zI; have := h9_2.size; have := h9_3.size; have := h10_2.size; have := d11.size; have := h11_3.size; have := h11_5.size; have := d12.size; have := h12_6.size; have := h12_7.size; have := h12_8.size; have := h12_12.size; omega, f49, f50, f51, (f52.cast rfl (dmQ_more hlt).symm), (b12_12.cast (by rw [dmR_next, Nat.mod_eq_sub_mul_div])), ((f53.mono (by have := h9_2.size; have := h9_3.size; have := h10_2.size; have := d11.size; have := h11_3.size; have := h11_5.size; have := d12.size; have := h12_6.size; have := h12_7.size; omega)).cast (by rw [dmR_next, Nat.mod_eq_sub_mul_div]) (by rw [dmR_next, Nat.mod_eq_sub_mul_div]))⟩⟩
 ·rintro D pre Wd hD hS ⟨Ar, cr, LI, zI, f0, f1, f2, f3, f4, f5⟩ hdef
  subst hS
  have lb3_4 : w1_5.heap.size <= Wd.heap.size := by have := h4_2.size; have := h4_3.size; have := h4_4.size; have := h5_0.size; have := h6_1.size; omega
  have lb3_8 : w6_1.heap.size <= Wd.heap.size := by omega
  have hdm := dm_end hb0 hl
  obtain ⟨hdr, hdq, hdl, hdb⟩ := hdm
  have hrm := digs_len_mono (Nat.le_of_lt (Nat.mod_lt a hb0))
  rw [<- hdr] at hrm
  refine DE.blkN ?_
  refine DE.thenN ?_
  refine DC.seq ?_
  refine DC.draw [0, 2, 1, 3, 4, 5, 6] mixed (by kernel_rfl) ?_
  intro w13 d13
  have L54 := LI.trans d13
  have f55 := (f2.le d13)
  refine GD.rd rfl rfl (.loadB (v := .slice (some ⟨g4_2, 0, none⟩) n n) na59 rfl f55 rfl) rfl rfl rfl ?_
  have f56 := (f4.le d13)
  refine GD.rd rfl rfl (.loadB (v := .slice Ar ((digs (dmR (digs a) b n (finD n n (Nat.le_refl _)))).length) cr) na59 rfl f56 rfl) rfl rfl rfl ?_
  have f57 := (f3.le d13)
  refine GD.ef rfl rfl rfl rfl rfl ?_
  refine Ef.call go210 rfl rfl ((by have h := low_ok w13 f57 hdb (by omega); rw [hdq] at h; exact h)) ?_
  rintro _ w13_1 ⟨rfl, o13_1, h13_1⟩
  refine ⟨_, rfl, ?_⟩
  refine ⟨fun _ => h13_1, ?_⟩
  have L58 := L54.trans h13_1
  have f59 := (f5.le (d13.trans h13_1))
  refine GD.ef rfl rfl rfl rfl rfl ?_
  refine Ef.call go215 rfl rfl (nclone_ok w13_1 f59.vec (by omega)) ?_
  rintro _ w13_3 ⟨Ad13_3, cd13_3, rfl, o13_3, h13_3⟩
  refine ⟨_, rfl, ?_⟩
  refine ⟨fun _ => h13_3, ?_⟩
  have L60 := L58.trans h13_3
  refine GD.any rfl rfl (.assign rfl) rfl rfl rfl ?_
  refine GD.any rfl rfl (.assign rfl) rfl rfl rfl ?_
  refine GD.any rfl rfl (.assign rfl) rfl rfl rfl ?_
  refine GD.nil ?_
  refine DE.thenN ?_
  refine DC.ret ?_
  have f61 := (hdef.le (d13.trans (h13_1.trans h13_3)))
  obtain ⟨hgD, hrD⟩ := Dob.put f61
  have L62 := L60.then_ hgD (fun q e => by cases e; exact Nat.le_trans L12.size hD)
  have f63 := (o13_3.grown hgD hrD)
  have f64 := ((o13_1.le h13_3).grown hgD hrD)
  refine DE.retM3 rfl f61 rfl rfl rfl ?_
  have hq := (f63.mono L58.size)
  rw [hdr] at hq ⊢
  exact ⟨_, _, _, _, rfl, (f64.mono L7.size), hq, L62⟩
 intro D xs Wd _ _ hf; exact hf.elim

theorem ngcd_ok {A A2 : Option Addr} {n c m c2 a b : Nat} (w : World) (hV : Vec w dv 1 A n (digs a)) (hW : Vec w dv 1 A2 m (digs b)) (hn : n <= 90000) (hm : m <= 90000) : Calls prog 110 #[.slice A n c, .slice A2 m c2] w fun r w' => ∃ A c, r = .returned (.slice A (digs (Nat.gcd a b)).length c) /\ OVec w' w.heap.size 273 dv 1 A (digs (Nat.gcd a b)).length c (digs (Nat.gcd a b)) /\ Le w w' := by
 have hl := hV.1
 have hl2 := hW.1
 have hB : B = 4294967296 := rfl
 refine enter func110 rfl rfl ?_
 have L0 := Le.refl w
 refine WC.sr (W.run 1 rfl (W.nx (WC.sr (W.run 1 rfl ?_))))
 refine W.cl go211 rfl rfl (ntaken_ok w (hV.le L0) (by omega)) ?_
 rintro _ w1_1 ⟨rfl, h1_1⟩
 have L1 := L0.trans h1_1
 refine W.run 1 rfl ?_
 refine W.cl go211 rfl rfl (ntaken_ok w1_1 (hW.le L1) (by omega)) ?_
 rintro _ w1_3 ⟨rfl, h1_3⟩
 have L2 := L1.trans h1_3
 refine W.run 2 rfl (W.nx (WC.seq (WC.block ?_)))
 refine WC.loop (ι := Nat × Nat × ((Option Addr)) × Nat × Nat × ((Option Addr)) × Nat × Nat) (fun ⟨u, v, Au, nu, cu, Av, nv, cv⟩ => [(0, .slice Au nu cu), (1, .slice Av nv cv)]) (fun ⟨u, v, Au, nu, cu, Av, nv, cv⟩ wl0 => (Nat.gcd u v = Nat.gcd a b) /\ (nu <= 90000 /\ nv <= 90000) /\ ((digs u).length = nu /\ (digs v).length = nv) /\ Le w wl0 /\ w1_3.heap.size <= wl0.heap.size /\ Vec wl0 dv 1 Au nu (digs u) /\ Vec wl0 dv 1 Av nv (digs v)) (fun ⟨u, v, Au, nu, cu, Av, nv, cv⟩ => v) (a, b, A, n, c, A2, m, c2) ?_ ?_ ?_
 ·exact .cons rfl (.cons rfl (.nil _))
 ·exact ⟨rfl, ⟨by omega, by omega⟩, ⟨hl, hl2⟩, L2, Nat.le_refl _, (hV.le L2), (hW.le L2)⟩
 rintro ⟨u, v, Au, nu, cu, Av, nv, cv⟩ wl0 ⟨hg, hnn, hll, Ll0, zl0, vq0_0, vq0_1⟩
 refine WC.seq (WC.sr (W.run 1 rfl ?_))
 refine W.r (.len underlying59 rfl) ?_
 refine W.run 1 rfl (W.nx ?_)
 by_cases c0 : 0 < ((nv : Nat) : Int)
 ·refine WC.condY rfl (decide_eq_true c0) ?_
  have hv0 : 0 < v := Nat.pos_of_ne_zero (fun e => by rw [e, digs_zero] at hll; have := hll.2; simp at this; omega)
  have hml := digs_len_mono (Nat.le_of_lt (Nat.mod_lt u hv0))
  refine WC.sn (WC.block (WC.sr (W.run 2 rfl ?_)))
  refine W.cl go209 rfl rfl (ndivmod_ok wl0 vq0_0 vq0_1 (by omega) (by omega) (by omega)) ?_
  rintro _ w3_2 ⟨Aq3_2, cq3_2, Ar3_2, cr3_2, rfl, oq3_2, or3_2, h3_2⟩
  have L3 := Ll0.trans h3_2
  refine W.run 7 rfl (W.nx (WC.region (W.run 4 rfl (W.nil (E.blkN ?_)))))
  have f4 := (vq0_1.le h3_2)
  refine E.again (v, (u % v), Av, nv, cv, Ar3_2, ((digs (u % v)).length), cr3_2) (.cons rfl (.cons rfl (.nil _))) ?_ ?_
  ·exact ⟨by rw [<- hg, Nat.gcd_comm v, <- Nat.gcd_rec, Nat.gcd_comm], ⟨by omega, by omega⟩, ⟨hll.2, rfl⟩, L3, by have := zl0; have := h3_2.size; omega, f4, or3_2.vec⟩
  exact Nat.mod_lt _ hv0
 refine WC.condN rfl (decide_eq_false c0) ?_
 have hv0 : v = 0 := Classical.byContradiction (fun e => by have := hll.2; rw [digs_pos e] at this; simp at this; omega)
 have hgu : u = Nat.gcd a b := by rw [<- hg, hv0, Nat.gcd_zero_right]
 refine WC.exit (E.thenX (E.thenX (E.blkH (E.thenN (WC.sr (W.run 1 rfl ?_))))))
 refine W.cl go215 rfl rfl (nclone_ok wl0 vq0_0 (by omega)) ?_
 rintro _ w5_1 ⟨Ad5_1, cd5_1, rfl, o5_1, h5_1⟩
 have L5 := Ll0.trans h5_1
 refine W.run 1 rfl (W.nx (WC.ret ?_))
 refine E.retG1 rfl rfl ?_
 rw [<- hgu]; exact ⟨_, _, rfl, (o5_1.mono Ll0.size), L5⟩

theorem nint_ok {A : Option Addr} {n c a : Nat} (w : World) (hV : Vec w dv 1 A n (digs a)) (ha : a < 4294967296) : Calls prog 240 #[.slice A n c] w fun r w' => r = .returned (.tuple #[.int .i64 ((a : Nat) : Int), .bool true]) /\ Le w w' := by
 have hl := hV.1
 have hB : B = 4294967296 := rfl
 have hn1 := digs_len_one (d := a) (by omega)
 refine enterM func240 rfl rfl ?_
 have L0 := Le.refl w
 refine WC.sr (W.run 2 rfl (W.nx (WC.sr (W.run 1 rfl ?_))))
 refine W.cl go211 rfl rfl (ntaken_ok w (hV.le L0) (by omega)) ?_
 rintro _ w1_1 ⟨rfl, h1_1⟩
 have L1 := L0.trans h1_1
 refine W.run 1 rfl (W.nx (WC.sr (W.ef rfl rfl rfl ?_)))
 refine Ef.alloc z27 ?_
 intro g2_0 w2_0 hg2_0 b2_0 h2_0
 have L2 := L1.trans h2_0
 have b2_0 : Blk w2_0 g2_0 27 #[.int .u64 (0)] := b2_0
 refine W.ef0 rfl rfl ?_
 refine Ef.store sz27 rfl rfl b2_0 (by first | decide | (simp; done)) (rfl) ?_
 intro w2_1 b2_1 h2_1
 have b2_1 : Blk w2_1 g2_0 27 #[.int .u64 (0)] := b2_1
 have L3 := L2.tb h2_1 L1 hg2_0
 refine W.nx (WC.seq (WC.sr (W.run 1 rfl ?_)))
 refine W.cl go213 rfl rfl (backD_ok w2_1) ?_
 rintro _ w3_1 ⟨gb3_1, rfl, hgb3_1, bb3_1, h3_1⟩
 have L4 := L3.trans h3_1
 refine W.nx (WC.block ?_)
 have f5 := (b2_1.le h3_1)
 have hbq := backD_seq (c := c) (xs := (digs a)) (by omega) w3_1 bb3_1 (hV.le L4)
 refine WC.rangeX (α := Fin n) (N := n) rfl go279 rfl rfl hbq (fun A => KpV.refl _ _ _ _ _ _ A) (fun h k => h.trans k) (fun Wd q o o' hq h1 h2 _ => KpV.put trivial h1 h2) (fun (pre : List (Fin n)) Wd => Le w Wd /\ w3_1.heap.size <= Wd.heap.size /\ Blk Wd gb3_1 59 #[.slice A n c] /\ Blk Wd g2_0 27 #[.int .u64 ((((intV a pre) : Nat) : Int))]) (fun _ _ => False) (fun pre Wd W' row ⟨LI, zI, f0, f1⟩ hg hr => ⟨LI.then_ hg (fun q e => Nat.le_trans L4.size (hr q e).1), Nat.le_trans zI hg.size, f0.grown hg (fun r e => (hr r e).2), f1.grown hg (fun r e => (hr r e).2)⟩) (fun _ _ _ _ hf _ _ => hf) ⟨L4, Nat.le_refl _, bb3_1, f5⟩ (fun x => [(0, .slice A n c), (4, .pointer (some ⟨g2_0, 0, none⟩)), (6, .int .u32 ((((digs a).getD x.val 0 : Nat)) : Int))]) ?_ ?_ ?_ ?_
 ·intro lp x Wd
  refine RC.region rfl (fun ⟨_, _, h⟩ => h) ?_
  refine W.run 1 rfl (W.nil ?_)
  exact fun a' ha' => ⟨ha'.sub (.cons rfl (.cons rfl (.cons rfl (.nil _)))), rfl⟩
 ·rintro lp pre x Wd ⟨LI, zI, f0, f1⟩ hpre
  have hx := x.2
  have hp0 : pre = [] := List.length_eq_zero_iff.1 (by omega)
  have hv0 : intV a pre = 0 := by rw [hp0]; rfl
  have hdx : ((digs a).getD x.val 0) = a := intV_dig (by omega) (by omega) (by omega)
  refine RC.block ?_
  refine RC.region rfl (fun ⟨_, _, h⟩ => h) ?_
  refine W.r (.loadB (v := .int .u64 ((((intV a pre) : Nat) : Int))) na27 rfl f1 rfl) ?_
  refine W.a (.shlN (intV a pre) 32 0 rfl rfl rfl rfl (by decide) (by rw [hv0])) ?_
  refine W.run 1 rfl ?_
  refine W.r (.idI (isS underlying273) underlying27 rfl (IntWalk.u64_in _ (by omega))) ?_
  refine W.a (.orN 0 ((digs a).getD x.val 0) rfl rfl rfl rfl (by decide) (by omega)) ?_
  refine W.ef0 rfl rfl ?_
  refine Ef.store sz27 rfl rfl f1 (by first | decide | (simp; done)) (rfl) ?_
  intro w5_5 b5_5 h5_5
  have b5_5 : Blk w5_5 g2_0 27 #[.int .u64 ((((0 ||| ((digs a).getD x.val 0)) : Nat) : Int))] := b5_5
  have L6 := LI.tb h5_5 L1 hg2_0
  refine W.nil (E.blkN ?_)
  have f7 := (f0.ch h5_5 (fun h => (show g2_0 ≠ gb3_1 from by have := b2_1.lt; omega) (Option.some.inj h)))
  exact fun a' _ => ⟨(KeepsFrom.of_ch h5_5 f1), ⟨fun _ => f7, fun _ => (hV.le L6)⟩, ⟨L6, by have := zI; have := h5_5.size; omega, f7, (b5_5.cast (by rw [hdx, Nat.zero_or, intV_snoc]))⟩⟩
 ·rintro D pre Wd hD hS ⟨LI, zI, f0, f1⟩ hdef
  subst hS
  have hia : intV a (finD n n (Nat.le_refl n)) = a := intV_all hl
  refine DE.blkN ?_
  refine DE.thenN ?_
  refine DC.seq ?_
  refine DC.seq ?_
  refine DC.region ?_
  refine DW.any (.move rfl) rfl rfl rfl ?_
  refine DW.rd (.len underlying59 rfl) rfl rfl rfl ?_
  refine DW.any (.dec (.gtr rfl rfl) (decide_eq_false (by omega))) rfl rfl rfl ?_
  refine DW.any (.move rfl) rfl rfl rfl ?_
  refine DW.rdg (.loadB (v := .int .u64 ((((intV a (finD n n (Nat.le_refl _))) : Nat) : Int))) na27 rfl f1 rfl) rfl rfl rfl (rfl) rfl rfl ?_
  refine DW.rdg (Any.rd (.dec (.gtr rfl rfl) (decide_eq_false (by rw [hia]; omega))) _) rfl rfl rfl (rfl) rfl rfl ?_
  refine DW.any (.pickF rfl rfl rfl) rfl rfl rfl ?_
  refine DW.nil ?_
  refine DE.thenN ?_
  refine DC.condF rfl ?_
  refine DC.skip ?_
  refine DE.thenN ?_
  refine DC.seq ?_
  refine DC.region ?_
  refine DW.rd (.loadB (v := .int .u64 ((((intV a (finD n n (Nat.le_refl _))) : Nat) : Int))) na27 rfl f1 rfl) rfl rfl rfl ?_
  refine DW.rd (.idI (isS underlying27) underlying3 rfl (IntWalk.i64_in _ (by rw [hia]; omega))) rfl rfl rfl ?_
  refine DW.any (.assign rfl) rfl rfl rfl ?_
  refine DW.any (.assign rfl) rfl rfl rfl ?_
  refine DW.nil ?_
  refine DE.thenN ?_
  refine DC.ret ?_
  obtain ⟨hgD, hrD⟩ := Dob.put hdef
  have L8 := LI.then_ hgD (fun q e => by cases e; exact Nat.le_trans L4.size hD)
  refine DE.retMG2 rfl hdef rfl rfl ?_
  exact ⟨by rw [hia], L8⟩
 intro D xs Wd _ _ hf; exact hf.elim
end Go.Proofs.YtocheaahlpiajaaGreatDoor

namespace Go.Proofs.YtocheaahlpiajaaGreatDoor
open Tryz
open Go Go.Sx Go.Nsp
set_option maxRecDepth 20000
def okB (p q : Nat) : Bool := decide (0 < q /\ Nat.gcd p q = 1)
def takF (f : Fr) : Fr := if okB f.n f.d = true then f else ⟨0, 1⟩
theorem okB_iff {f : Fr} : okB f.n f.d = true ↔ okF f := by unfold okB okF; rw [decide_eq_true_eq]
theorem takF_ok (f : Fr) : okF (takF f) := by
  unfold takF
  split
  · exact okB_iff.1 (by assumption)
  · exact ⟨by decide, rfl⟩
theorem takF_id {f : Fr} (h : okF f) : takF f = f := if_pos (okB_iff.2 h)
theorem takF_len (f : Fr) : (digs (takF f).n).length <= (digs f.n).length /\ (digs (takF f).d).length <= (digs f.d).length + 1 := by
  unfold takF
  split
  · exact ⟨Nat.le_refl _, Nat.le_succ _⟩
  · have := digs_len_one (d := 1) (by decide)
    simp only [digs_zero]
    exact ⟨Nat.zero_le _, by omega⟩
theorem digs_len_0 : (digs 0).length = 0 := by rw [digs_zero]; rfl
theorem cmpN_eq {a b : Nat} : cmpN a b = 0 ↔ a = b := by unfold cmpN; split <;> (try split) <;> omega
theorem lowF_le (n d : Nat) : (lowF n d).n <= n /\ (lowF n d).d <= d := ⟨Nat.div_le_self _ _, Nat.div_le_self _ _⟩
theorem digs_pos_of {q : Nat} (h : 0 < (digs q).length) : 0 < q := Nat.pos_of_ne_zero fun e => by rw [e, digs_zero] at h; simp at h
theorem digs_len_pos {q : Nat} (h : 0 < q) : 0 < (digs q).length := by rw [digs_pos (by omega)]; simp
theorem gcd_len {n d : Nat} (h : 0 < d) : (digs (Nat.gcd n d)).length <= (digs d).length := digs_len_mono (Nat.le_of_dvd h (Nat.gcd_dvd_right n d))
theorem fone_ok (w : World) : Calls prog 111 #[] w fun r w' => ∃ A c, r = .returned (.slice A (digs 1).length c) /\ OVec w' w.heap.size 273 dv 1 A (digs 1).length c (digs 1) /\ Le w w' := by
 refine enter func111 rfl rfl ?_
 have L0 := Le.refl w
 refine WC.sr (W.run 1 rfl (W.nx (WC.sr ?_)))
 refine W.cl go107 rfl rfl (nof_ok 1 (by omega) w) ?_
 rintro _ w1_0 ⟨Ad1_0, cd1_0, rfl, o1_0, h1_0⟩
 have L1 := L0.trans h1_0
 refine W.run 1 rfl (W.nx (WC.ret ?_))
 refine E.retG1 rfl rfl ?_
 exact ⟨_, _, rfl, (o1_0.mono L0.size), L1⟩

theorem fnought_ok (w : World) : Calls prog 105 #[] w fun r w' => ∃ A1 c1 A2 c2, r = .returned (.agg #[.slice A1 (digs 0).length c1, .slice A2 (digs 1).length c2]) /\ OVec w' w.heap.size 273 dv 1 A1 (digs 0).length c1 (digs 0) /\ OVec w' w.heap.size 273 dv 1 A2 (digs 1).length c2 (digs 1) /\ Le w w' := by
 refine enter func105 rfl rfl ?_
 have L0 := Le.refl w
 refine WC.sr (W.ef rfl rfl rfl ?_)
 refine Ef.allocA z61 ?_
 intro g0_0 w0_0 hg0_0 b0_0 h0_0
 have L1 := L0.trans h0_0
 have b0_0 : Blk w0_0 g0_0 61 #[.slice none 0 0, .slice none 0 0] := b0_0
 refine W.nx (WC.sr ?_)
 refine W.cl go107 rfl rfl (nof_ok 0 (by omega) w0_0) ?_
 rintro _ w1_0 ⟨Ad1_0, cd1_0, rfl, o1_0, h1_0⟩
 have L2 := L1.trans h1_0
 refine W.cl go111 rfl rfl (fone_ok w1_0) ?_
 rintro _ w1_1 ⟨Ad1_1, cd1_1, rfl, o1_1, h1_1⟩
 have L3 := L2.trans h1_1
 refine W.a (.buildP [.slice Ad1_0 ((digs 0).length) cd1_0, .slice Ad1_1 ((digs 1).length) cd1_1] pl61 z61 rfl rfl) ?_
 have f4 := (b0_0.le (h1_0.trans h1_1))
 refine W.sA sz61 rfl rfl f4 ?_
 intro w1_3 b1_3 h1_3
 have b1_3 : Blk w1_3 g0_0 61 #[.slice Ad1_0 ((digs 0).length) cd1_0, .slice Ad1_1 ((digs 1).length) cd1_1] := b1_3
 have L5 := L3.tb h1_3 L0 hg0_0
 refine W.nx (WC.ret ?_)
 have f6 := ((o1_0.le h1_1).ch h1_3 (fun q hq => by cases hq; exact (fun he => by have := (o1_0.row he).1; have := b0_0.lt; omega)))
 have f7 := (o1_1.ch h1_3 (fun q hq => by cases hq; exact (fun he => by have := (o1_1.row he).1; have := b0_0.lt; have := h1_0.size; omega)))
 refine E.retG1 rfl (resA rfl b1_3 ag61 (by rfl)) ?_
 exact ⟨_, _, _, _, rfl, (f6.mono L1.size), (f7.mono L2.size), L5⟩

theorem frcright_ok {An Ad : Option Addr} {nn cn nd cd p q : Nat} (w : World) (hn : Vec w dv 1 An nn (digs p)) (hd : Vec w dv 1 Ad nd (digs q)) (bn : nn <= 10000) (bd : nd <= 10000) : Calls prog 40 #[.agg #[.slice An nn cn, .slice Ad nd cd]] w fun r w' => r = .returned (.bool (okB p q)) /\ Le w w' := by
 have hln := hn.1; have hld := hd.1
 have h1l := digs_len_one (d := 1) (by decide)
 refine enter func40 rfl rfl ?_
 have L0 := Le.refl w
 refine WC.sr (W.ef rfl rfl rfl ?_)
 refine Ef.boxA rfl ?_
 intro g0_0 w0_0 hg0_0 b0_0 h0_0
 have L1 := L0.trans h0_0
 have b0_0 : Blk w0_0 g0_0 61 #[.slice An nn cn, .slice Ad nd cd] := b0_0
 refine W.run 1 rfl (W.nx (WC.sr ?_))
 refine W.a (.field0 fa61_0 rfl) ?_
 refine W.r (.loadB (v := .slice An nn cn) na59 rfl b0_0 rfl) ?_
 refine W.cl go108 rfl rfl (nright_ok w0_0 (hn.le L1) (by omega)) ?_
 rintro _ w1_2 ⟨rfl, h1_2⟩
 have L2 := L1.trans h1_2
 refine W.run 1 rfl ?_
 refine W.g (Any.rd (.field0 fa61_1 rfl) _) ?_
 have f3 := (b0_0.le h1_2)
 refine W.g (.loadB (v := .slice Ad nd cd) na59 rfl f3 rfl) ?_
 refine W.efg rfl rfl rfl (rfl) rfl rfl ?_
 refine Ef.call go108 rfl rfl (nright_ok w1_2 (hd.le L2) (by omega)) ?_
 rintro _ w1_6 ⟨rfl, h1_6⟩
 refine ⟨_, rfl, ?_⟩
 have L4 := L2.trans h1_6
 refine W.run 2 rfl ?_
 refine W.g (Any.rd (.field0 fa61_1 rfl) _) ?_
 have f5 := (f3.le h1_6)
 refine W.g (.loadB (v := .slice Ad nd cd) na59 rfl f5 rfl) ?_
 refine W.g (.len underlying59 rfl) ?_
 refine W.run 2 rfl ?_
 by_cases q1_14 : 0 < ((nd : Nat) : Int)
 ·have hq0 : 0 < q := digs_pos_of (by omega)
  have hgl := gcd_len (n := p) hq0
  refine W.dt q1_14 rfl rfl ?_
  refine W.g (Any.rd (.field0 fa61_0 rfl) _) ?_
  refine W.g (.loadB (v := .slice An nn cn) na59 rfl f5 rfl) ?_
  refine W.g (Any.rd (.field0 fa61_1 rfl) _) ?_
  refine W.g (.loadB (v := .slice Ad nd cd) na59 rfl f5 rfl) ?_
  refine W.efg rfl rfl rfl (rfl) rfl rfl ?_
  refine Ef.call go110 rfl rfl (ngcd_ok w1_6 (hn.le L4) (hd.le L4) (by omega) (by omega)) ?_
  rintro _ w1_19 ⟨Ad1_19, cd1_19, rfl, o1_19, h1_19⟩
  refine ⟨_, rfl, ?_⟩
  have L6 := L4.trans h1_19
  refine W.efg rfl rfl rfl (rfl) rfl rfl ?_
  refine Ef.call go111 rfl rfl (fone_ok w1_19) ?_
  rintro _ w1_20 ⟨Ad1_20, cd1_20, rfl, o1_20, h1_20⟩
  refine ⟨_, rfl, ?_⟩
  have L7 := L6.trans h1_20
  have f8 := (o1_19.le h1_20)
  refine W.efg rfl rfl rfl (rfl) rfl rfl ?_
  refine Ef.call go109 rfl rfl (ncmp_ok w1_20 f8.vec o1_20.vec (by omega) (by omega)) ?_
  rintro _ w1_21 ⟨rfl, h1_21⟩
  refine ⟨_, rfl, ?_⟩
  have L9 := L7.trans h1_21
  refine W.run 3 rfl (W.nx (WC.ret ?_))
  refine E.retG1 rfl rfl ?_
  exact ⟨rB (by unfold okB; exact decide_eq_decide.2 ⟨fun h => ⟨hq0, cmpN_eq.1 h⟩, fun h => cmpN_eq.2 h.2⟩), L9⟩
 have hq0 : ¬ 0 < q := fun h => by have := digs_len_pos h; omega
 refine W.df q1_14 rfl rfl (W.run 10 rfl (W.nx (WC.ret ?_)))
 refine E.retG1 rfl rfl ?_
 exact ⟨rB (by unfold okB; exact (decide_eq_false (fun h => hq0 h.1)).symm), L4⟩

theorem ftaken_yes {An Ad : Option Addr} {nn cn nd cd p q : Nat} (w : World) (hn : Vec w dv 1 An nn (digs p)) (hd : Vec w dv 1 Ad nd (digs q)) (bn : nn <= 10000) (bd : nd <= 10000) (hok : okB p q = true) : Calls prog 165 #[.agg #[.slice An nn cn, .slice Ad nd cd]] w fun r w' => r = .returned (.agg #[.slice An nn cn, .slice Ad nd cd]) /\ Le w w' := by
 have hln := hn.1; have hld := hd.1
 refine enter func165 rfl rfl ?_
 have L0 := Le.refl w
 refine WC.sr (W.ef rfl rfl rfl ?_)
 refine Ef.boxA rfl ?_
 intro g0_0 w0_0 hg0_0 b0_0 h0_0
 have L1 := L0.trans h0_0
 have b0_0 : Blk w0_0 g0_0 61 #[.slice An nn cn, .slice Ad nd cd] := b0_0
 refine W.ef rfl rfl rfl ?_
 refine Ef.allocA z61 ?_
 intro g0_1 w0_1 hg0_1 b0_1 h0_1
 have L2 := L1.trans h0_1
 have b0_1 : Blk w0_1 g0_1 61 #[.slice none 0 0, .slice none 0 0] := b0_1
 refine W.nx (WC.seq (WC.sr ?_))
 have f3 := (b0_0.le h0_1)
 refine W.r (.loadAll ag61 (by rfl) rfl f3) ?_
 refine W.cl go40 rfl rfl (frcright_ok w0_1 (hn.le L2) (hd.le L2) (by omega) (by omega)) ?_
 rintro _ w1_1 ⟨rfl, h1_1⟩
 have L4 := L2.trans h1_1
 refine W.nx ?_
 refine WC.condY rfl (hok) ?_
 refine WC.sr ?_
 have f5 := (f3.le h1_1)
 refine W.r (.loadAll ag61 (by rfl) rfl f5) ?_
 have f6 := (b0_1.le h1_1)
 refine W.sA sz61 rfl rfl f6 ?_
 intro w2_1 b2_1 h2_1
 have b2_1 : Blk w2_1 g0_1 61 #[.slice An nn cn, .slice Ad nd cd] := b2_1
 have L7 := L4.tb h2_1 L1 hg0_1
 refine W.nx (WC.ret (E.thenR ?_))
 refine E.retG1 rfl (resA rfl b2_1 ag61 (by rfl)) ?_
 exact ⟨rfl, L7⟩

theorem ftaken_no {An Ad : Option Addr} {nn cn nd cd p q : Nat} (w : World) (hn : Vec w dv 1 An nn (digs p)) (hd : Vec w dv 1 Ad nd (digs q)) (bn : nn <= 10000) (bd : nd <= 10000) (hok : ¬ okB p q = true) : Calls prog 165 #[.agg #[.slice An nn cn, .slice Ad nd cd]] w fun r w' => ∃ A1 c1 A2 c2, r = .returned (.agg #[.slice A1 (digs 0).length c1, .slice A2 (digs 1).length c2]) /\ OVec w' w.heap.size 273 dv 1 A1 (digs 0).length c1 (digs 0) /\ OVec w' w.heap.size 273 dv 1 A2 (digs 1).length c2 (digs 1) /\ Le w w' := by
 have hln := hn.1; have hld := hd.1
 refine enter func165 rfl rfl ?_
 have L0 := Le.refl w
 refine WC.sr (W.ef rfl rfl rfl ?_)
 refine Ef.boxA rfl ?_
 intro g0_0 w0_0 hg0_0 b0_0 h0_0
 have L1 := L0.trans h0_0
 have b0_0 : Blk w0_0 g0_0 61 #[.slice An nn cn, .slice Ad nd cd] := b0_0
 refine W.ef rfl rfl rfl ?_
 refine Ef.allocA z61 ?_
 intro g0_1 w0_1 hg0_1 b0_1 h0_1
 have L2 := L1.trans h0_1
 have b0_1 : Blk w0_1 g0_1 61 #[.slice none 0 0, .slice none 0 0] := b0_1
 refine W.nx (WC.seq (WC.sr ?_))
 have f3 := (b0_0.le h0_1)
 refine W.r (.loadAll ag61 (by rfl) rfl f3) ?_
 refine W.cl go40 rfl rfl (frcright_ok w0_1 (hn.le L2) (hd.le L2) (by omega) (by omega)) ?_
 rintro _ w1_1 ⟨rfl, h1_1⟩
 have L4 := L2.trans h1_1
 refine W.nx ?_
 refine WC.condN rfl ((Bool.eq_false_iff.2 hok)) ?_
 refine WC.sn (WC.sr ?_)
 refine W.cl go105 rfl rfl (fnought_ok w1_1) ?_
 rintro _ w3_0 ⟨An3_0, cn3_0, Ad3_0, cd3_0, rfl, on3_0, od3_0, h3_0⟩
 have L5 := L4.trans h3_0
 have f6 := (b0_1.le (h1_1.trans h3_0))
 refine W.sA sz61 rfl rfl f6 ?_
 intro w3_1 b3_1 h3_1
 have b3_1 : Blk w3_1 g0_1 61 #[.slice An3_0 ((digs 0).length) cn3_0, .slice Ad3_0 ((digs 1).length) cd3_0] := b3_1
 have L7 := L5.tb h3_1 L1 hg0_1
 refine W.nx (WC.ret ?_)
 have f8 := (on3_0.ch h3_1 (fun q hq => by cases hq; exact (fun he => by have := (on3_0.row he).1; have := b0_1.lt; have := h1_1.size; omega)))
 have f9 := (od3_0.ch h3_1 (fun q hq => by cases hq; exact (fun he => by have := (od3_0.row he).1; have := b0_1.lt; have := h1_1.size; omega)))
 refine E.retG1 rfl (resA rfl b3_1 ag61 (by rfl)) ?_
 exact ⟨_, _, _, _, rfl, (f8.mono L4.size), (f9.mono L4.size), L7⟩

theorem flow1_ok {A Ag : Option Addr} {n c ng cg a g g1 : Nat} (w : World) (hb1 : Blk w g1 59 #[.slice Ag ng cg]) (hV : Vec w dv 1 A n (digs a)) (hG : Vec w dv 1 Ag ng (digs g)) (hg0 : 0 < g) (hn : n <= 90000) (hg1 : ng <= 90000) : Calls prog 208 #[.slice A n c, .pointer (some ⟨g1, 0, none⟩)] w fun r w' => ∃ A c, r = .returned (.slice A (digs (a / g)).length c) /\ OVec w' w.heap.size 273 dv 1 A (digs (a / g)).length c (digs (a / g)) /\ Le w w' := by
 have hl := hV.1; have hl2 := hG.1
 refine enter func208 rfl rfl ?_
 have L0 := Le.refl w
 refine WC.sr (W.run 1 rfl (W.nx (WC.sr (W.run 1 rfl ?_))))
 refine W.r (.loadB (v := .slice Ag ng cg) na59 rfl (hb1.le L0) rfl) ?_
 refine W.cl go209 rfl rfl (ndivmod_ok w (hV.le L0) (hG.le L0) (by omega) (by omega) (by omega)) ?_
 rintro _ w1_2 ⟨Aq1_2, cq1_2, Ar1_2, cr1_2, rfl, oq1_2, or1_2, h1_2⟩
 have L1 := L0.trans h1_2
 refine W.run 7 rfl (W.nx (WC.sr (W.run 2 rfl (W.nx (WC.ret ?_)))))
 refine E.retG1 rfl rfl ?_
 exact ⟨_, _, rfl, (oq1_2.mono L0.size), L1⟩

theorem flow_ok {A A2 : Option Addr} {n c m c2 a b : Nat} (w : World) (hV : Vec w dv 1 A n (digs a)) (hW : Vec w dv 1 A2 m (digs b)) (hb : 0 < b) (hn : n <= 90000) (hm : m <= 90000) : Calls prog 106 #[.slice A n c, .slice A2 m c2] w fun r w' => ∃ A1 c1 A2 c2, r = .returned (.agg #[.slice A1 (digs (lowF a b).n).length c1, .slice A2 (digs (lowF a b).d).length c2]) /\ OVec w' w.heap.size 273 dv 1 A1 (digs (lowF a b).n).length c1 (digs (lowF a b).n) /\ OVec w' w.heap.size 273 dv 1 A2 (digs (lowF a b).d).length c2 (digs (lowF a b).d) /\ Le w w' := by
 have hl := hV.1; have hl2 := hW.1
 have hg0 : 0 < Nat.gcd a b := gcd_pos hb
 have hgl := gcd_len (n := a) hb
 refine enter func106 rfl rfl ?_
 have L0 := Le.refl w
 refine WC.sr (W.ef rfl rfl rfl ?_)
 refine Ef.allocA z61 ?_
 intro g0_0 w0_0 hg0_0 b0_0 h0_0
 have L1 := L0.trans h0_0
 have b0_0 : Blk w0_0 g0_0 61 #[.slice none 0 0, .slice none 0 0] := b0_0
 refine W.nx (WC.sr (W.run 2 rfl ?_))
 refine W.cl go110 rfl rfl (ngcd_ok w0_0 (hV.le L1) (hW.le L1) (by omega) (by omega)) ?_
 rintro _ w1_2 ⟨Ad1_2, cd1_2, rfl, o1_2, h1_2⟩
 have L2 := L1.trans h1_2
 refine W.ef rfl rfl rfl ?_
 refine Ef.alloc z59 ?_
 intro g1_3 w1_3 hg1_3 b1_3 h1_3
 have L3 := L2.trans h1_3
 have b1_3 : Blk w1_3 g1_3 59 #[.slice none 0 0] := b1_3
 refine W.ef0 rfl rfl ?_
 refine Ef.store sz59 rfl rfl b1_3 (by first | decide | (simp; done)) (rfl) ?_
 intro w1_4 b1_4 h1_4
 have b1_4 : Blk w1_4 g1_3 59 #[.slice Ad1_2 ((digs (Nat.gcd a b)).length) cd1_2] := b1_4
 have L4 := L3.tb h1_4 L2 hg1_3
 refine W.nx (WC.sr ?_)
 refine W.a (.makeFunc rfl) ?_
 refine W.run 1 rfl (W.nx (WC.sr (W.run 2 rfl ?_)))
 have f5 := ((o1_2.le h1_3).ch h1_4 (fun q hq => by cases hq; exact (fun he => by have := (o1_2.row he).2; omega)))
 refine W.ef rfl rfl rfl ?_
 refine Ef.callC go208 rfl rfl rfl (flow1_ok w1_4 b1_4 (hV.le L4) f5.vec (by assumption) (by omega) (by omega)) ?_
 rintro _ w3_2 ⟨Ad3_2, cd3_2, rfl, o3_2, h3_2⟩
 refine ⟨_, rfl, ?_⟩
 have L6 := L4.trans h3_2
 refine W.run 2 rfl ?_
 have f7 := (b1_4.le h3_2)
 have f8 := (f5.le h3_2)
 refine W.ef rfl rfl rfl ?_
 refine Ef.callC go208 rfl rfl rfl (flow1_ok w3_2 f7 (hW.le L6) f8.vec (by assumption) (by omega) (by omega)) ?_
 rintro _ w3_5 ⟨Ad3_5, cd3_5, rfl, o3_5, h3_5⟩
 refine ⟨_, rfl, ?_⟩
 have L9 := L6.trans h3_5
 refine W.a (.buildP [.slice Ad3_2 ((digs (a / (Nat.gcd a b))).length) cd3_2, .slice Ad3_5 ((digs (b / (Nat.gcd a b))).length) cd3_5] pl61 z61 rfl rfl) ?_
 have f10 := (((b0_0.le (h1_2.trans h1_3)).ch h1_4 (fun h => (show g1_3 ≠ g0_0 from by have := b0_0.lt; have := h1_2.size; omega) (Option.some.inj h))).le (h3_2.trans h3_5))
 refine W.sA sz61 rfl rfl f10 ?_
 intro w3_7 b3_7 h3_7
 have b3_7 : Blk w3_7 g0_0 61 #[.slice Ad3_2 ((digs (a / (Nat.gcd a b))).length) cd3_2, .slice Ad3_5 ((digs (b / (Nat.gcd a b))).length) cd3_5] := b3_7
 have L11 := L9.tb h3_7 L0 hg0_0
 refine W.nx (WC.ret ?_)
 have f12 := ((o3_2.le h3_5).ch h3_7 (fun q hq => by cases hq; exact (fun he => by have := (o3_2.row he).1; have := b0_0.lt; have := h1_2.size; have := h1_3.size; have := h1_4.size; omega)))
 have f13 := (o3_5.ch h3_7 (fun q hq => by cases hq; exact (fun he => by have := (o3_5.row he).1; have := b0_0.lt; have := h1_2.size; have := h1_3.size; have := h1_4.size; have := h3_2.size; omega)))
 refine E.retG1 rfl (resA rfl b3_7 ag61 (by rfl)) ?_
 exact ⟨_, _, _, _, rfl, (f12.mono L4.size), (f13.mono L6.size), L11⟩

theorem fof_ok (a b : Nat) (w : World) (hb : 0 < b) (ha : a < 18446744073709551616) (hb2 : b < 18446744073709551616) : Calls prog 39 #[.int .u64 (((a : Nat) : Int)), .int .u64 (((b : Nat) : Int))] w fun r w' => ∃ A1 c1 A2 c2, r = .returned (.tuple #[.agg #[.slice A1 (digs (lowF a b).n).length c1, .slice A2 (digs (lowF a b).d).length c2], .bool true]) /\ OVec w' w.heap.size 273 dv 1 A1 (digs (lowF a b).n).length c1 (digs (lowF a b).n) /\ OVec w' w.heap.size 273 dv 1 A2 (digs (lowF a b).d).length c2 (digs (lowF a b).d) /\ Le w w' := by
 have hla := digs_len_pow 2 (a := a) ha; have hlb := digs_len_pow 2 (a := b) hb2
 refine enter func39 rfl rfl ?_
 have L0 := Le.refl w
 refine WC.sr (W.ef rfl rfl rfl ?_)
 refine Ef.allocA z61 ?_
 intro g0_0 w0_0 hg0_0 b0_0 h0_0
 have L1 := L0.trans h0_0
 have b0_0 : Blk w0_0 g0_0 61 #[.slice none 0 0, .slice none 0 0] := b0_0
 refine W.run 1 rfl (W.nx (WC.seq (WC.sr (W.run 1 rfl ?_))))
 refine W.a (.dec (.eql rfl rfl) (decide_eq_false (by omega))) ?_
 refine W.nx (WC.condF rfl (WC.sn (WC.sr (W.run 1 rfl ?_))))
 refine W.cl go107 rfl rfl (nof_ok a (by omega) w0_0) ?_
 rintro _ w3_1 ⟨Ad3_1, cd3_1, rfl, o3_1, h3_1⟩
 have L2 := L1.trans h3_1
 refine W.run 1 rfl ?_
 refine W.cl go107 rfl rfl (nof_ok b (by omega) w3_1) ?_
 rintro _ w3_3 ⟨Ad3_3, cd3_3, rfl, o3_3, h3_3⟩
 have L3 := L2.trans h3_3
 have f4 := (o3_1.le h3_3)
 refine W.cl go106 rfl rfl (flow_ok w3_3 f4.vec o3_3.vec (by assumption) (by omega) (by omega)) ?_
 rintro _ w3_4 ⟨An3_4, cn3_4, Ad3_4, cd3_4, rfl, on3_4, od3_4, h3_4⟩
 have L5 := L3.trans h3_4
 have f6 := (b0_0.le (h3_1.trans (h3_3.trans h3_4)))
 refine W.sA sz61 rfl rfl f6 ?_
 intro w3_5 b3_5 h3_5
 have b3_5 : Blk w3_5 g0_0 61 #[.slice An3_4 ((digs ((lowF a b).n)).length) cn3_4, .slice Ad3_4 ((digs ((lowF a b).d)).length) cd3_4] := b3_5
 have L7 := L5.tb h3_5 L0 hg0_0
 refine W.run 1 rfl (W.nx (WC.ret ?_))
 have f8 := (on3_4.ch h3_5 (fun q hq => by cases hq; exact (fun he => by have := (on3_4.row he).1; have := b0_0.lt; have := h3_1.size; have := h3_3.size; omega)))
 have f9 := (od3_4.ch h3_5 (fun q hq => by cases hq; exact (fun he => by have := (od3_4.row he).1; have := b0_0.lt; have := h3_1.size; have := h3_3.size; omega)))
 refine E.retG2 rfl (resA rfl b3_5 ag61 (by rfl)) rfl ?_
 exact ⟨_, _, _, _, rfl, (f8.mono L3.size), (f9.mono L3.size), L7⟩

theorem fcross_ok {An1 Ad1 : Option Addr} {nn1 cn1 nd1 cd1 p1 q1 : Nat} {An2 Ad2 : Option Addr} {nn2 cn2 nd2 cd2 p2 q2 : Nat} (w : World) (hn1 : Vec w dv 1 An1 nn1 (digs p1)) (hd1 : Vec w dv 1 Ad1 nd1 (digs q1)) (bn1 : nn1 <= 10000) (bd1 : nd1 <= 10000) (hn2 : Vec w dv 1 An2 nn2 (digs p2)) (hd2 : Vec w dv 1 Ad2 nd2 (digs q2)) (bn2 : nn2 <= 10000) (bd2 : nd2 <= 10000) : Calls prog 112 #[.agg #[.slice An1 nn1 cn1, .slice Ad1 nd1 cd1], .agg #[.slice An2 nn2 cn2, .slice Ad2 nd2 cd2]] w fun r w' => ∃ A1 c1 A2 c2 A3 c3, r = .returned (.tuple #[.slice A1 (digs ((takF ⟨p1, q1⟩).n * (takF ⟨p2, q2⟩).d)).length c1, .slice A2 (digs ((takF ⟨p2, q2⟩).n * (takF ⟨p1, q1⟩).d)).length c2, .slice A3 (digs ((takF ⟨p1, q1⟩).d * (takF ⟨p2, q2⟩).d)).length c3]) /\ OVec w' w.heap.size 273 dv 1 A1 (digs ((takF ⟨p1, q1⟩).n * (takF ⟨p2, q2⟩).d)).length c1 (digs ((takF ⟨p1, q1⟩).n * (takF ⟨p2, q2⟩).d)) /\ OVec w' w.heap.size 273 dv 1 A2 (digs ((takF ⟨p2, q2⟩).n * (takF ⟨p1, q1⟩).d)).length c2 (digs ((takF ⟨p2, q2⟩).n * (takF ⟨p1, q1⟩).d)) /\ OVec w' w.heap.size 273 dv 1 A3 (digs ((takF ⟨p1, q1⟩).d * (takF ⟨p2, q2⟩).d)).length c3 (digs ((takF ⟨p1, q1⟩).d * (takF ⟨p2, q2⟩).d)) /\ Le w w' := by
 have hln1 := hn1.1; have hld1 := hd1.1
 have hln2 := hn2.1; have hld2 := hd2.1
 have h1l := digs_len_one (d := 1) (by decide)
 have h0l := digs_len_0
 refine enter func112 rfl rfl ?_
 have L0 := Le.refl w
 refine WC.sr (W.ef rfl rfl rfl ?_)
 refine Ef.boxA rfl ?_
 intro g0_0 w0_0 hg0_0 b0_0 h0_0
 have L1 := L0.trans h0_0
 have b0_0 : Blk w0_0 g0_0 61 #[.slice An1 nn1 cn1, .slice Ad1 nd1 cd1] := b0_0
 refine W.ef rfl rfl rfl ?_
 refine Ef.boxA rfl ?_
 intro g0_1 w0_1 hg0_1 b0_1 h0_1
 have L2 := L1.trans h0_1
 have b0_1 : Blk w0_1 g0_1 61 #[.slice An2 nn2 cn2, .slice Ad2 nd2 cd2] := b0_1
 refine W.run 3 rfl (W.nx (WC.seq ?_))
 refine WC.draw [0, 2, 1, 3, 4, 5] mixed (by kernel_rfl) ?_
 intro w1 d1
 have L3 := L2.trans d1
 have f4 := (b0_0.le (h0_1.trans d1))
 refine G.r rfl (.loadAll ag61 (by rfl) rfl f4) ?_
 have f5 := (b0_1.le d1)
 refine G.r rfl (.loadAll ag61 (by rfl) rfl f5) ?_
 by_cases qc1_1 : (okB p1 q1) = true
 ·have htk1 : takF ⟨p1, q1⟩ = ⟨p1, q1⟩ := if_pos qc1_1
  refine G.ef rfl rfl rfl rfl rfl ?_
  refine Ef.call go165 rfl rfl (ftaken_yes w1 (hn1.le L3) (hd1.le L3) (by omega) (by omega) qc1_1) ?_
  rintro _ w1_1 ⟨rfl, h1_1⟩
  refine ⟨_, rfl, ?_⟩
  refine ⟨fun _ => h1_1, ?_⟩
  have L6 := L3.trans h1_1
  by_cases qc1_3 : (okB p2 q2) = true
  ·have htk2 : takF ⟨p2, q2⟩ = ⟨p2, q2⟩ := if_pos qc1_3
   refine G.ef rfl rfl rfl rfl rfl ?_
   refine Ef.call go165 rfl rfl (ftaken_yes w1_1 (hn2.le L6) (hd2.le L6) (by omega) (by omega) qc1_3) ?_
   rintro _ w1_3 ⟨rfl, h1_3⟩
   refine ⟨_, rfl, ?_⟩
   refine ⟨fun _ => h1_3, ?_⟩
   have L7 := L6.trans h1_3
   have f8 := (f4.le (h1_1.trans h1_3))
   refine G.ef0 rfl rfl rfl rfl ?_
   refine Ef.storeAll sz61 (by rfl) rfl rfl f8 (by rfl) (by simp [Value.oneCell']) ?_
   intro w1_4 b1_4 h1_4
   refine noT (by kernel_rfl) ?_
   have b1_4 : Blk w1_4 g0_0 61 #[.slice An1 nn1 cn1, .slice Ad1 nd1 cd1] := b1_4
   have L9 := L7.tb h1_4 L0 hg0_0
   have f10 := ((f5.le (h1_1.trans h1_3)).ch h1_4 (fun h => (show g0_0 ≠ g0_1 from by have := b0_0.lt; omega) (Option.some.inj h)))
   refine G.ef0 rfl rfl rfl rfl ?_
   refine Ef.storeAll sz61 (by rfl) rfl rfl f10 (by rfl) (by simp [Value.oneCell']) ?_
   intro w1_5 b1_5 h1_5
   refine noT (by kernel_rfl) ?_
   have b1_5 : Blk w1_5 g0_1 61 #[.slice An2 nn2 cn2, .slice Ad2 nd2 cd2] := b1_5
   have L11 := L9.tb h1_5 L1 hg0_1
   refine G.nil (E.thenN (WC.seq ?_))
   refine WC.draw [0, 1, 2, 3, 5, 6, 7, 8, 10, 11, 12, 13, 4, 9, 14, 15, 16, 17] mixed (by kernel_rfl) ?_
   intro w2 d2
   have L12 := L11.trans d2
   refine G.a rfl (.field0 fa61_0 rfl) ?_
   have f13 := ((b1_4.ch h1_5 (fun h => (show g0_1 ≠ g0_0 from by have := b0_0.lt; omega) (Option.some.inj h))).le d2)
   refine G.r rfl (.loadB (v := .slice An1 nn1 cn1) na59 rfl f13 rfl) ?_
   refine G.a rfl (.field0 fa61_1 rfl) ?_
   have f14 := (b1_5.le d2)
   refine G.r rfl (.loadB (v := .slice Ad2 nd2 cd2) na59 rfl f14 rfl) ?_
   refine G.a rfl (.field0 fa61_0 rfl) ?_
   refine G.r rfl (.loadB (v := .slice An2 nn2 cn2) na59 rfl f14 rfl) ?_
   refine G.a rfl (.field0 fa61_1 rfl) ?_
   refine G.r rfl (.loadB (v := .slice Ad1 nd1 cd1) na59 rfl f13 rfl) ?_
   refine G.a rfl (.field0 fa61_1 rfl) ?_
   refine G.r rfl (.loadB (v := .slice Ad1 nd1 cd1) na59 rfl f13 rfl) ?_
   refine G.a rfl (.field0 fa61_1 rfl) ?_
   refine G.r rfl (.loadB (v := .slice Ad2 nd2 cd2) na59 rfl f14 rfl) ?_
   refine G.ef rfl rfl rfl rfl rfl ?_
   refine Ef.call go182 rfl rfl (nmul_ok w2 (hn1.le L12) (hd2.le L12) (by omega) (by omega)) ?_
   rintro _ w2_4 ⟨Ad2_4, cd2_4, rfl, o2_4, h2_4⟩
   refine ⟨_, rfl, ?_⟩
   refine ⟨fun _ => h2_4, ?_⟩
   have L15 := L12.trans h2_4
   refine G.ef rfl rfl rfl rfl rfl ?_
   refine Ef.call go182 rfl rfl (nmul_ok w2_4 (hn2.le L15) (hd1.le L15) (by omega) (by omega)) ?_
   rintro _ w2_9 ⟨Ad2_9, cd2_9, rfl, o2_9, h2_9⟩
   refine ⟨_, rfl, ?_⟩
   refine ⟨fun _ => h2_9, ?_⟩
   have L16 := L15.trans h2_9
   refine G.ef rfl rfl rfl rfl rfl ?_
   refine Ef.call go182 rfl rfl (nmul_ok w2_9 (hd1.le L16) (hd2.le L16) (by omega) (by omega)) ?_
   rintro _ w2_14 ⟨Ad2_14, cd2_14, rfl, o2_14, h2_14⟩
   refine ⟨_, rfl, ?_⟩
   refine ⟨fun _ => h2_14, ?_⟩
   have L17 := L16.trans h2_14
   refine G.run 3 rfl (G.nil (E.thenN (WC.ret ?_)))
   have f18 := (o2_4.le (h2_9.trans h2_14))
   have f19 := (o2_9.le h2_14)
   refine E.retG3 rfl rfl rfl rfl ?_
   rw [htk1, htk2]
   exact ⟨_, _, _, _, _, _, rfl, (f18.mono L12.size), (f19.mono L15.size), (o2_14.mono L16.size), L17⟩
  have htk2 : takF ⟨p2, q2⟩ = ⟨0, 1⟩ := if_neg qc1_3
  refine G.ef rfl rfl rfl rfl rfl ?_
  refine Ef.call go165 rfl rfl (ftaken_no w1_1 (hn2.le L6) (hd2.le L6) (by omega) (by omega) qc1_3) ?_
  rintro _ w1_3_1 ⟨An1_3_1, cn1_3_1, Ad1_3_1, cd1_3_1, rfl, on1_3_1, od1_3_1, h1_3_1⟩
  refine ⟨_, rfl, ?_⟩
  refine ⟨fun _ => h1_3_1, ?_⟩
  have L20 := L6.trans h1_3_1
  have f21 := (f4.le (h1_1.trans h1_3_1))
  refine G.ef0 rfl rfl rfl rfl ?_
  refine Ef.storeAll sz61 (by rfl) rfl rfl f21 (by rfl) (by simp [Value.oneCell']) ?_
  intro w1_4_1 b1_4_1 h1_4_1
  refine noT (by kernel_rfl) ?_
  have b1_4_1 : Blk w1_4_1 g0_0 61 #[.slice An1 nn1 cn1, .slice Ad1 nd1 cd1] := b1_4_1
  have L22 := L20.tb h1_4_1 L0 hg0_0
  have f23 := ((f5.le (h1_1.trans h1_3_1)).ch h1_4_1 (fun h => (show g0_0 ≠ g0_1 from by have := b0_0.lt; omega) (Option.some.inj h)))
  refine G.ef0 rfl rfl rfl rfl ?_
  refine Ef.storeAll sz61 (by rfl) rfl rfl f23 (by rfl) (by simp [Value.oneCell']) ?_
  intro w1_5_1 b1_5_1 h1_5_1
  refine noT (by kernel_rfl) ?_
  have b1_5_1 : Blk w1_5_1 g0_1 61 #[.slice An1_3_1 ((digs 0).length) cn1_3_1, .slice Ad1_3_1 ((digs 1).length) cd1_3_1] := b1_5_1
  have L24 := L22.tb h1_5_1 L1 hg0_1
  refine G.nil (E.thenN (WC.seq ?_))
  refine WC.draw [0, 1, 2, 3, 5, 6, 7, 8, 10, 11, 12, 13, 4, 9, 14, 15, 16, 17] mixed (by kernel_rfl) ?_
  intro w2 d2
  have L25 := L24.trans d2
  refine G.a rfl (.field0 fa61_0 rfl) ?_
  have f26 := ((b1_4_1.ch h1_5_1 (fun h => (show g0_1 ≠ g0_0 from by have := b0_0.lt; omega) (Option.some.inj h))).le d2)
  refine G.r rfl (.loadB (v := .slice An1 nn1 cn1) na59 rfl f26 rfl) ?_
  refine G.a rfl (.field0 fa61_1 rfl) ?_
  have f27 := (b1_5_1.le d2)
  refine G.r rfl (.loadB (v := .slice Ad1_3_1 ((digs 1).length) cd1_3_1) na59 rfl f27 rfl) ?_
  refine G.a rfl (.field0 fa61_0 rfl) ?_
  refine G.r rfl (.loadB (v := .slice An1_3_1 ((digs 0).length) cn1_3_1) na59 rfl f27 rfl) ?_
  refine G.a rfl (.field0 fa61_1 rfl) ?_
  refine G.r rfl (.loadB (v := .slice Ad1 nd1 cd1) na59 rfl f26 rfl) ?_
  refine G.a rfl (.field0 fa61_1 rfl) ?_
  refine G.r rfl (.loadB (v := .slice Ad1 nd1 cd1) na59 rfl f26 rfl) ?_
  refine G.a rfl (.field0 fa61_1 rfl) ?_
  refine G.r rfl (.loadB (v := .slice Ad1_3_1 ((digs 1).length) cd1_3_1) na59 rfl f27 rfl) ?_
  have f28 := (((od1_3_1.ch h1_4_1 (fun q hq => by cases hq; exact (fun he => by have := (od1_3_1.row he).1; have := f4.lt; have := h1_1.size; omega))).ch h1_5_1 (fun q hq => by cases hq; exact (fun he => by have := (od1_3_1.row he).1; have := f5.lt; have := h1_1.size; omega))).le d2)
  refine G.ef rfl rfl rfl rfl rfl ?_
  refine Ef.call go182 rfl rfl (nmul_ok w2 (hn1.le L25) f28.vec (by omega) (by omega)) ?_
  rintro _ w2_4_1 ⟨Ad2_4_1, cd2_4_1, rfl, o2_4_1, h2_4_1⟩
  refine ⟨_, rfl, ?_⟩
  refine ⟨fun _ => h2_4_1, ?_⟩
  have L29 := L25.trans h2_4_1
  have f30 := (((on1_3_1.ch h1_4_1 (fun q hq => by cases hq; exact (fun he => by have := (on1_3_1.row he).1; have := f4.lt; have := h1_1.size; omega))).ch h1_5_1 (fun q hq => by cases hq; exact (fun he => by have := (on1_3_1.row he).1; have := f5.lt; have := h1_1.size; omega))).le (d2.trans h2_4_1))
  refine G.ef rfl rfl rfl rfl rfl ?_
  refine Ef.call go182 rfl rfl (nmul_ok w2_4_1 f30.vec (hd1.le L29) (by omega) (by omega)) ?_
  rintro _ w2_9_1 ⟨Ad2_9_1, cd2_9_1, rfl, o2_9_1, h2_9_1⟩
  refine ⟨_, rfl, ?_⟩
  refine ⟨fun _ => h2_9_1, ?_⟩
  have L31 := L29.trans h2_9_1
  have f32 := (f28.le (h2_4_1.trans h2_9_1))
  refine G.ef rfl rfl rfl rfl rfl ?_
  refine Ef.call go182 rfl rfl (nmul_ok w2_9_1 (hd1.le L31) f32.vec (by omega) (by omega)) ?_
  rintro _ w2_14_1 ⟨Ad2_14_1, cd2_14_1, rfl, o2_14_1, h2_14_1⟩
  refine ⟨_, rfl, ?_⟩
  refine ⟨fun _ => h2_14_1, ?_⟩
  have L33 := L31.trans h2_14_1
  refine G.run 3 rfl (G.nil (E.thenN (WC.ret ?_)))
  have f34 := (o2_4_1.le (h2_9_1.trans h2_14_1))
  have f35 := (o2_9_1.le h2_14_1)
  refine E.retG3 rfl rfl rfl rfl ?_
  rw [htk1, htk2]
  exact ⟨_, _, _, _, _, _, rfl, (f34.mono L25.size), (f35.mono L29.size), (o2_14_1.mono L31.size), L33⟩
 have htk1 : takF ⟨p1, q1⟩ = ⟨0, 1⟩ := if_neg qc1_1
 refine G.ef rfl rfl rfl rfl rfl ?_
 refine Ef.call go165 rfl rfl (ftaken_no w1 (hn1.le L3) (hd1.le L3) (by omega) (by omega) qc1_1) ?_
 rintro _ w1_1_1 ⟨An1_1_1, cn1_1_1, Ad1_1_1, cd1_1_1, rfl, on1_1_1, od1_1_1, h1_1_1⟩
 refine ⟨_, rfl, ?_⟩
 refine ⟨fun _ => h1_1_1, ?_⟩
 have L36 := L3.trans h1_1_1
 by_cases qc1_3 : (okB p2 q2) = true
 ·have htk2 : takF ⟨p2, q2⟩ = ⟨p2, q2⟩ := if_pos qc1_3
  refine G.ef rfl rfl rfl rfl rfl ?_
  refine Ef.call go165 rfl rfl (ftaken_yes w1_1_1 (hn2.le L36) (hd2.le L36) (by omega) (by omega) qc1_3) ?_
  rintro _ w1_3_2 ⟨rfl, h1_3_2⟩
  refine ⟨_, rfl, ?_⟩
  refine ⟨fun _ => h1_3_2, ?_⟩
  have L37 := L36.trans h1_3_2
  have f38 := (f4.le (h1_1_1.trans h1_3_2))
  refine G.ef0 rfl rfl rfl rfl ?_
  refine Ef.storeAll sz61 (by rfl) rfl rfl f38 (by rfl) (by simp [Value.oneCell']) ?_
  intro w1_4_2 b1_4_2 h1_4_2
  refine noT (by kernel_rfl) ?_
  have b1_4_2 : Blk w1_4_2 g0_0 61 #[.slice An1_1_1 ((digs 0).length) cn1_1_1, .slice Ad1_1_1 ((digs 1).length) cd1_1_1] := b1_4_2
  have L39 := L37.tb h1_4_2 L0 hg0_0
  have f40 := ((f5.le (h1_1_1.trans h1_3_2)).ch h1_4_2 (fun h => (show g0_0 ≠ g0_1 from by have := b0_0.lt; omega) (Option.some.inj h)))
  refine G.ef0 rfl rfl rfl rfl ?_
  refine Ef.storeAll sz61 (by rfl) rfl rfl f40 (by rfl) (by simp [Value.oneCell']) ?_
  intro w1_5_2 b1_5_2 h1_5_2
  refine noT (by kernel_rfl) ?_
  have b1_5_2 : Blk w1_5_2 g0_1 61 #[.slice An2 nn2 cn2, .slice Ad2 nd2 cd2] := b1_5_2
  have L41 := L39.tb h1_5_2 L1 hg0_1
  refine G.nil (E.thenN (WC.seq ?_))
  refine WC.draw [0, 1, 2, 3, 5, 6, 7, 8, 10, 11, 12, 13, 4, 9, 14, 15, 16, 17] mixed (by kernel_rfl) ?_
  intro w2 d2
  have L42 := L41.trans d2
  refine G.a rfl (.field0 fa61_0 rfl) ?_
  have f43 := ((b1_4_2.ch h1_5_2 (fun h => (show g0_1 ≠ g0_0 from by have := b0_0.lt; omega) (Option.some.inj h))).le d2)
  refine G.r rfl (.loadB (v := .slice An1_1_1 ((digs 0).length) cn1_1_1) na59 rfl f43 rfl) ?_
  refine G.a rfl (.field0 fa61_1 rfl) ?_
  have f44 := (b1_5_2.le d2)
  refine G.r rfl (.loadB (v := .slice Ad2 nd2 cd2) na59 rfl f44 rfl) ?_
  refine G.a rfl (.field0 fa61_0 rfl) ?_
  refine G.r rfl (.loadB (v := .slice An2 nn2 cn2) na59 rfl f44 rfl) ?_
  refine G.a rfl (.field0 fa61_1 rfl) ?_
  refine G.r rfl (.loadB (v := .slice Ad1_1_1 ((digs 1).length) cd1_1_1) na59 rfl f43 rfl) ?_
  refine G.a rfl (.field0 fa61_1 rfl) ?_
  refine G.r rfl (.loadB (v := .slice Ad1_1_1 ((digs 1).length) cd1_1_1) na59 rfl f43 rfl) ?_
  refine G.a rfl (.field0 fa61_1 rfl) ?_
  refine G.r rfl (.loadB (v := .slice Ad2 nd2 cd2) na59 rfl f44 rfl) ?_
  have f45 := ((((on1_1_1.le h1_3_2).ch h1_4_2 (fun q hq => by cases hq; exact (fun he => by have := (on1_1_1.row he).1; have := f4.lt; omega))).ch h1_5_2 (fun q hq => by cases hq; exact (fun he => by have := (on1_1_1.row he).1; have := f5.lt; omega))).le d2)
  refine G.ef rfl rfl rfl rfl rfl ?_
  refine Ef.call go182 rfl rfl (nmul_ok w2 f45.vec (hd2.le L42) (by omega) (by omega)) ?_
  rintro _ w2_4_2 ⟨Ad2_4_2, cd2_4_2, rfl, o2_4_2, h2_4_2⟩
  refine ⟨_, rfl, ?_⟩
  refine ⟨fun _ => h2_4_2, ?_⟩
  have L46 := L42.trans h2_4_2
  have f47 := ((((od1_1_1.le h1_3_2).ch h1_4_2 (fun q hq => by cases hq; exact (fun he => by have := (od1_1_1.row he).1; have := f4.lt; omega))).ch h1_5_2 (fun q hq => by cases hq; exact (fun he => by have := (od1_1_1.row he).1; have := f5.lt; omega))).le (d2.trans h2_4_2))
  refine G.ef rfl rfl rfl rfl rfl ?_
  refine Ef.call go182 rfl rfl (nmul_ok w2_4_2 (hn2.le L46) f47.vec (by omega) (by omega)) ?_
  rintro _ w2_9_2 ⟨Ad2_9_2, cd2_9_2, rfl, o2_9_2, h2_9_2⟩
  refine ⟨_, rfl, ?_⟩
  refine ⟨fun _ => h2_9_2, ?_⟩
  have L48 := L46.trans h2_9_2
  have f49 := (f47.le h2_9_2)
  refine G.ef rfl rfl rfl rfl rfl ?_
  refine Ef.call go182 rfl rfl (nmul_ok w2_9_2 f49.vec (hd2.le L48) (by omega) (by omega)) ?_
  rintro _ w2_14_2 ⟨Ad2_14_2, cd2_14_2, rfl, o2_14_2, h2_14_2⟩
  refine ⟨_, rfl, ?_⟩
  refine ⟨fun _ => h2_14_2, ?_⟩
  have L50 := L48.trans h2_14_2
  refine G.run 3 rfl (G.nil (E.thenN (WC.ret ?_)))
  have f51 := (o2_4_2.le (h2_9_2.trans h2_14_2))
  have f52 := (o2_9_2.le h2_14_2)
  refine E.retG3 rfl rfl rfl rfl ?_
  rw [htk1, htk2]
  exact ⟨_, _, _, _, _, _, rfl, (f51.mono L42.size), (f52.mono L46.size), (o2_14_2.mono L48.size), L50⟩
 have htk2 : takF ⟨p2, q2⟩ = ⟨0, 1⟩ := if_neg qc1_3
 refine G.ef rfl rfl rfl rfl rfl ?_
 refine Ef.call go165 rfl rfl (ftaken_no w1_1_1 (hn2.le L36) (hd2.le L36) (by omega) (by omega) qc1_3) ?_
 rintro _ w1_3_3 ⟨An1_3_3, cn1_3_3, Ad1_3_3, cd1_3_3, rfl, on1_3_3, od1_3_3, h1_3_3⟩
 refine ⟨_, rfl, ?_⟩
 refine ⟨fun _ => h1_3_3, ?_⟩
 have L53 := L36.trans h1_3_3
 have f54 := (f4.le (h1_1_1.trans h1_3_3))
 refine G.ef0 rfl rfl rfl rfl ?_
 refine Ef.storeAll sz61 (by rfl) rfl rfl f54 (by rfl) (by simp [Value.oneCell']) ?_
 intro w1_4_3 b1_4_3 h1_4_3
 refine noT (by kernel_rfl) ?_
 have b1_4_3 : Blk w1_4_3 g0_0 61 #[.slice An1_1_1 ((digs 0).length) cn1_1_1, .slice Ad1_1_1 ((digs 1).length) cd1_1_1] := b1_4_3
 have L55 := L53.tb h1_4_3 L0 hg0_0
 have f56 := ((f5.le (h1_1_1.trans h1_3_3)).ch h1_4_3 (fun h => (show g0_0 ≠ g0_1 from by have := b0_0.lt; omega) (Option.some.inj h)))
 refine G.ef0 rfl rfl rfl rfl ?_
 refine Ef.storeAll sz61 (by rfl) rfl rfl f56 (by rfl) (by simp [Value.oneCell']) ?_
 intro w1_5_3 b1_5_3 h1_5_3
 refine noT (by kernel_rfl) ?_
 have b1_5_3 : Blk w1_5_3 g0_1 61 #[.slice An1_3_3 ((digs 0).length) cn1_3_3, .slice Ad1_3_3 ((digs 1).length) cd1_3_3] := b1_5_3
 have L57 := L55.tb h1_5_3 L1 hg0_1
 refine G.nil (E.thenN (WC.seq ?_))
 refine WC.draw [0, 1, 2, 3, 5, 6, 7, 8, 10, 11, 12, 13, 4, 9, 14, 15, 16, 17] mixed (by kernel_rfl) ?_
 intro w2 d2
 have L58 := L57.trans d2
 refine G.a rfl (.field0 fa61_0 rfl) ?_
 have f59 := ((b1_4_3.ch h1_5_3 (fun h => (show g0_1 ≠ g0_0 from by have := b0_0.lt; omega) (Option.some.inj h))).le d2)
 refine G.r rfl (.loadB (v := .slice An1_1_1 ((digs 0).length) cn1_1_1) na59 rfl f59 rfl) ?_
 refine G.a rfl (.field0 fa61_1 rfl) ?_
 have f60 := (b1_5_3.le d2)
 refine G.r rfl (.loadB (v := .slice Ad1_3_3 ((digs 1).length) cd1_3_3) na59 rfl f60 rfl) ?_
 refine G.a rfl (.field0 fa61_0 rfl) ?_
 refine G.r rfl (.loadB (v := .slice An1_3_3 ((digs 0).length) cn1_3_3) na59 rfl f60 rfl) ?_
 refine G.a rfl (.field0 fa61_1 rfl) ?_
 refine G.r rfl (.loadB (v := .slice Ad1_1_1 ((digs 1).length) cd1_1_1) na59 rfl f59 rfl) ?_
 refine G.a rfl (.field0 fa61_1 rfl) ?_
 refine G.r rfl (.loadB (v := .slice Ad1_1_1 ((digs 1).length) cd1_1_1) na59 rfl f59 rfl) ?_
 refine G.a rfl (.field0 fa61_1 rfl) ?_
 refine G.r rfl (.loadB (v := .slice Ad1_3_3 ((digs 1).length) cd1_3_3) na59 rfl f60 rfl) ?_
 have f61 := ((((on1_1_1.le h1_3_3).ch h1_4_3 (fun q hq => by cases hq; exact (fun he => by have := (on1_1_1.row he).1; have := f4.lt; omega))).ch h1_5_3 (fun q hq => by cases hq; exact (fun he => by have := (on1_1_1.row he).1; have := f5.lt; omega))).le d2)
 have f62 := (((od1_3_3.ch h1_4_3 (fun q hq => by cases hq; exact (fun he => by have := (od1_3_3.row he).1; have := f4.lt; have := h1_1_1.size; omega))).ch h1_5_3 (fun q hq => by cases hq; exact (fun he => by have := (od1_3_3.row he).1; have := f5.lt; have := h1_1_1.size; omega))).le d2)
 refine G.ef rfl rfl rfl rfl rfl ?_
 refine Ef.call go182 rfl rfl (nmul_ok w2 f61.vec f62.vec (by omega) (by omega)) ?_
 rintro _ w2_4_3 ⟨Ad2_4_3, cd2_4_3, rfl, o2_4_3, h2_4_3⟩
 refine ⟨_, rfl, ?_⟩
 refine ⟨fun _ => h2_4_3, ?_⟩
 have L63 := L58.trans h2_4_3
 have f64 := (((on1_3_3.ch h1_4_3 (fun q hq => by cases hq; exact (fun he => by have := (on1_3_3.row he).1; have := f4.lt; have := h1_1_1.size; omega))).ch h1_5_3 (fun q hq => by cases hq; exact (fun he => by have := (on1_3_3.row he).1; have := f5.lt; have := h1_1_1.size; omega))).le (d2.trans h2_4_3))
 have f65 := ((((od1_1_1.le h1_3_3).ch h1_4_3 (fun q hq => by cases hq; exact (fun he => by have := (od1_1_1.row he).1; have := f4.lt; omega))).ch h1_5_3 (fun q hq => by cases hq; exact (fun he => by have := (od1_1_1.row he).1; have := f5.lt; omega))).le (d2.trans h2_4_3))
 refine G.ef rfl rfl rfl rfl rfl ?_
 refine Ef.call go182 rfl rfl (nmul_ok w2_4_3 f64.vec f65.vec (by omega) (by omega)) ?_
 rintro _ w2_9_3 ⟨Ad2_9_3, cd2_9_3, rfl, o2_9_3, h2_9_3⟩
 refine ⟨_, rfl, ?_⟩
 refine ⟨fun _ => h2_9_3, ?_⟩
 have L66 := L63.trans h2_9_3
 have f67 := (f65.le h2_9_3)
 have f68 := (f62.le (h2_4_3.trans h2_9_3))
 refine G.ef rfl rfl rfl rfl rfl ?_
 refine Ef.call go182 rfl rfl (nmul_ok w2_9_3 f67.vec f68.vec (by omega) (by omega)) ?_
 rintro _ w2_14_3 ⟨Ad2_14_3, cd2_14_3, rfl, o2_14_3, h2_14_3⟩
 refine ⟨_, rfl, ?_⟩
 refine ⟨fun _ => h2_14_3, ?_⟩
 have L69 := L66.trans h2_14_3
 refine G.run 3 rfl (G.nil (E.thenN (WC.ret ?_)))
 have f70 := (o2_4_3.le (h2_9_3.trans h2_14_3))
 have f71 := (o2_9_3.le h2_14_3)
 refine E.retG3 rfl rfl rfl rfl ?_
 rw [htk1, htk2]
 exact ⟨_, _, _, _, _, _, rfl, (f70.mono L58.size), (f71.mono L63.size), (o2_14_3.mono L66.size), L69⟩

theorem fcmp_ok {An1 Ad1 : Option Addr} {nn1 cn1 nd1 cd1 p1 q1 : Nat} {An2 Ad2 : Option Addr} {nn2 cn2 nd2 cd2 p2 q2 : Nat} (w : World) (hn1 : Vec w dv 1 An1 nn1 (digs p1)) (hd1 : Vec w dv 1 Ad1 nd1 (digs q1)) (bn1 : nn1 <= 10000) (bd1 : nd1 <= 10000) (hn2 : Vec w dv 1 An2 nn2 (digs p2)) (hd2 : Vec w dv 1 Ad2 nd2 (digs q2)) (bn2 : nn2 <= 10000) (bd2 : nd2 <= 10000) : Calls prog 41 #[.agg #[.slice An1 nn1 cn1, .slice Ad1 nd1 cd1], .agg #[.slice An2 nn2 cn2, .slice Ad2 nd2 cd2]] w fun r w' => r = .returned (.int .i64 (cmpF (takF ⟨p1, q1⟩) (takF ⟨p2, q2⟩))) /\ Le w w' := by
 have hln1 := hn1.1; have hld1 := hd1.1
 have hln2 := hn2.1; have hld2 := hd2.1
 have h1l := digs_len_one (d := 1) (by decide)
 have h0l := digs_len_0
 refine enter func41 rfl rfl ?_
 have L0 := Le.refl w
 refine WC.sr (W.ef rfl rfl rfl ?_)
 refine Ef.boxA rfl ?_
 intro g0_0 w0_0 hg0_0 b0_0 h0_0
 have L1 := L0.trans h0_0
 have b0_0 : Blk w0_0 g0_0 61 #[.slice An1 nn1 cn1, .slice Ad1 nd1 cd1] := b0_0
 refine W.ef rfl rfl rfl ?_
 refine Ef.boxA rfl ?_
 intro g0_1 w0_1 hg0_1 b0_1 h0_1
 have L2 := L1.trans h0_1
 have b0_1 : Blk w0_1 g0_1 61 #[.slice An2 nn2 cn2, .slice Ad2 nd2 cd2] := b0_1
 refine W.run 1 rfl (W.nx (WC.sr ?_))
 have f3 := (b0_0.le h0_1)
 refine W.r (.loadAll ag61 (by rfl) rfl f3) ?_
 refine W.r (.loadAll ag61 (by rfl) rfl b0_1) ?_
 refine W.cl go112 rfl rfl (fcross_ok w0_1 (hn1.le L2) (hd1.le L2) (by omega) (by omega) (hn2.le L2) (hd2.le L2) (by omega) (by omega)) ?_
 rintro _ w1_2 ⟨Ax1_2, cx1_2, Ay1_2, cy1_2, Az1_2, cz1_2, rfl, ox1_2, oy1_2, oz1_2, h1_2⟩
 have L4 := L2.trans h1_2
 have lx1_2 := digs_mul_len (takF (⟨p1, q1⟩ : Fr)).n (takF (⟨p2, q2⟩ : Fr)).d; have ly1_2 := digs_mul_len (takF (⟨p2, q2⟩ : Fr)).n (takF (⟨p1, q1⟩ : Fr)).d; have la1_2 := takF_len (⟨p1, q1⟩ : Fr); have lb1_2 := takF_len (⟨p2, q2⟩ : Fr)
 simp only at la1_2 lb1_2
 refine W.run 7 rfl (W.nx (WC.sr (W.run 2 rfl ?_)))
 refine W.cl go109 rfl rfl (ncmp_ok w1_2 ox1_2.vec oy1_2.vec (by omega) (by omega)) ?_
 rintro _ w2_2 ⟨rfl, h2_2⟩
 have L5 := L4.trans h2_2
 refine W.run 1 rfl (W.nx (WC.ret ?_))
 refine E.retG1 rfl rfl ?_
 exact ⟨rfl, L5⟩

theorem frcmul_ok {An1 Ad1 : Option Addr} {nn1 cn1 nd1 cd1 p1 q1 : Nat} {An2 Ad2 : Option Addr} {nn2 cn2 nd2 cd2 p2 q2 : Nat} (w : World) (hn1 : Vec w dv 1 An1 nn1 (digs p1)) (hd1 : Vec w dv 1 Ad1 nd1 (digs q1)) (bn1 : nn1 <= 10000) (bd1 : nd1 <= 10000) (hn2 : Vec w dv 1 An2 nn2 (digs p2)) (hd2 : Vec w dv 1 Ad2 nd2 (digs q2)) (bn2 : nn2 <= 10000) (bd2 : nd2 <= 10000) : Calls prog 88 #[.agg #[.slice An1 nn1 cn1, .slice Ad1 nd1 cd1], .agg #[.slice An2 nn2 cn2, .slice Ad2 nd2 cd2]] w fun r w' => ∃ A1 c1 A2 c2, r = .returned (.agg #[.slice A1 (digs (mulF (takF ⟨p1, q1⟩) (takF ⟨p2, q2⟩)).n).length c1, .slice A2 (digs (mulF (takF ⟨p1, q1⟩) (takF ⟨p2, q2⟩)).d).length c2]) /\ OVec w' w.heap.size 273 dv 1 A1 (digs (mulF (takF ⟨p1, q1⟩) (takF ⟨p2, q2⟩)).n).length c1 (digs (mulF (takF ⟨p1, q1⟩) (takF ⟨p2, q2⟩)).n) /\ OVec w' w.heap.size 273 dv 1 A2 (digs (mulF (takF ⟨p1, q1⟩) (takF ⟨p2, q2⟩)).d).length c2 (digs (mulF (takF ⟨p1, q1⟩) (takF ⟨p2, q2⟩)).d) /\ Le w w' := by
 have hln1 := hn1.1; have hld1 := hd1.1
 have hln2 := hn2.1; have hld2 := hd2.1
 have h1l := digs_len_one (d := 1) (by decide)
 have h0l := digs_len_0
 have hp1 := (takF_ok ⟨p1, q1⟩).1; have hp2 := (takF_ok ⟨p2, q2⟩).1
 have hdp := Nat.mul_pos hp1 hp2
 refine enter func88 rfl rfl ?_
 have L0 := Le.refl w
 refine WC.sr (W.ef rfl rfl rfl ?_)
 refine Ef.boxA rfl ?_
 intro g0_0 w0_0 hg0_0 b0_0 h0_0
 have L1 := L0.trans h0_0
 have b0_0 : Blk w0_0 g0_0 61 #[.slice An1 nn1 cn1, .slice Ad1 nd1 cd1] := b0_0
 refine W.ef rfl rfl rfl ?_
 refine Ef.boxA rfl ?_
 intro g0_1 w0_1 hg0_1 b0_1 h0_1
 have L2 := L1.trans h0_1
 have b0_1 : Blk w0_1 g0_1 61 #[.slice An2 nn2 cn2, .slice Ad2 nd2 cd2] := b0_1
 refine W.ef rfl rfl rfl ?_
 refine Ef.allocA z61 ?_
 intro g0_2 w0_2 hg0_2 b0_2 h0_2
 have L3 := L2.trans h0_2
 have b0_2 : Blk w0_2 g0_2 61 #[.slice none 0 0, .slice none 0 0] := b0_2
 refine W.nx (WC.seq ?_)
 refine WC.draw [0, 2, 1, 3, 4, 5] mixed (by kernel_rfl) ?_
 intro w1 d1
 have L4 := L3.trans d1
 have f5 := (b0_0.le (h0_1.trans (h0_2.trans d1)))
 refine G.r rfl (.loadAll ag61 (by rfl) rfl f5) ?_
 have f6 := (b0_1.le (h0_2.trans d1))
 refine G.r rfl (.loadAll ag61 (by rfl) rfl f6) ?_
 by_cases qc1_1 : (okB p1 q1) = true
 ·have htk1 : takF ⟨p1, q1⟩ = ⟨p1, q1⟩ := if_pos qc1_1
  refine G.ef rfl rfl rfl rfl rfl ?_
  refine Ef.call go165 rfl rfl (ftaken_yes w1 (hn1.le L4) (hd1.le L4) (by omega) (by omega) qc1_1) ?_
  rintro _ w1_1 ⟨rfl, h1_1⟩
  refine ⟨_, rfl, ?_⟩
  refine ⟨fun _ => h1_1, ?_⟩
  have L7 := L4.trans h1_1
  by_cases qc1_3 : (okB p2 q2) = true
  ·have htk2 : takF ⟨p2, q2⟩ = ⟨p2, q2⟩ := if_pos qc1_3
   refine G.ef rfl rfl rfl rfl rfl ?_
   refine Ef.call go165 rfl rfl (ftaken_yes w1_1 (hn2.le L7) (hd2.le L7) (by omega) (by omega) qc1_3) ?_
   rintro _ w1_3 ⟨rfl, h1_3⟩
   refine ⟨_, rfl, ?_⟩
   refine ⟨fun _ => h1_3, ?_⟩
   have L8 := L7.trans h1_3
   have f9 := (f5.le (h1_1.trans h1_3))
   refine G.ef0 rfl rfl rfl rfl ?_
   refine Ef.storeAll sz61 (by rfl) rfl rfl f9 (by rfl) (by simp [Value.oneCell']) ?_
   intro w1_4 b1_4 h1_4
   refine noT (by kernel_rfl) ?_
   have b1_4 : Blk w1_4 g0_0 61 #[.slice An1 nn1 cn1, .slice Ad1 nd1 cd1] := b1_4
   have L10 := L8.tb h1_4 L0 hg0_0
   have f11 := ((f6.le (h1_1.trans h1_3)).ch h1_4 (fun h => (show g0_0 ≠ g0_1 from by have := b0_0.lt; omega) (Option.some.inj h)))
   refine G.ef0 rfl rfl rfl rfl ?_
   refine Ef.storeAll sz61 (by rfl) rfl rfl f11 (by rfl) (by simp [Value.oneCell']) ?_
   intro w1_5 b1_5 h1_5
   refine noT (by kernel_rfl) ?_
   have b1_5 : Blk w1_5 g0_1 61 #[.slice An2 nn2 cn2, .slice Ad2 nd2 cd2] := b1_5
   have L12 := L10.tb h1_5 L1 hg0_1
   refine G.nil (E.thenN (WC.seq ?_))
   refine WC.draw [0, 1, 2, 3, 5, 6, 7, 8, 4, 9, 10, 11] mixed (by kernel_rfl) ?_
   intro w2 d2
   have L13 := L12.trans d2
   refine G.a rfl (.field0 fa61_0 rfl) ?_
   have f14 := ((b1_4.ch h1_5 (fun h => (show g0_1 ≠ g0_0 from by have := b0_0.lt; omega) (Option.some.inj h))).le d2)
   refine G.r rfl (.loadB (v := .slice An1 nn1 cn1) na59 rfl f14 rfl) ?_
   refine G.a rfl (.field0 fa61_0 rfl) ?_
   have f15 := (b1_5.le d2)
   refine G.r rfl (.loadB (v := .slice An2 nn2 cn2) na59 rfl f15 rfl) ?_
   refine G.a rfl (.field0 fa61_1 rfl) ?_
   refine G.r rfl (.loadB (v := .slice Ad1 nd1 cd1) na59 rfl f14 rfl) ?_
   refine G.a rfl (.field0 fa61_1 rfl) ?_
   refine G.r rfl (.loadB (v := .slice Ad2 nd2 cd2) na59 rfl f15 rfl) ?_
   have hm1 := digs_mul_len (takF ⟨p1, q1⟩).n (takF ⟨p2, q2⟩).n; have hm2 := digs_mul_len (takF ⟨p1, q1⟩).d (takF ⟨p2, q2⟩).d
   rw [htk1, htk2] at hm1 hm2
   simp only at hm1 hm2
   refine G.ef rfl rfl rfl rfl rfl ?_
   refine Ef.call go182 rfl rfl (nmul_ok w2 (hn1.le L13) (hn2.le L13) (by omega) (by omega)) ?_
   rintro _ w2_4 ⟨Ad2_4, cd2_4, rfl, o2_4, h2_4⟩
   refine ⟨_, rfl, ?_⟩
   refine ⟨fun _ => h2_4, ?_⟩
   have L16 := L13.trans h2_4
   refine G.ef rfl rfl rfl rfl rfl ?_
   refine Ef.call go182 rfl rfl (nmul_ok w2_4 (hd1.le L16) (hd2.le L16) (by omega) (by omega)) ?_
   rintro _ w2_9 ⟨Ad2_9, cd2_9, rfl, o2_9, h2_9⟩
   refine ⟨_, rfl, ?_⟩
   refine ⟨fun _ => h2_9, ?_⟩
   have L17 := L16.trans h2_9
   have f18 := (o2_4.le h2_9)
   refine G.ef rfl rfl rfl rfl rfl ?_
   refine Ef.call go106 rfl rfl (flow_ok w2_9 f18.vec o2_9.vec (by rw [htk1, htk2] at hdp; exact hdp) (by omega) (by omega)) ?_
   rintro _ w2_10 ⟨An2_10, cn2_10, Ad2_10, cd2_10, rfl, on2_10, od2_10, h2_10⟩
   refine ⟨_, rfl, ?_⟩
   refine ⟨fun _ => h2_10, ?_⟩
   have L19 := L17.trans h2_10
   have f20 := ((((b0_2.le (d1.trans (h1_1.trans h1_3))).ch h1_4 (fun h => (show g0_0 ≠ g0_2 from by have := b0_0.lt; have := h0_1.size; omega) (Option.some.inj h))).ch h1_5 (fun h => (show g0_1 ≠ g0_2 from by have := b0_1.lt; omega) (Option.some.inj h))).le (d2.trans (h2_4.trans (h2_9.trans h2_10))))
   refine G.ef0 rfl rfl rfl rfl ?_
   refine Ef.storeAll sz61 (by rfl) rfl rfl f20 (by rfl) (by simp [Value.oneCell']) ?_
   intro w2_11 b2_11 h2_11
   refine noT (by kernel_rfl) ?_
   have b2_11 : Blk w2_11 g0_2 61 #[.slice An2_10 ((digs ((lowF (p1 * p2) (q1 * q2)).n)).length) cn2_10, .slice Ad2_10 ((digs ((lowF (p1 * p2) (q1 * q2)).d)).length) cd2_10] := b2_11
   have L21 := L19.tb h2_11 L2 hg0_2
   refine G.nil (E.thenN (WC.ret ?_))
   have f22 := (on2_10.ch h2_11 (fun q hq => by cases hq; exact (fun he => by have := (on2_10.row he).1; have := b0_2.lt; have := d1.size; have := h1_1.size; have := h1_3.size; have := h1_4.size; have := h1_5.size; have := d2.size; have := h2_4.size; have := h2_9.size; omega)))
   have f23 := (od2_10.ch h2_11 (fun q hq => by cases hq; exact (fun he => by have := (od2_10.row he).1; have := b0_2.lt; have := d1.size; have := h1_1.size; have := h1_3.size; have := h1_4.size; have := h1_5.size; have := d2.size; have := h2_4.size; have := h2_9.size; omega)))
   refine E.retG1 rfl (resA rfl b2_11 ag61 (by rfl)) ?_
   rw [htk1, htk2]
   exact ⟨_, _, _, _, rfl, (f22.mono L17.size), (f23.mono L17.size), L21⟩
  have htk2 : takF ⟨p2, q2⟩ = ⟨0, 1⟩ := if_neg qc1_3
  refine G.ef rfl rfl rfl rfl rfl ?_
  refine Ef.call go165 rfl rfl (ftaken_no w1_1 (hn2.le L7) (hd2.le L7) (by omega) (by omega) qc1_3) ?_
  rintro _ w1_3_1 ⟨An1_3_1, cn1_3_1, Ad1_3_1, cd1_3_1, rfl, on1_3_1, od1_3_1, h1_3_1⟩
  refine ⟨_, rfl, ?_⟩
  refine ⟨fun _ => h1_3_1, ?_⟩
  have L24 := L7.trans h1_3_1
  have f25 := (f5.le (h1_1.trans h1_3_1))
  refine G.ef0 rfl rfl rfl rfl ?_
  refine Ef.storeAll sz61 (by rfl) rfl rfl f25 (by rfl) (by simp [Value.oneCell']) ?_
  intro w1_4_1 b1_4_1 h1_4_1
  refine noT (by kernel_rfl) ?_
  have b1_4_1 : Blk w1_4_1 g0_0 61 #[.slice An1 nn1 cn1, .slice Ad1 nd1 cd1] := b1_4_1
  have L26 := L24.tb h1_4_1 L0 hg0_0
  have f27 := ((f6.le (h1_1.trans h1_3_1)).ch h1_4_1 (fun h => (show g0_0 ≠ g0_1 from by have := b0_0.lt; omega) (Option.some.inj h)))
  refine G.ef0 rfl rfl rfl rfl ?_
  refine Ef.storeAll sz61 (by rfl) rfl rfl f27 (by rfl) (by simp [Value.oneCell']) ?_
  intro w1_5_1 b1_5_1 h1_5_1
  refine noT (by kernel_rfl) ?_
  have b1_5_1 : Blk w1_5_1 g0_1 61 #[.slice An1_3_1 ((digs 0).length) cn1_3_1, .slice Ad1_3_1 ((digs 1).length) cd1_3_1] := b1_5_1
  have L28 := L26.tb h1_5_1 L1 hg0_1
  refine G.nil (E.thenN (WC.seq ?_))
  refine WC.draw [0, 1, 2, 3, 5, 6, 7, 8, 4, 9, 10, 11] mixed (by kernel_rfl) ?_
  intro w2 d2
  have L29 := L28.trans d2
  refine G.a rfl (.field0 fa61_0 rfl) ?_
  have f30 := ((b1_4_1.ch h1_5_1 (fun h => (show g0_1 ≠ g0_0 from by have := b0_0.lt; omega) (Option.some.inj h))).le d2)
  refine G.r rfl (.loadB (v := .slice An1 nn1 cn1) na59 rfl f30 rfl) ?_
  refine G.a rfl (.field0 fa61_0 rfl) ?_
  have f31 := (b1_5_1.le d2)
  refine G.r rfl (.loadB (v := .slice An1_3_1 ((digs 0).length) cn1_3_1) na59 rfl f31 rfl) ?_
  refine G.a rfl (.field0 fa61_1 rfl) ?_
  refine G.r rfl (.loadB (v := .slice Ad1 nd1 cd1) na59 rfl f30 rfl) ?_
  refine G.a rfl (.field0 fa61_1 rfl) ?_
  refine G.r rfl (.loadB (v := .slice Ad1_3_1 ((digs 1).length) cd1_3_1) na59 rfl f31 rfl) ?_
  have hm1 := digs_mul_len (takF ⟨p1, q1⟩).n (takF ⟨p2, q2⟩).n; have hm2 := digs_mul_len (takF ⟨p1, q1⟩).d (takF ⟨p2, q2⟩).d
  rw [htk1, htk2] at hm1 hm2
  simp only at hm1 hm2
  have f32 := (((on1_3_1.ch h1_4_1 (fun q hq => by cases hq; exact (fun he => by have := (on1_3_1.row he).1; have := f5.lt; have := h1_1.size; omega))).ch h1_5_1 (fun q hq => by cases hq; exact (fun he => by have := (on1_3_1.row he).1; have := f6.lt; have := h1_1.size; omega))).le d2)
  refine G.ef rfl rfl rfl rfl rfl ?_
  refine Ef.call go182 rfl rfl (nmul_ok w2 (hn1.le L29) f32.vec (by omega) (by omega)) ?_
  rintro _ w2_4_1 ⟨Ad2_4_1, cd2_4_1, rfl, o2_4_1, h2_4_1⟩
  refine ⟨_, rfl, ?_⟩
  refine ⟨fun _ => h2_4_1, ?_⟩
  have L33 := L29.trans h2_4_1
  have f34 := (((od1_3_1.ch h1_4_1 (fun q hq => by cases hq; exact (fun he => by have := (od1_3_1.row he).1; have := f5.lt; have := h1_1.size; omega))).ch h1_5_1 (fun q hq => by cases hq; exact (fun he => by have := (od1_3_1.row he).1; have := f6.lt; have := h1_1.size; omega))).le (d2.trans h2_4_1))
  refine G.ef rfl rfl rfl rfl rfl ?_
  refine Ef.call go182 rfl rfl (nmul_ok w2_4_1 (hd1.le L33) f34.vec (by omega) (by omega)) ?_
  rintro _ w2_9_1 ⟨Ad2_9_1, cd2_9_1, rfl, o2_9_1, h2_9_1⟩
  refine ⟨_, rfl, ?_⟩
  refine ⟨fun _ => h2_9_1, ?_⟩
  have L35 := L33.trans h2_9_1
  have f36 := (o2_4_1.le h2_9_1)
  refine G.ef rfl rfl rfl rfl rfl ?_
  refine Ef.call go106 rfl rfl (flow_ok w2_9_1 f36.vec o2_9_1.vec (by rw [htk1, htk2] at hdp; exact hdp) (by omega) (by omega)) ?_
  rintro _ w2_10_1 ⟨An2_10_1, cn2_10_1, Ad2_10_1, cd2_10_1, rfl, on2_10_1, od2_10_1, h2_10_1⟩
  refine ⟨_, rfl, ?_⟩
  refine ⟨fun _ => h2_10_1, ?_⟩
  have L37 := L35.trans h2_10_1
  have f38 := ((((b0_2.le (d1.trans (h1_1.trans h1_3_1))).ch h1_4_1 (fun h => (show g0_0 ≠ g0_2 from by have := b0_0.lt; have := h0_1.size; omega) (Option.some.inj h))).ch h1_5_1 (fun h => (show g0_1 ≠ g0_2 from by have := b0_1.lt; omega) (Option.some.inj h))).le (d2.trans (h2_4_1.trans (h2_9_1.trans h2_10_1))))
  refine G.ef0 rfl rfl rfl rfl ?_
  refine Ef.storeAll sz61 (by rfl) rfl rfl f38 (by rfl) (by simp [Value.oneCell']) ?_
  intro w2_11_1 b2_11_1 h2_11_1
  refine noT (by kernel_rfl) ?_
  have b2_11_1 : Blk w2_11_1 g0_2 61 #[.slice An2_10_1 ((digs ((lowF (p1 * 0) (q1 * 1)).n)).length) cn2_10_1, .slice Ad2_10_1 ((digs ((lowF (p1 * 0) (q1 * 1)).d)).length) cd2_10_1] := b2_11_1
  have L39 := L37.tb h2_11_1 L2 hg0_2
  refine G.nil (E.thenN (WC.ret ?_))
  have f40 := (on2_10_1.ch h2_11_1 (fun q hq => by cases hq; exact (fun he => by have := (on2_10_1.row he).1; have := b0_2.lt; have := d1.size; have := h1_1.size; have := h1_3_1.size; have := h1_4_1.size; have := h1_5_1.size; have := d2.size; have := h2_4_1.size; have := h2_9_1.size; omega)))
  have f41 := (od2_10_1.ch h2_11_1 (fun q hq => by cases hq; exact (fun he => by have := (od2_10_1.row he).1; have := b0_2.lt; have := d1.size; have := h1_1.size; have := h1_3_1.size; have := h1_4_1.size; have := h1_5_1.size; have := d2.size; have := h2_4_1.size; have := h2_9_1.size; omega)))
  refine E.retG1 rfl (resA rfl b2_11_1 ag61 (by rfl)) ?_
  rw [htk1, htk2]
  exact ⟨_, _, _, _, rfl, (f40.mono L35.size), (f41.mono L35.size), L39⟩
 have htk1 : takF ⟨p1, q1⟩ = ⟨0, 1⟩ := if_neg qc1_1
 refine G.ef rfl rfl rfl rfl rfl ?_
 refine Ef.call go165 rfl rfl (ftaken_no w1 (hn1.le L4) (hd1.le L4) (by omega) (by omega) qc1_1) ?_
 rintro _ w1_1_1 ⟨An1_1_1, cn1_1_1, Ad1_1_1, cd1_1_1, rfl, on1_1_1, od1_1_1, h1_1_1⟩
 refine ⟨_, rfl, ?_⟩
 refine ⟨fun _ => h1_1_1, ?_⟩
 have L42 := L4.trans h1_1_1
 by_cases qc1_3 : (okB p2 q2) = true
 ·have htk2 : takF ⟨p2, q2⟩ = ⟨p2, q2⟩ := if_pos qc1_3
  refine G.ef rfl rfl rfl rfl rfl ?_
  refine Ef.call go165 rfl rfl (ftaken_yes w1_1_1 (hn2.le L42) (hd2.le L42) (by omega) (by omega) qc1_3) ?_
  rintro _ w1_3_2 ⟨rfl, h1_3_2⟩
  refine ⟨_, rfl, ?_⟩
  refine ⟨fun _ => h1_3_2, ?_⟩
  have L43 := L42.trans h1_3_2
  have f44 := (f5.le (h1_1_1.trans h1_3_2))
  refine G.ef0 rfl rfl rfl rfl ?_
  refine Ef.storeAll sz61 (by rfl) rfl rfl f44 (by rfl) (by simp [Value.oneCell']) ?_
  intro w1_4_2 b1_4_2 h1_4_2
  refine noT (by kernel_rfl) ?_
  have b1_4_2 : Blk w1_4_2 g0_0 61 #[.slice An1_1_1 ((digs 0).length) cn1_1_1, .slice Ad1_1_1 ((digs 1).length) cd1_1_1] := b1_4_2
  have L45 := L43.tb h1_4_2 L0 hg0_0
  have f46 := ((f6.le (h1_1_1.trans h1_3_2)).ch h1_4_2 (fun h => (show g0_0 ≠ g0_1 from by have := b0_0.lt; omega) (Option.some.inj h)))
  refine G.ef0 rfl rfl rfl rfl ?_
  refine Ef.storeAll sz61 (by rfl) rfl rfl f46 (by rfl) (by simp [Value.oneCell']) ?_
  intro w1_5_2 b1_5_2 h1_5_2
  refine noT (by kernel_rfl) ?_
  have b1_5_2 : Blk w1_5_2 g0_1 61 #[.slice An2 nn2 cn2, .slice Ad2 nd2 cd2] := b1_5_2
  have L47 := L45.tb h1_5_2 L1 hg0_1
  refine G.nil (E.thenN (WC.seq ?_))
  refine WC.draw [0, 1, 2, 3, 5, 6, 7, 8, 4, 9, 10, 11] mixed (by kernel_rfl) ?_
  intro w2 d2
  have L48 := L47.trans d2
  refine G.a rfl (.field0 fa61_0 rfl) ?_
  have f49 := ((b1_4_2.ch h1_5_2 (fun h => (show g0_1 ≠ g0_0 from by have := b0_0.lt; omega) (Option.some.inj h))).le d2)
  refine G.r rfl (.loadB (v := .slice An1_1_1 ((digs 0).length) cn1_1_1) na59 rfl f49 rfl) ?_
  refine G.a rfl (.field0 fa61_0 rfl) ?_
  have f50 := (b1_5_2.le d2)
  refine G.r rfl (.loadB (v := .slice An2 nn2 cn2) na59 rfl f50 rfl) ?_
  refine G.a rfl (.field0 fa61_1 rfl) ?_
  refine G.r rfl (.loadB (v := .slice Ad1_1_1 ((digs 1).length) cd1_1_1) na59 rfl f49 rfl) ?_
  refine G.a rfl (.field0 fa61_1 rfl) ?_
  refine G.r rfl (.loadB (v := .slice Ad2 nd2 cd2) na59 rfl f50 rfl) ?_
  have hm1 := digs_mul_len (takF ⟨p1, q1⟩).n (takF ⟨p2, q2⟩).n; have hm2 := digs_mul_len (takF ⟨p1, q1⟩).d (takF ⟨p2, q2⟩).d
  rw [htk1, htk2] at hm1 hm2
  simp only at hm1 hm2
  have f51 := ((((on1_1_1.le h1_3_2).ch h1_4_2 (fun q hq => by cases hq; exact (fun he => by have := (on1_1_1.row he).1; have := f5.lt; omega))).ch h1_5_2 (fun q hq => by cases hq; exact (fun he => by have := (on1_1_1.row he).1; have := f6.lt; omega))).le d2)
  refine G.ef rfl rfl rfl rfl rfl ?_
  refine Ef.call go182 rfl rfl (nmul_ok w2 f51.vec (hn2.le L48) (by omega) (by omega)) ?_
  rintro _ w2_4_2 ⟨Ad2_4_2, cd2_4_2, rfl, o2_4_2, h2_4_2⟩
  refine ⟨_, rfl, ?_⟩
  refine ⟨fun _ => h2_4_2, ?_⟩
  have L52 := L48.trans h2_4_2
  have f53 := ((((od1_1_1.le h1_3_2).ch h1_4_2 (fun q hq => by cases hq; exact (fun he => by have := (od1_1_1.row he).1; have := f5.lt; omega))).ch h1_5_2 (fun q hq => by cases hq; exact (fun he => by have := (od1_1_1.row he).1; have := f6.lt; omega))).le (d2.trans h2_4_2))
  refine G.ef rfl rfl rfl rfl rfl ?_
  refine Ef.call go182 rfl rfl (nmul_ok w2_4_2 f53.vec (hd2.le L52) (by omega) (by omega)) ?_
  rintro _ w2_9_2 ⟨Ad2_9_2, cd2_9_2, rfl, o2_9_2, h2_9_2⟩
  refine ⟨_, rfl, ?_⟩
  refine ⟨fun _ => h2_9_2, ?_⟩
  have L54 := L52.trans h2_9_2
  have f55 := (o2_4_2.le h2_9_2)
  refine G.ef rfl rfl rfl rfl rfl ?_
  refine Ef.call go106 rfl rfl (flow_ok w2_9_2 f55.vec o2_9_2.vec (by rw [htk1, htk2] at hdp; exact hdp) (by omega) (by omega)) ?_
  rintro _ w2_10_2 ⟨An2_10_2, cn2_10_2, Ad2_10_2, cd2_10_2, rfl, on2_10_2, od2_10_2, h2_10_2⟩
  refine ⟨_, rfl, ?_⟩
  refine ⟨fun _ => h2_10_2, ?_⟩
  have L56 := L54.trans h2_10_2
  have f57 := ((((b0_2.le (d1.trans (h1_1_1.trans h1_3_2))).ch h1_4_2 (fun h => (show g0_0 ≠ g0_2 from by have := b0_0.lt; have := h0_1.size; omega) (Option.some.inj h))).ch h1_5_2 (fun h => (show g0_1 ≠ g0_2 from by have := b0_1.lt; omega) (Option.some.inj h))).le (d2.trans (h2_4_2.trans (h2_9_2.trans h2_10_2))))
  refine G.ef0 rfl rfl rfl rfl ?_
  refine Ef.storeAll sz61 (by rfl) rfl rfl f57 (by rfl) (by simp [Value.oneCell']) ?_
  intro w2_11_2 b2_11_2 h2_11_2
  refine noT (by kernel_rfl) ?_
  have b2_11_2 : Blk w2_11_2 g0_2 61 #[.slice An2_10_2 ((digs ((lowF (0 * p2) (1 * q2)).n)).length) cn2_10_2, .slice Ad2_10_2 ((digs ((lowF (0 * p2) (1 * q2)).d)).length) cd2_10_2] := b2_11_2
  have L58 := L56.tb h2_11_2 L2 hg0_2
  refine G.nil (E.thenN (WC.ret ?_))
  have f59 := (on2_10_2.ch h2_11_2 (fun q hq => by cases hq; exact (fun he => by have := (on2_10_2.row he).1; have := b0_2.lt; have := d1.size; have := h1_1_1.size; have := h1_3_2.size; have := h1_4_2.size; have := h1_5_2.size; have := d2.size; have := h2_4_2.size; have := h2_9_2.size; omega)))
  have f60 := (od2_10_2.ch h2_11_2 (fun q hq => by cases hq; exact (fun he => by have := (od2_10_2.row he).1; have := b0_2.lt; have := d1.size; have := h1_1_1.size; have := h1_3_2.size; have := h1_4_2.size; have := h1_5_2.size; have := d2.size; have := h2_4_2.size; have := h2_9_2.size; omega)))
  refine E.retG1 rfl (resA rfl b2_11_2 ag61 (by rfl)) ?_
  rw [htk1, htk2]
  exact ⟨_, _, _, _, rfl, (f59.mono L54.size), (f60.mono L54.size), L58⟩
 have htk2 : takF ⟨p2, q2⟩ = ⟨0, 1⟩ := if_neg qc1_3
 refine G.ef rfl rfl rfl rfl rfl ?_
 refine Ef.call go165 rfl rfl (ftaken_no w1_1_1 (hn2.le L42) (hd2.le L42) (by omega) (by omega) qc1_3) ?_
 rintro _ w1_3_3 ⟨An1_3_3, cn1_3_3, Ad1_3_3, cd1_3_3, rfl, on1_3_3, od1_3_3, h1_3_3⟩
 refine ⟨_, rfl, ?_⟩
 refine ⟨fun _ => h1_3_3, ?_⟩
 have L61 := L42.trans h1_3_3
 have f62 := (f5.le (h1_1_1.trans h1_3_3))
 refine G.ef0 rfl rfl rfl rfl ?_
 refine Ef.storeAll sz61 (by rfl) rfl rfl f62 (by rfl) (by simp [Value.oneCell']) ?_
 intro w1_4_3 b1_4_3 h1_4_3
 refine noT (by kernel_rfl) ?_
 have b1_4_3 : Blk w1_4_3 g0_0 61 #[.slice An1_1_1 ((digs 0).length) cn1_1_1, .slice Ad1_1_1 ((digs 1).length) cd1_1_1] := b1_4_3
 have L63 := L61.tb h1_4_3 L0 hg0_0
 have f64 := ((f6.le (h1_1_1.trans h1_3_3)).ch h1_4_3 (fun h => (show g0_0 ≠ g0_1 from by have := b0_0.lt; omega) (Option.some.inj h)))
 refine G.ef0 rfl rfl rfl rfl ?_
 refine Ef.storeAll sz61 (by rfl) rfl rfl f64 (by rfl) (by simp [Value.oneCell']) ?_
 intro w1_5_3 b1_5_3 h1_5_3
 refine noT (by kernel_rfl) ?_
 have b1_5_3 : Blk w1_5_3 g0_1 61 #[.slice An1_3_3 ((digs 0).length) cn1_3_3, .slice Ad1_3_3 ((digs 1).length) cd1_3_3] := b1_5_3
 have L65 := L63.tb h1_5_3 L1 hg0_1
 refine G.nil (E.thenN (WC.seq ?_))
 refine WC.draw [0, 1, 2, 3, 5, 6, 7, 8, 4, 9, 10, 11] mixed (by kernel_rfl) ?_
 intro w2 d2
 have L66 := L65.trans d2
 refine G.a rfl (.field0 fa61_0 rfl) ?_
 have f67 := ((b1_4_3.ch h1_5_3 (fun h => (show g0_1 ≠ g0_0 from by have := b0_0.lt; omega) (Option.some.inj h))).le d2)
 refine G.r rfl (.loadB (v := .slice An1_1_1 ((digs 0).length) cn1_1_1) na59 rfl f67 rfl) ?_
 refine G.a rfl (.field0 fa61_0 rfl) ?_
 have f68 := (b1_5_3.le d2)
 refine G.r rfl (.loadB (v := .slice An1_3_3 ((digs 0).length) cn1_3_3) na59 rfl f68 rfl) ?_
 refine G.a rfl (.field0 fa61_1 rfl) ?_
 refine G.r rfl (.loadB (v := .slice Ad1_1_1 ((digs 1).length) cd1_1_1) na59 rfl f67 rfl) ?_
 refine G.a rfl (.field0 fa61_1 rfl) ?_
 refine G.r rfl (.loadB (v := .slice Ad1_3_3 ((digs 1).length) cd1_3_3) na59 rfl f68 rfl) ?_
 have hm1 := digs_mul_len (takF ⟨p1, q1⟩).n (takF ⟨p2, q2⟩).n; have hm2 := digs_mul_len (takF ⟨p1, q1⟩).d (takF ⟨p2, q2⟩).d
 rw [htk1, htk2] at hm1 hm2
 simp only at hm1 hm2
 have f69 := ((((on1_1_1.le h1_3_3).ch h1_4_3 (fun q hq => by cases hq; exact (fun he => by have := (on1_1_1.row he).1; have := f5.lt; omega))).ch h1_5_3 (fun q hq => by cases hq; exact (fun he => by have := (on1_1_1.row he).1; have := f6.lt; omega))).le d2)
 have f70 := (((on1_3_3.ch h1_4_3 (fun q hq => by cases hq; exact (fun he => by have := (on1_3_3.row he).1; have := f5.lt; have := h1_1_1.size; omega))).ch h1_5_3 (fun q hq => by cases hq; exact (fun he => by have := (on1_3_3.row he).1; have := f6.lt; have := h1_1_1.size; omega))).le d2)
 refine G.ef rfl rfl rfl rfl rfl ?_
 refine Ef.call go182 rfl rfl (nmul_ok w2 f69.vec f70.vec (by omega) (by omega)) ?_
 rintro _ w2_4_3 ⟨Ad2_4_3, cd2_4_3, rfl, o2_4_3, h2_4_3⟩
 refine ⟨_, rfl, ?_⟩
 refine ⟨fun _ => h2_4_3, ?_⟩
 have L71 := L66.trans h2_4_3
 have f72 := ((((od1_1_1.le h1_3_3).ch h1_4_3 (fun q hq => by cases hq; exact (fun he => by have := (od1_1_1.row he).1; have := f5.lt; omega))).ch h1_5_3 (fun q hq => by cases hq; exact (fun he => by have := (od1_1_1.row he).1; have := f6.lt; omega))).le (d2.trans h2_4_3))
 have f73 := (((od1_3_3.ch h1_4_3 (fun q hq => by cases hq; exact (fun he => by have := (od1_3_3.row he).1; have := f5.lt; have := h1_1_1.size; omega))).ch h1_5_3 (fun q hq => by cases hq; exact (fun he => by have := (od1_3_3.row he).1; have := f6.lt; have := h1_1_1.size; omega))).le (d2.trans h2_4_3))
 refine G.ef rfl rfl rfl rfl rfl ?_
 refine Ef.call go182 rfl rfl (nmul_ok w2_4_3 f72.vec f73.vec (by omega) (by omega)) ?_
 rintro _ w2_9_3 ⟨Ad2_9_3, cd2_9_3, rfl, o2_9_3, h2_9_3⟩
 refine ⟨_, rfl, ?_⟩
 refine ⟨fun _ => h2_9_3, ?_⟩
 have L74 := L71.trans h2_9_3
 have f75 := (o2_4_3.le h2_9_3)
 refine G.ef rfl rfl rfl rfl rfl ?_
 refine Ef.call go106 rfl rfl (flow_ok w2_9_3 f75.vec o2_9_3.vec (by rw [htk1, htk2] at hdp; exact hdp) (by omega) (by omega)) ?_
 rintro _ w2_10_3 ⟨An2_10_3, cn2_10_3, Ad2_10_3, cd2_10_3, rfl, on2_10_3, od2_10_3, h2_10_3⟩
 refine ⟨_, rfl, ?_⟩
 refine ⟨fun _ => h2_10_3, ?_⟩
 have L76 := L74.trans h2_10_3
 have f77 := ((((b0_2.le (d1.trans (h1_1_1.trans h1_3_3))).ch h1_4_3 (fun h => (show g0_0 ≠ g0_2 from by have := b0_0.lt; have := h0_1.size; omega) (Option.some.inj h))).ch h1_5_3 (fun h => (show g0_1 ≠ g0_2 from by have := b0_1.lt; omega) (Option.some.inj h))).le (d2.trans (h2_4_3.trans (h2_9_3.trans h2_10_3))))
 refine G.ef0 rfl rfl rfl rfl ?_
 refine Ef.storeAll sz61 (by rfl) rfl rfl f77 (by rfl) (by simp [Value.oneCell']) ?_
 intro w2_11_3 b2_11_3 h2_11_3
 refine noT (by kernel_rfl) ?_
 have b2_11_3 : Blk w2_11_3 g0_2 61 #[.slice An2_10_3 ((digs ((lowF (0 * 0) (1 * 1)).n)).length) cn2_10_3, .slice Ad2_10_3 ((digs ((lowF (0 * 0) (1 * 1)).d)).length) cd2_10_3] := b2_11_3
 have L78 := L76.tb h2_11_3 L2 hg0_2
 refine G.nil (E.thenN (WC.ret ?_))
 have f79 := (on2_10_3.ch h2_11_3 (fun q hq => by cases hq; exact (fun he => by have := (on2_10_3.row he).1; have := b0_2.lt; have := d1.size; have := h1_1_1.size; have := h1_3_3.size; have := h1_4_3.size; have := h1_5_3.size; have := d2.size; have := h2_4_3.size; have := h2_9_3.size; omega)))
 have f80 := (od2_10_3.ch h2_11_3 (fun q hq => by cases hq; exact (fun he => by have := (od2_10_3.row he).1; have := b0_2.lt; have := d1.size; have := h1_1_1.size; have := h1_3_3.size; have := h1_4_3.size; have := h1_5_3.size; have := d2.size; have := h2_4_3.size; have := h2_9_3.size; omega)))
 refine E.retG1 rfl (resA rfl b2_11_3 ag61 (by rfl)) ?_
 rw [htk1, htk2]
 exact ⟨_, _, _, _, rfl, (f79.mono L74.size), (f80.mono L74.size), L78⟩
end Go.Proofs.YtocheaahlpiajaaGreatDoor

