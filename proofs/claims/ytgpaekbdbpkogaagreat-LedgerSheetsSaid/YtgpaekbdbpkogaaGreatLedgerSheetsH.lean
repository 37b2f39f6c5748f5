/- LedgerSheets: for every input the law answers true and leaves its arguments as they were. -/
import Derived.Test.YtgpaekbdbpkogaaGreatLedgerSheetsG
import Derived.Maps.RangeRun
set_option linter.unusedVariables false
set_option linter.unusedSimpArgs false
namespace Go.Sx
set_option linter.unusedSectionVars false
open Go Go.RowKit
open Go.ChangeMaps (setBlock)
section
variable {κ β : Type} [DecidableEq κ] {kf : κ -> Value} {vf : β -> Value}
def entG (kf : κ -> Value) (vf : β -> Value) (x : Nat × κ × β) : MapEntry := { key := kf x.2.1, val := vf x.2.2, born := x.1 }
structure WfG (l : List (Nat × κ × β)) (clock : Nat) : Prop where
  keys : (l.map fun x => x.2.1).Nodup
  borns : (l.map fun x => x.1).Nodup
  old : ∀ x ∈ l, x.1 < clock
def MapG (w : World) (kf : κ -> Value) (vf : β -> Value) (g : Nat) (l : List (Nat × κ × β)) (clock : Nat) : Prop := w.heap[g]? = some (.map (l.map (entG kf vf)).toArray clock) /\ WfG l clock
def findG (key : κ) : List (Nat × κ × β) -> Nat -> Option (Nat × β)
  | [], _ => none
  | x :: l, i => if key = x.2.1 then some (i, x.2.2) else findG key l (i + 1)
def getG (key : κ) (l : List (Nat × κ × β)) : Option β := (findG key l 0).map (·.2)
theorem findG_none (key : κ) : ∀ (l : List (Nat × κ × β)) (i : Nat), findG key l i = none ↔ ∀ x ∈ l, x.2.1 ≠ key
  | [], _ => by simp [findG]
  | x :: l, i => by
    simp only [findG, List.mem_cons, forall_eq_or_imp]
    split
    · rename_i h; simp [h]
    · rename_i h; rw [findG_none key l (i + 1)]; exact ⟨fun hh => ⟨fun he => h he.symm, hh⟩, fun hh => hh.2⟩
theorem findG_some (key : κ) : ∀ (l : List (Nat × κ × β)) (i j : Nat) (u : β), findG key l i = some (j, u) -> ∃ x, i <= j /\ l[j - i]? = some x /\ x.2.1 = key /\ x.2.2 = u
  | [], _, _, _, h => by simp [findG] at h
  | x :: l, i, j, u, h => by
    simp only [findG] at h
    split at h
    · rename_i hk
      injection h with h
      injection h with h1 h2
      subst h1 h2
      exact ⟨x, Nat.le_refl _, by simp, hk.symm, rfl⟩
    · obtain ⟨y, h1, h2, h3, h4⟩ := findG_some key l (i + 1) j u h
      exact ⟨y, by omega, by rw [show j - i = (j - (i + 1)) + 1 by omega]; simpa using h2, h3, h4⟩
theorem getG_none {key : κ} {l : List (Nat × κ × β)} : getG key l = none ↔ ∀ x ∈ l, x.2.1 ≠ key := by
  unfold getG
  rw [Option.map_eq_none_iff]
  exact findG_none key l 0
theorem findG_of {key : κ} {l : List (Nat × κ × β)} {u : β} (h : getG key l = some u) : ∃ j, findG key l 0 = some (j, u) := by
  unfold getG at h
  cases hf : findG key l 0 with
  | none => rw [hf] at h; cases h
  | some p => rw [hf] at h; injection h with h; exact ⟨p.1, by rw [<- h]⟩
theorem getG_mem {key : κ} {l : List (Nat × κ × β)} {u : β} (h : getG key l = some u) : ∃ b, (b, key, u) ∈ l := by
  obtain ⟨j, hj⟩ := findG_of h
  obtain ⟨x, _, h2, h3, h4⟩ := findG_some key l 0 j u hj
  exact ⟨x.1, by rw [<- h3, <- h4]; exact List.mem_of_getElem? h2⟩
theorem getG_eq (key : κ) : ∀ (l : List (Nat × κ × β)), getG key l = (l.find? (fun x => decide (x.2.1 = key))).map (fun x => x.2.2) := by
  have : ∀ (l : List (Nat × κ × β)) i, (findG key l i).map (·.2) = (l.find? (fun x => decide (x.2.1 = key))).map (fun x => x.2.2) := by
    intro l
    induction l with
    | nil => intro i; rfl
    | cons x l ih =>
      intro i
      simp only [findG, List.find?_cons]
      by_cases h : key = x.2.1
      · simp [h]
      · rw [if_neg h, ih]; simp [show ¬ x.2.1 = key from fun e => h e.symm]
  exact fun l => this l 0
theorem getG_nil (key : κ) : getG key ([] : List (Nat × κ × β)) = none := rfl
theorem getG_push {key k : κ} {l : List (Nat × κ × β)} {b : Nat} {u : β} (hn : getG k l = none) : getG key (l ++ [(b, k, u)]) = if key = k then some u else getG key l := by
  rw [getG_eq, getG_eq, List.find?_append]
  by_cases h : key = k
  · subst h
    rw [if_pos rfl]
    have : l.find? (fun x => decide (x.2.1 = key)) = none := by
      rw [List.find?_eq_none]; intro x hx; simpa using (getG_none.1 hn) x hx
    simp [this]
  · rw [if_neg h]
    simp [show ¬ k = key from fun e => h e.symm]
theorem getG_del {key k : κ} {l : List (Nat × κ × β)} : getG key (l.filter fun y => decide (y.2.1 ≠ k)) = if key = k then none else getG key l := by
  by_cases h : key = k
  · subst h
    rw [if_pos rfl, getG_none]
    intro x hx
    simpa using (List.mem_filter.1 hx).2
  · rw [if_neg h, getG_eq, getG_eq]
    congr 1
    induction l with
    | nil => rfl
    | cons x l ih =>
      by_cases hx : x.2.1 = k
      · rw [List.filter_cons, if_neg (by simpa using hx), ih, List.find?_cons]
        simp [show ¬ x.2.1 = key from fun e => h (e.symm.trans hx)]
      · rw [List.filter_cons, if_pos (by simpa using hx), List.find?_cons, List.find?_cons, ih]
theorem getG_set {key k : κ} {u : β} : ∀ {l : List (Nat × κ × β)}, (∃ v, getG k l = some v) -> getG key (l.map fun y => if y.2.1 = k then (y.1, k, u) else y) = if key = k then some u else getG key l := by
  intro l hv
  rw [getG_eq, getG_eq, List.find?_map]
  have e : ((fun x : Nat × κ × β => decide (x.2.1 = key)) ∘ fun y : Nat × κ × β => if y.2.1 = k then (y.1, k, u) else y) = fun x => decide (x.2.1 = key) := by
    funext y
    simp only [Function.comp]
    split
    · rename_i h; simp [h]
    · rfl
  rw [e]
  by_cases h : key = k
  · subst h
    rw [if_pos rfl]
    obtain ⟨v, hv⟩ := hv
    rw [getG_eq] at hv
    cases hf : l.find? (fun x => decide (x.2.1 = key)) with
    | none => rw [hf] at hv; cases hv
    | some p =>
      have := List.find?_some hf
      simp only [decide_eq_true_eq] at this
      simp [this]
  · rw [if_neg h]
    cases hf : l.find? (fun x => decide (x.2.1 = key)) with
    | none => rfl
    | some p =>
      have := List.find?_some hf
      simp only [decide_eq_true_eq] at this
      simp [show ¬ p.2.1 = k from fun e => h (this.symm.trans e)]
theorem eraseIdx_filterG {α γ : Type} [DecidableEq γ] (f : α -> γ) : ∀ (l : List α) (i : Nat) (x : α), (l.map f).Nodup -> l[i]? = some x -> l.eraseIdx i = l.filter fun y => decide (f y ≠ f x)
  | [], _, _, _, h => by simp at h
  | a :: l, 0, x, hn, h => by
    simp at h
    subst h
    simp only [List.map_cons, List.nodup_cons] at hn
    simp only [List.eraseIdx_cons_zero, ne_eq, List.filter_cons, not_true_eq_false, decide_false, Bool.false_eq_true, if_false]
    rw [eq_comm, List.filter_eq_self]
    intro y hy
    simp
    intro he
    exact hn.1 (by rw [<- he]; exact List.mem_map_of_mem hy)
  | a :: l, i + 1, x, hn, h => by
    simp only [List.map_cons, List.nodup_cons] at hn
    have h' : l[i]? = some x := by simpa using h
    have ih := eraseIdx_filterG f l i x hn.2 h'
    have hne : f a ≠ f x := fun he => hn.1 (by rw [he]; exact List.mem_map_of_mem (List.mem_of_getElem? h'))
    rw [List.eraseIdx_cons_succ, ih, List.filter_cons, if_pos (by simpa using hne)]
theorem nodup_inj {α γ : Type} (f : α -> γ) : ∀ (l : List α), (l.map f).Nodup -> ∀ {a b : α}, a ∈ l -> b ∈ l -> f a = f b -> a = b
  | [], _, a, b, h, _, _ => by cases h
  | x :: l, hn, a, b, ha, hb, he => by
    simp only [List.map_cons, List.nodup_cons] at hn
    rcases List.mem_cons.1 ha with rfl | ha2 <;> rcases List.mem_cons.1 hb with rfl | hb2
    · rfl
    · exact absurd (he ▸ List.mem_map_of_mem hb2) hn.1
    · exact absurd (he ▸ List.mem_map_of_mem ha2) hn.1
    · exact nodup_inj f l hn.2 ha2 hb2 he
theorem set_mapG {α γ : Type} [DecidableEq γ] (f : α -> γ) (y : α) : ∀ (l : List α) (i : Nat) (x : α), (l.map f).Nodup -> l[i]? = some x -> l.set i y = l.map fun z => if f z = f x then y else z
  | [], _, _, _, h => by simp at h
  | a :: l, 0, x, hn, h => by
    simp at h
    subst h
    simp only [List.map_cons, List.nodup_cons] at hn
    simp only [List.set_cons_zero, List.map_cons, if_true]
    congr 1
    rw [eq_comm]
    have : l.map (fun z => if f z = f a then y else z) = l.map id := List.map_congr_left fun z hz => by
      rw [if_neg (fun he => hn.1 (by rw [<- he]; exact List.mem_map_of_mem hz))]; rfl
    rw [this, List.map_id]
  | a :: l, i + 1, x, hn, h => by
    simp only [List.map_cons, List.nodup_cons] at hn
    have h' : l[i]? = some x := by simpa using h
    have hne : f a ≠ f x := fun he => hn.1 (by rw [he]; exact List.mem_map_of_mem (List.mem_of_getElem? h'))
    rw [List.set_cons_succ, set_mapG f y l i x hn.2 h', List.map_cons, if_neg hne]
theorem WfG.filter {l : List (Nat × κ × β)} {clock : Nat} (h : WfG l clock) (p : Nat × κ × β -> Bool) : WfG (l.filter p) clock :=
  ⟨h.keys.sublist (List.Sublist.map _ List.filter_sublist), h.borns.sublist (List.Sublist.map _ List.filter_sublist), fun x hx => h.old x (List.mem_filter.1 hx).1⟩
theorem WfG.push {l : List (Nat × κ × β)} {clock : Nat} (h : WfG l clock) (key : κ) (u : β) (hn : ∀ x ∈ l, x.2.1 ≠ key) : WfG (l ++ [(clock, key, u)]) (clock + 1) := by
  refine ⟨?_, ?_, ?_⟩
  · rw [List.map_append, List.nodup_append]
    refine ⟨h.keys, by simp, ?_⟩
    intro a ha b hb
    obtain ⟨x, hx, rfl⟩ := List.mem_map.1 ha
    simp at hb
    subst hb
    exact hn x hx
  · rw [List.map_append, List.nodup_append]
    refine ⟨h.borns, by simp, ?_⟩
    intro a ha b hb
    obtain ⟨x, hx, rfl⟩ := List.mem_map.1 ha
    simp at hb
    subst hb
    have := h.old x hx
    omega
  · intro x hx
    rcases List.mem_append.1 hx with hx | hx
    · have := h.old x hx; omega
    · simp at hx; subst hx; simp
theorem WfG.set {l : List (Nat × κ × β)} {clock : Nat} (h : WfG l clock) (k : κ) (u : β) : WfG (l.map fun y => if y.2.1 = k then (y.1, k, u) else y) clock := by
  have e1 : (l.map fun y => if y.2.1 = k then (y.1, k, u) else y).map (fun x => x.2.1) = l.map fun x => x.2.1 := by
    rw [List.map_map]; apply List.map_congr_left; intro y _; simp only [Function.comp]; split
    · rename_i he; exact he.symm
    · rfl
  have e2 : (l.map fun y => if y.2.1 = k then (y.1, k, u) else y).map (fun x => x.1) = l.map fun x => x.1 := by
    rw [List.map_map]; apply List.map_congr_left; intro y _; simp only [Function.comp]; split <;> rfl
  refine ⟨by rw [e1]; exact h.keys, by rw [e2]; exact h.borns, fun x hx => ?_⟩
  obtain ⟨y, hy, rfl⟩ := List.mem_map.1 hx
  have := h.old y hy
  split <;> exact this
variable {P : Program} {env : Env} {n : Nat} {d : Option Nat} {T : TypeId} {p : String} {af : Array Edge} {g : Option (Nat × Bool)} {w w' : World} {K : Value -> World -> Prop}
structure KeyG (P : Program) (kt : Nat) (kf : κ -> Value) : Prop where
  check : ∀ (b : Bool) (key : κ) (w : World), (Instr.checkKey b 10000 kt (kf key)).run P w = .ok () w
  find : ∀ (key : κ) (l : List (Nat × κ × Value)) (w : World), (Instr.findKey kt (kf key) (l.map (entG kf id))).run P w = .ok (findG key l 0) w
theorem findG_map (key : κ) (f : β -> Value) : ∀ (l : List (Nat × κ × β)) (i : Nat), findG key (l.map fun x => (x.1, x.2.1, f x.2.2)) i = (findG key l i).map fun x => (x.1, f x.2)
  | [], _ => rfl
  | x :: l, i => by
    simp only [List.map_cons, findG]
    split
    · rfl
    · exact findG_map key f l (i + 1)
theorem KeyG.get {kt : Nat} (h : KeyG P kt kf) (key : κ) (l : List (Nat × κ × β)) (w : World) : (Instr.findKey kt (kf key) (l.map (entG kf vf))).run P w = .ok ((findG key l 0).map fun x => (x.1, vf x.2)) w := by
  have := h.find key (l.map fun x => (x.1, x.2.1, vf x.2.2)) w
  rw [findG_map, List.map_map] at this
  exact this
theorem KeyG.int {kt : Nat} (hu : P.underlying kt = some (.int .i64)) : KeyG P kt (fun x : Int => Value.int .i64 x) := by
  have hc : ∀ (b : Bool) (key : Int) (w : World) (m : Nat), (Instr.checkKey b (m + 1) kt (.int .i64 key)).run P w = .ok () w := fun b key w m => by unfold Instr.checkKey; simp [run_underlying hu]
  refine ⟨fun b key w => hc b key w 9999, fun key l w => ?_⟩
  have hf : ∀ (l : List (Nat × Int × Value)) (i : Nat), Instr.findNow (.int .i64) (.int .i64 key) (l.map (entG (fun x : Int => Value.int .i64 x) id)) i = some (findG key l i) := by
    intro l
    induction l with
    | nil => intro i; rfl
    | cons x l ih =>
      intro i
      simp only [List.map_cons, Instr.findNow, entG, Instr.sameNow, if_true, findG]
      by_cases hk : key = x.2.1
      · simp [hk]
      · have : (key == x.2.1) = false := by simpa using hk
        rw [this, if_neg hk]
        exact ih (i + 1)
  simp only [Instr.findKey, Sem.run_bind, run_underlying hu, Result.andThen_ok, hf]
  rfl
theorem KeyG.struct {kt : Nat} {fs : Array Field} (hu : P.underlying kt = some (.struct fs)) (hc : ∀ (b : Bool) (key : κ) (w : World), (Instr.checkKey b 10000 kt (kf key)).run P w = .ok () w) (ha : ∀ k, ∃ cs, kf k = .agg cs) (he : ∀ a b, Eqv P 10000 kt (kf a) (kf b) (decide (a = b))) : KeyG P kt kf := by
  refine ⟨hc, fun key l w => ?_⟩
  have hs : ∀ (l : List (Nat × κ × Value)) (i : Nat) (w : World), (Instr.findAsking kt (kf key) (l.map (entG kf id)) i).run P w = .ok (findG key l i) w := by
    intro l
    induction l with
    | nil => intro i w; simp [Instr.findAsking, findG]
    | cons x l ih =>
      intro i w
      simp only [List.map_cons, Instr.findAsking, Sem.run_bind, Op.equal, Op.maxDepth, entG, he key x.2.1 w, Result.andThen_ok, findG]
      by_cases hk : key = x.2.1
      · simp [hk]
      · simp only [hk, decide_false, Bool.false_eq_true, if_false]
        exact ih (i + 1) w
  cases l with
  | nil => simp [Instr.findKey, run_underlying hu, Instr.findNow, findG]
  | cons x l =>
    have := hs (x :: l) 0 w
    obtain ⟨cs, hk⟩ := ha key
    simp only [Instr.findKey, Sem.run_bind, run_underlying hu, Result.andThen_ok, List.map_cons, Instr.findNow, entG, Instr.sameNow]
    exact this
theorem Ch.putMapG (w : World) (g : Nat) (o : Obj) : Ch w (setBlock w g o) (some g) := ⟨rfl, rfl, rfl, by simp [setBlock], fun k _ hk => by
  simp only [setBlock]
  rw [Array.getElem?_setIfInBounds_ne (fun he => hk (by rw [he]))]⟩
theorem setBlock_atG {w : World} {g : Nat} {o o' : Obj} (h : w.heap[g]? = some o) : (setBlock w g o').heap[g]? = some o' := by
  have := (Array.getElem?_eq_some_iff.1 h).1
  simp [setBlock, this]
variable {gb clock : Nat} {l : List (Nat × κ × β)}
theorem MapG.ch {r : Option Nat} (h : MapG w kf vf gb l clock) (hc : Ch w w' r) (hne : r ≠ some gb) : MapG w' kf vf gb l clock := ⟨(hc.block gb (Array.getElem?_eq_some_iff.1 h.1).1 (Ne.symm hne)).trans h.1, h.2⟩
theorem MapG.cn {r : Nat} (h : MapG w kf vf gb l clock) (hc : Ch w w' (some r)) (hne : r ≠ gb) : MapG w' kf vf gb l clock := h.ch hc (fun e => hne (Option.some.inj e))
theorem MapG.le (h : MapG w kf vf gb l clock) (hl : Le w w') : MapG w' kf vf gb l clock := h.ch (hl.ch none) (by simp)
theorem MapG.lt (h : MapG w kf vf gb l clock) : gb < w.heap.size := (Array.getElem?_eq_some_iff.1 h.1).1
theorem Ef.makeMapG {t : TypeId} (kf : κ -> Value) (vf : β -> Value) (h : ∀ gb w', w.heap.size <= gb -> MapG w' kf vf gb [] 0 -> Le w w' -> K (.map (some gb)) w') : Ef P env n ⟨d, .makeMap t none, T, p, af, g⟩ w K :=
  .of_run (v := .map (some w.heap.size)) (w' := w.alloc (.map #[] 0)) (fun a ha => by simp [execOp, Instr.makeMap, newObj, Sem.run]) (h _ _ (Nat.le_refl _) ⟨heap_alloc_new w _, ⟨by simp, by simp, by simp⟩⟩ (Le.alloc w _))
theorem Rd.lookup2 {t kt et : Nat} {x y : Operand} {key : κ} {z : Value} (ht : P.underlying t = some (.map kt et)) (hk : KeyG P kt kf) (he : Zr P et z) (hx : ev env x = some (.map (some gb))) (hy : ev env y = some (kf key)) (hM : MapG w kf vf gb l clock) :
    Rd P w env n ⟨d, .lookup t x y true, T, p, af, g⟩ (.tuple #[((getG key l).map vf).getD z, .bool (getG key l).isSome]) := fun a ha w' hle => by
  have hM' := (hM.le hle).1
  have hf := hk.get (vf := vf) key l w'
  have hc := hk.check (l.map (entG kf vf)).toArray.isEmpty key w'
  simp only [execOp, ha.eval hx, ha.eval hy, Instr.lookup, Sem.run_bind, run_underlying ht, getObj, Sem.run, hM', Result.andThen, Sem.run_pure]
  rw [hc]
  simp only []
  rw [hf]
  unfold getG
  cases hfi : findG key l 0 with
  | none => simp [he.run]
  | some q => simp
theorem Rd.lookup1 {t kt et : Nat} {x y : Operand} {key : κ} {z : Value} (ht : P.underlying t = some (.map kt et)) (hk : KeyG P kt kf) (he : Zr P et z) (hx : ev env x = some (.map (some gb))) (hy : ev env y = some (kf key)) (hM : MapG w kf vf gb l clock) :
    Rd P w env n ⟨d, .lookup t x y false, T, p, af, g⟩ (((getG key l).map vf).getD z) := fun a ha w' hle => by
  have hM' := (hM.le hle).1
  have hf := hk.get (vf := vf) key l w'
  have hc := hk.check (l.map (entG kf vf)).toArray.isEmpty key w'
  simp only [execOp, ha.eval hx, ha.eval hy, Instr.lookup, Sem.run_bind, run_underlying ht, getObj, Sem.run, hM', Result.andThen, Sem.run_pure]
  rw [hc]
  simp only []
  rw [hf]
  unfold getG
  cases hfi : findG key l 0 with
  | none => simp [he.run]
  | some q => simp
theorem Rd.lenMap {t kt et : Nat} {x : Operand} (ht : P.underlying t = some (.map kt et)) (hx : ev env x = some (.map (some gb))) (hM : MapG w kf vf gb l clock) : Rd P w env n ⟨d, .call ⟨.builtin .len, #[x], #[t]⟩, T, p, af, g⟩ (.int .i64 l.length) := fun a ha w' hle => by
  have hM' := (hM.le hle).1
  simp [execOp, resolve, invoke, builtin, Builtin.len_, ha.eval hx, run_underlying ht, getObj, Sem.run, hM', Result.andThen, goInt]
theorem setObjG {es : Array MapEntry} {ck : Nat} (h : w.heap[gb]? = some (.map es ck)) (o : Obj) : (setObj gb o).run P w = .ok () (setBlock w gb o) := by
  simp [setObj, Sem.run, h, setBlock]
theorem Ef.insertG {t kt et : Nat} {x y z : Operand} {key : κ} {u : β} (ht : P.underlying t = some (.map kt et)) (hk : KeyG P kt kf) (hx : ev env x = some (.map (some gb))) (hy : ev env y = some (kf key)) (hz : ev env z = some (vf u)) (hM : MapG w kf vf gb l clock)
    (hn : getG key l = none) (h : ∀ w', MapG w' kf vf gb (l ++ [(clock, key, u)]) (clock + 1) -> Ch w w' (some gb) -> K undef w') : Ef P env n ⟨d, .mapUpdate t x y z, T, p, af, g⟩ w K := by
  have hf := hk.get (vf := vf) key l w
  have hc := hk.check false key w
  have hn' : findG key l 0 = none := by rw [findG_none]; exact getG_none.1 hn
  rw [hn'] at hf
  refine .of_runU (w' := setBlock w gb (.map ((l ++ [(clock, key, u)]).map (entG kf vf)).toArray (clock + 1))) (fun a ha => ?_) (h _ ⟨setBlock_atG hM.1, hM.2.push key u (getG_none.1 hn)⟩ (Ch.putMapG _ _ _))
  have hset := fun o => setObjG (P := P) hM.1 o
  simp only [execOp, ha.eval hx, ha.eval hy, ha.eval hz, Instr.mapUpdate, Sem.run_bind, run_underlying ht, getObj, Sem.run, hM.1, Result.andThen, Sem.run_pure]
  rw [hc]
  simp only []
  rw [hf]
  simp [hset, entG]
theorem Ef.updateG {t kt et : Nat} {x y z : Operand} {key : κ} {u v : β} (ht : P.underlying t = some (.map kt et)) (hk : KeyG P kt kf) (hx : ev env x = some (.map (some gb))) (hy : ev env y = some (kf key)) (hz : ev env z = some (vf u)) (hM : MapG w kf vf gb l clock) (hst : ∀ w : World, (Instr.keyThatStays (kf key) (kf key)).run P w = .ok (kf key) w)
    (hn : getG key l = some v) (h : ∀ w', MapG w' kf vf gb (l.map fun y => if y.2.1 = key then (y.1, key, u) else y) clock -> Ch w w' (some gb) -> K undef w') : Ef P env n ⟨d, .mapUpdate t x y z, T, p, af, g⟩ w K := by
  have hf := hk.get (vf := vf) key l w
  have hc := hk.check false key w
  obtain ⟨j, hj⟩ := findG_of hn
  obtain ⟨e, _, he1, he2, he3⟩ := findG_some key l 0 j v hj
  rw [Nat.sub_zero] at he1
  rw [hj] at hf
  have hset := fun o => setObjG (P := P) hM.1 o
  have hm := set_mapG (fun x : Nat × κ × β => x.2.1) (e.1, key, u) l j e hM.2.keys he1
  have hjl : j < l.length := (List.getElem?_eq_some_iff.1 he1).1
  have hl2 : (l.map fun y => if y.2.1 = key then (y.1, key, u) else y) = l.set j (e.1, key, u) := by
    rw [hm, he2]
    apply List.map_congr_left
    intro y hy
    by_cases hyk : y.2.1 = key
    · rw [if_pos hyk, if_pos hyk]
      rw [nodup_inj (fun x : Nat × κ × β => x.2.1) l hM.2.keys hy (List.mem_of_getElem? he1) (hyk.trans he2.symm)]
    · rw [if_neg hyk, if_neg hyk]
  have hmod : (l.map (entG kf vf)).toArray.modify j (fun e => { e with key := kf key, val := vf u }) = ((l.map fun y => if y.2.1 = key then (y.1, key, u) else y).map (entG kf vf)).toArray := by
    rw [hl2]
    apply Array.ext'
    rw [Array.toList_modify, List.map_set]
    simp only
    apply List.ext_getElem? 
    intro i
    rw [List.getElem?_modify, List.getElem?_set, List.getElem?_map]
    by_cases hij : j = i
    · subst hij
      have hje : l[j] = e := (List.getElem?_eq_some_iff.1 he1).2
      simp [he1, hjl, entG, hje]
    · simp [hij]
  refine .of_runU (w' := setBlock w gb (.map ((l.map fun y => if y.2.1 = key then (y.1, key, u) else y).map (entG kf vf)).toArray clock)) (fun a ha => ?_) (h _ ⟨setBlock_atG hM.1, hM.2.set key u⟩ (Ch.putMapG _ _ _))
  have hkey : (((l.map (entG kf vf)).toArray[j]?).map (·.key)).getD (kf key) = kf key := by simp [he1, entG, he2]
  simp only [execOp, ha.eval hx, ha.eval hy, ha.eval hz, Instr.mapUpdate, Sem.run_bind, run_underlying ht, getObj, Sem.run, hM.1, Result.andThen, Sem.run_pure]
  rw [hc]
  simp only []
  rw [hf]
  simp only [Option.map_some]
  rw [hkey]
  have hst' := hst w
  simp only [Sem.run_bind, hst', Result.andThen_ok, hmod, hset]
theorem Ef.deleteG {t kt et : Nat} {x y : Operand} {key : κ} (ht : P.underlying t = some (.map kt et)) (hk : KeyG P kt kf) (hx : ev env x = some (.map (some gb))) (hy : ev env y = some (kf key)) (hM : MapG w kf vf gb l clock)
    (h : ∀ w', MapG w' kf vf gb (l.filter fun y => decide (y.2.1 ≠ key)) clock -> Ch w w' (some gb) -> K (.tuple #[]) w') : Ef P env n ⟨d, .call ⟨.builtin .delete, #[x, y], #[t, kt]⟩, T, p, af, g⟩ w K := by
  have hfd := hk.get (vf := vf) key l w
  have hset := fun o => setObjG (P := P) hM.1 o
  have hc' : (Instr.checkKey l.isEmpty 10000 kt (kf key)).run P w = .ok () w := hk.check l.isEmpty key w
  refine .of_run (w' := setBlock w gb (.map ((l.filter fun y => decide (y.2.1 ≠ key)).map (entG kf vf)).toArray clock)) (fun a ha => ?_) (h _ ⟨setBlock_atG hM.1, hM.2.filter _⟩ (Ch.putMapG _ _ _))
  simp only [execOp, resolve, invoke, builtin, Builtin.delete_]
  simp only [ha.eval hx, ha.eval hy, List.map_toArray, List.map_cons, List.map_nil, Sem.run_bind, Sem.run_pure, Result.andThen_ok]
  simp [run_underlying ht, getObj, Sem.run, hM.1, Result.andThen]
  rw [hc']
  simp only []
  rw [hfd]
  cases hf : findG key l 0 with
  | none =>
    have hn := (findG_none key l 0).1 hf
    have he : (l.filter fun y => !decide (y.2.1 = key)) = l := List.filter_eq_self.2 fun x hx => by simpa using hn x hx
    simp [hset, he]
  | some q =>
    obtain ⟨j, u⟩ := q
    obtain ⟨z, _, hz1, hz2, hz3⟩ := findG_some key l 0 j u hf
    rw [Nat.sub_zero] at hz1
    have her := eraseIdx_filterG (fun x : Nat × κ × β => x.2.1) l j z hM.2.keys hz1
    rw [hz2] at her
    have hes' : (l.map (entG kf vf)).eraseIdx j = (l.filter fun y => !decide (y.2.1 = key)).map (entG kf vf) := by
      rw [<- Go.ChangeMaps.map_eraseIdx, her]
      congr 1
      apply List.filter_congr
      intro x _
      simp
    simp [hset, hes']
end
end Go.Sx

namespace Go.Lsp
set_option linter.unusedSectionVars false
open Go.Gsp Go.Num Go.Sx
theorem sum_set : ∀ (l : List Int) (i : Nat) (v : Int), i < l.length -> (l.set i v).sum = l.sum - l.getD i 0 + v
  | [], i, v, h => by simp at h
  | x :: l, 0, v, h => by simp; omega
  | x :: l, i + 1, v, h => by
    have := sum_set l i v (by simpa using h)
    simp only [List.set_cons_succ, List.sum_cons, List.getD_cons_succ, this]
    omega
section
variable {κ β : Type} [DecidableEq κ]
theorem sumF_app (f : κ -> β -> Int) (a b : List (Nat × κ × β)) : sumF f (a ++ b) = sumF f a + sumF f b := by simp [sumF]
theorem sumF_one (f : κ -> β -> Int) (b : Nat) (k : κ) (v : β) : sumF f [(b, k, v)] = f k v := by simp [sumF]
theorem getG_cons {key : κ} {b : Nat} {k : κ} {v : β} {l : List (Nat × κ × β)} : getG key ((b, k, v) :: l) = if k = key then some v else getG key l := by
  rw [getG_eq, getG_eq]
  by_cases h : k = key
  · simp [h]
  · simp [h]
theorem upd_none {key : κ} {u : β} {l : List (Nat × κ × β)} (h : ∀ x ∈ l, x.2.1 ≠ key) : updM key u l = l := by
  unfold updM
  have : (l.map fun y => if y.2.1 = key then (y.1, key, u) else y) = l.map id := List.map_congr_left fun y hy => by rw [if_neg (h y hy)]; rfl
  rw [this, List.map_id]
theorem del_none {key : κ} {l : List (Nat × κ × β)} (h : ∀ x ∈ l, x.2.1 ≠ key) : delM key l = l := by
  unfold delM
  rw [List.filter_eq_self]
  intro x hx
  exact decide_eq_true (h x hx)
def keysM (l : List (Nat × κ × β)) : List κ := l.map (·.2.1)
theorem keys_upd (key : κ) (u : β) (l : List (Nat × κ × β)) : keysM (updM key u l) = keysM l := by
  unfold keysM updM
  rw [List.map_map]
  apply List.map_congr_left
  intro x hx
  by_cases h : x.2.1 = key
  · simp [h]
  · simp [h]
theorem keys_nd_tail {x : Nat × κ × β} {l : List (Nat × κ × β)} (h : (keysM (x :: l)).Nodup) : (∀ y ∈ l, y.2.1 ≠ x.2.1) /\ (keysM l).Nodup := by
  unfold keysM at *
  rw [List.map_cons, List.nodup_cons] at h
  exact ⟨fun y hy e => h.1 (by rw [<- e]; exact List.mem_map_of_mem hy), h.2⟩
theorem sumF_upd {f : κ -> β -> Int} {key : κ} {t u : β} : ∀ {l : List (Nat × κ × β)}, (keysM l).Nodup -> getG key l = some t -> sumF f (updM key u l) = sumF f l - f key t + f key u
  | [], _, h => by simp [getG_nil] at h
  | (b, k, v) :: l, hn, h => by
    have hn2 := keys_nd_tail hn
    rw [getG_cons] at h
    by_cases e : k = key
    · subst e
      rw [if_pos rfl] at h
      injection h with h
      subst h
      have h2 : updM k u ((b, k, v) :: l) = (b, k, u) :: l := by
        have := upd_none (u := u) hn2.1
        unfold updM at this ⊢
        rw [List.map_cons, if_pos rfl]
        simp only at this
        rw [this]
      rw [h2, sumF_cons, sumF_cons]
      simp only
      omega
    · rw [if_neg e] at h
      have ih := sumF_upd (f := f) (u := u) hn2.2 h
      have h2 : updM key u ((b, k, v) :: l) = (b, k, v) :: updM key u l := by unfold updM; rw [List.map_cons, if_neg (by simpa using e)]
      rw [h2, sumF_cons, sumF_cons, ih]
      omega
theorem sumF_del {f : κ -> β -> Int} {key : κ} {t : β} : ∀ {l : List (Nat × κ × β)}, (keysM l).Nodup -> getG key l = some t -> sumF f (delM key l) = sumF f l - f key t
  | [], _, h => by simp [getG_nil] at h
  | (b, k, v) :: l, hn, h => by
    have hn2 := keys_nd_tail hn
    rw [getG_cons] at h
    by_cases e : k = key
    · subst e
      rw [if_pos rfl] at h
      injection h with h
      subst h
      have h2 : delM k ((b, k, v) :: l) = l := by
        have := del_none hn2.1
        unfold delM at this ⊢
        rw [List.filter_cons_of_neg (by simp)]
        exact this
      rw [h2, sumF_cons]
      simp only
      omega
    · rw [if_neg e] at h
      have ih := sumF_del (f := f) hn2.2 h
      have h2 : delM key ((b, k, v) :: l) = (b, k, v) :: delM key l := by unfold delM; rw [List.filter_cons_of_pos (by simpa using e)]
      rw [h2, sumF_cons, sumF_cons, ih]
      omega
theorem get_upd {key k : κ} {u : β} {l : List (Nat × κ × β)} (h : ∃ v, getG k l = some v) : getG key (updM k u l) = if key = k then some u else getG key l := getG_set h
theorem get_del {key k : κ} {l : List (Nat × κ × β)} : getG key (delM k l) = if key = k then none else getG key l := getG_del
theorem get_some {l : List (Nat × κ × β)} {x : Nat × κ × β} (hn : (keysM l).Nodup) (hx : x ∈ l) : getG x.2.1 l = some x.2.2 := by
  induction l with
  | nil => cases hx
  | cons y l ih =>
    obtain ⟨b, k, v⟩ := y
    have hn2 := keys_nd_tail hn
    rw [getG_cons]
    rcases List.mem_cons.1 hx with rfl | hx
    · rw [if_pos rfl]
    · rw [if_neg (fun e => hn2.1 x hx e.symm)]
      exact ih hn2.2 hx
theorem mem_upd {key : κ} {u : β} {l : List (Nat × κ × β)} {x : Nat × κ × β} (h : x ∈ updM key u l) : (x.2.1 = key /\ x.2.2 = u) \/ (x ∈ l /\ x.2.1 ≠ key) := by
  unfold updM at h
  obtain ⟨y, hy, rfl⟩ := List.mem_map.1 h
  by_cases e : y.2.1 = key
  · rw [if_pos e]; exact .inl ⟨rfl, rfl⟩
  · rw [if_neg e]; exact .inr ⟨hy, e⟩
theorem mem_del {key : κ} {l : List (Nat × κ × β)} {x : Nat × κ × β} (h : x ∈ delM key l) : x ∈ l /\ x.2.1 ≠ key := by
  unfold delM at h
  have := List.mem_filter.1 h
  exact ⟨this.1, of_decide_eq_true this.2⟩
theorem keys_del_nd {key : κ} {l : List (Nat × κ × β)} (h : (keysM l).Nodup) : (keysM (delM key l)).Nodup := by
  unfold keysM delM at *
  exact h.sublist (List.filter_sublist.map _)
theorem keys_push_nd {key : κ} {u : β} {b : Nat} {l : List (Nat × κ × β)} (h : (keysM l).Nodup) (hn : getG key l = none) : (keysM (l ++ [(b, key, u)])).Nodup := by
  unfold keysM at *
  rw [List.map_append, List.nodup_append]
  refine ⟨h, by simp, ?_⟩
  intro a ha c hc
  simp at hc
  subst hc
  obtain ⟨x, hx, rfl⟩ := List.mem_map.1 ha
  exact getG_none.1 hn x hx
theorem sumF_nn_del {f : κ -> β -> Int} {key : κ} {t : β} {l : List (Nat × κ × β)} (hf : ∀ x ∈ l, 0 <= f x.2.1 x.2.2) (hn : (keysM l).Nodup) (h : getG key l = some t) : f key t <= sumF f l := by
  have h1 := sumF_del (f := f) hn h
  have h2 : 0 <= sumF f (delM key l) := sumF_nonneg fun x hx => hf x (mem_del hx).1
  omega
end
def sumH (ls : SM) : Int := sumF (fun _ s => s.h0 + s.h1) ls
def sumA (lh : HM) : Int := sumF (fun _ h => h.am) lh
def Led.all (s : Led) : Int := s.own.sum + sumH s.ls + sumA s.lh + s.lost
def holdOk (ls : SM) (k : Spot) (h : Hold) : Prop := (0 <= k.side /\ k.side <= 1) /\ (1 <= h.am /\ h.am <= 1125899906842624) /\ ∃ t, getG k.ch ls = some t
structure GoodL (s : Led) : Prop where
  len : 1 <= s.own.length /\ s.own.length <= 12
  own : ∀ x ∈ s.own, 0 <= x
  seats : ∀ x ∈ s.ls, x.2.1 = x.2.2.ch /\ (0 <= x.2.1 /\ x.2.1 < 40) /\ seatOk s.own.length x.2.2
  keys : (keysM s.ls).Nodup
  holds : ∀ x ∈ s.lh, holdOk s.ls x.2.1 x.2.2
  hkeys : (keysM s.lh).Nodup
  lost : 0 <= s.lost
  tot : s.all <= 1125899906842624
theorem sum_nn {l : List Int} (h : ∀ x ∈ l, 0 <= x) : 0 <= l.sum := by
  have := (sum_take_le l h l.length).1
  rwa [List.take_length] at this
theorem le_sum : ∀ {l : List Int}, (∀ x ∈ l, 0 <= x) -> ∀ i, l.getD i 0 <= l.sum
  | [], h, i => by simp
  | x :: l, h, 0 => by
    have := sum_nn (l := l) fun y hy => h y (List.mem_cons_of_mem _ hy)
    simp only [List.getD_cons_zero, List.sum_cons]; omega
  | x :: l, h, i + 1 => by
    have h1 := le_sum (l := l) (fun y hy => h y (List.mem_cons_of_mem _ hy)) i
    have h2 := h x List.mem_cons_self
    simp only [List.getD_cons_succ, List.sum_cons]; omega
theorem getD_nn {l : List Int} (h : ∀ x ∈ l, 0 <= x) (i : Nat) : 0 <= l.getD i 0 := by
  by_cases hi : i < l.length
  · have : l.getD i 0 = l[i] := by simp [List.getD, hi]
    rw [this]; exact h _ (List.getElem_mem hi)
  · rw [List.getD_eq_getElem?_getD, List.getElem?_eq_none (by omega)]; exact Int.le_refl _
section
variable {s : Led}
theorem GoodL.h_nn (h : GoodL s) : ∀ x ∈ s.ls, 0 <= x.2.2.h0 + x.2.2.h1 := fun x hx => by
  obtain ⟨_, _, _, _, _, h3, h4⟩ := h.seats x hx; omega
theorem GoodL.a_nn (h : GoodL s) : ∀ x ∈ s.lh, 0 <= x.2.2.am := fun x hx => by have := (h.holds x hx).2.1; omega
theorem GoodL.parts (h : GoodL s) : 0 <= s.own.sum /\ 0 <= sumH s.ls /\ 0 <= sumA s.lh := ⟨sum_nn h.own, sumF_nonneg h.h_nn, sumF_nonneg h.a_nn⟩
theorem GoodL.ownB (h : GoodL s) (i : Nat) : 0 <= s.own.getD i 0 /\ s.own.getD i 0 <= 1125899906842624 := by
  have h1 := le_sum h.own i
  have h2 := h.parts
  have h3 := h.tot
  have h4 := h.lost
  unfold Led.all at h3
  exact ⟨getD_nn h.own i, by omega⟩
theorem GoodL.lostB (h : GoodL s) : 0 <= s.lost /\ s.lost <= 1125899906842624 := by
  have h2 := h.parts
  have h3 := h.tot
  have h4 := h.lost
  unfold Led.all at h3
  omega
theorem GoodL.seat (h : GoodL s) {ch : Int} {t : Seat} (hg : getG ch s.ls = some t) : ch = t.ch /\ (0 <= ch /\ ch < 40) /\ seatOk s.own.length t /\ t.h0 + t.h1 <= sumH s.ls := by
  obtain ⟨b, hb⟩ := getG_mem hg
  obtain ⟨h1, h2, h3⟩ := h.seats _ hb
  exact ⟨h1, h2, h3, sumF_nn_del (f := fun (_ : Int) (s : Seat) => s.h0 + s.h1) h.h_nn h.keys hg⟩
theorem GoodL.hold (h : GoodL s) {k : Spot} {t : Hold} (hg : getG k s.lh = some t) : holdOk s.ls k t /\ t.am <= sumA s.lh := by
  obtain ⟨b, hb⟩ := getG_mem hg
  exact ⟨h.holds _ hb, sumF_nn_del (f := fun (_ : Spot) (y : Hold) => y.am) h.a_nn h.hkeys hg⟩
theorem heldF_le {ch side : Int} (lh : HM) (h : ∀ x ∈ lh, 0 <= x.2.2.am) : 0 <= heldL lh ch side /\ heldL lh ch side <= sumA lh := by
  induction lh with
  | nil => simp [heldL, sumA, sumF]
  | cons x lh ih =>
    have h1 := ih fun y hy => h y (List.mem_cons_of_mem _ hy)
    have h2 := h x List.mem_cons_self
    unfold heldL sumA at *
    rw [sumF_cons, sumF_cons]
    have : 0 <= heldF ch side x.2.1 x.2.2 /\ heldF ch side x.2.1 x.2.2 <= x.2.2.am := by
      unfold heldF; split <;> omega
    omega
theorem GoodL.heldB (h : GoodL s) (ch side : Int) : 0 <= heldL s.lh ch side /\ heldL s.lh ch side <= 1125899906842624 := by
  have h1 := heldF_le (ch := ch) (side := side) s.lh h.a_nn
  have h2 := h.parts
  have h3 := h.tot
  have h4 := h.lost
  unfold Led.all at h3
  omega
def openL (s : Led) (t : Seat) (fee : Int) : Led × Int :=
  if ¬ (mayL s.own.length t /\ 0 <= fee /\ fee <= 1125899906842624) then (s, 1)
  else if (getG t.ch s.ls).isSome then (s, 4)
  else if s.own.getD t.p0.toNat 0 < t.h0 + fee \/ s.own.getD t.p1.toNat 0 < t.h1 then (s, 8)
  else (⟨giveO (giveO s.own t 0 t.h0 fee) t 1 t.h1 0, s.ls ++ [(s.cs, t.ch, t)], s.cs + 1, s.lh, s.ck, s.lost + fee⟩, 0)
def closeL (s : Led) (ch : Int) (fee : Pair) : Led × Int :=
  if ¬ ((0 <= fee.a /\ fee.a <= 1125899906842624) /\ 0 <= fee.b /\ fee.b <= 1125899906842624) then (s, 1)
  else match getG ch s.ls with
    | none => (s, 5)
    | some t => if ¬ heldL s.lh ch 0 + heldL s.lh ch 1 = 0 then (s, 14) else if t.h0 < fee.a \/ t.h1 < fee.b then (s, 8)
      else (⟨backO s.own t fee 2, delM ch s.ls, s.cs, s.lh, s.ck, backF s.lost fee 2⟩, 0)
instance offerOk_dec (side id am : Int) (pt : Nat) : Decidable (offerOk side id am pt) := by unfold offerOk; infer_instance
def offerL (s : Led) (ch side id am : Int) (pt : Nat) : Led × Int :=
  if ¬ offerOk side id am pt then (s, 1)
  else match getG ch s.ls with
    | none => (s, 5)
    | some t => if (getG (⟨ch, side, id⟩ : Spot) s.lh).isSome then (s, 4) else if t.h side.toNat < am then (s, 8)
      else (⟨s.own, updM ch (t.setH side.toNat (t.h side.toNat - am)) s.ls, s.cs, s.lh ++ [(s.ck, ⟨ch, side, id⟩, ⟨am, pt⟩)], s.ck + 1, s.lost⟩, 0)
def endL (s : Led) (ch side id : Int) (h : Hold) (t : Seat) (to : Int) : Led :=
  ⟨s.own, updM ch (t.setH to.toNat (t.h to.toNat + h.am)) s.ls, s.cs, delM (⟨ch, side, id⟩ : Spot) s.lh, s.ck, s.lost⟩
def settleL (s : Led) (ch side id : Int) (sec : Nat) : Led × Int :=
  match getG (⟨ch, side, id⟩ : Spot) s.lh with
    | none => (s, 5)
    | some h => if base sec ≠ h.pt then (s, 23) else (endL s ch side id h ((getG ch s.ls).getD noSeat) (1 - side), 0)
def failL (s : Led) (ch side id : Int) : Led × Int :=
  match getG (⟨ch, side, id⟩ : Spot) s.lh with
    | none => (s, 5)
    | some h => (endL s ch side id h ((getG ch s.ls).getD noSeat) side, 0)
def payF (st : SM × Int) (g : Leg) : SM × Int :=
  if st.2 ≠ 0 then st else if ¬ legOk g then (st.1, 1) else match getG g.ch st.1 with
    | none => (st.1, 5)
    | some s => if s.h g.side.toNat < g.am then (st.1, 8) else (updM g.ch (legS s g) st.1, 0)
def payTo (ls : SM) (legs : List Leg) : SM × Int := legs.foldl payF (ls, 0)
def payL (s : Led) (legs : List Leg) : Led × Int :=
  if (payTo s.ls legs).2 ≠ 0 then (s, (payTo s.ls legs).2) else (⟨s.own, (payTo s.ls legs).1, s.cs, s.lh, s.ck, s.lost⟩, 0)
instance spOk_dec (d fee : Pair) : Decidable (spOk d fee) := by
  have : spOk d fee ↔ ((-1125899906842624 <= d.a /\ d.a <= 1125899906842624) /\ 0 <= fee.a /\ fee.a <= 1125899906842624) /\ ((-1125899906842624 <= d.b /\ d.b <= 1125899906842624) /\ 0 <= fee.b /\ fee.b <= 1125899906842624) := by
    constructor
    · intro h; exact ⟨h 0 (by omega), h 1 (by omega)⟩
    · rintro ⟨h0, h1⟩ k hk
      have : k = 0 \/ k = 1 := by omega
      rcases this with rfl | rfl
      · exact h0
      · exact h1
  exact decidable_of_iff _ this.symm
instance spNo_dec (own : List Int) (s : Seat) (d fee : Pair) (k : Nat) : Decidable (spNo own s d fee k) := by unfold spNo; infer_instance
def spliceL (s : Led) (ch : Int) (d fee : Pair) : Led × Int :=
  if ¬ spOk d fee then (s, 1)
  else match getG ch s.ls with
    | none => (s, 5)
    | some t => if spNo s.own t d fee 0 \/ spNo s.own t d fee 1 then (s, 8)
      else (⟨spO s.own (addK t d 2) d fee 2, updM ch (addK t d 2) s.ls, s.cs, s.lh, s.ck, backF s.lost fee 2⟩, 0)
theorem giveO_sum {own : List Int} {t : Seat} {j : Nat} {am fee : Int} (h : 0 <= t.p j /\ t.p j < own.length) : (giveO own t j am fee).sum = own.sum - (am + fee) := by
  unfold giveO
  rw [sum_set _ _ _ (by omega)]
  omega
theorem mem_set_nn {l : List Int} {i : Nat} {v : Int} (h : ∀ x ∈ l, 0 <= x) (hv : 0 <= v) : ∀ x ∈ l.set i v, 0 <= x := fun x hx => by
  rcases List.mem_or_eq_of_mem_set hx with hx | rfl
  · exact h x hx
  · exact hv
theorem giveO_nn {own : List Int} {t : Seat} {j : Nat} {am fee : Int} (h : ∀ x ∈ own, 0 <= x) (hf : am + fee <= own.getD (t.p j).toNat 0) : ∀ x ∈ giveO own t j am fee, 0 <= x := mem_set_nn h (by omega)
theorem holdOk_push {ls : SM} {k : Spot} {h : Hold} {x : Nat × Int × Seat} (hn : getG x.2.1 ls = none) (hh : holdOk ls k h) : holdOk (ls ++ [x]) k h := by
  obtain ⟨h1, h2, t, h3⟩ := hh
  refine ⟨h1, h2, ?_⟩
  obtain ⟨b, k0, u⟩ := x
  rw [getG_push hn]
  by_cases e : k.ch = k0
  · exact ⟨u, by rw [if_pos e]⟩
  · exact ⟨t, by rw [if_neg e]; exact h3⟩
theorem holdOk_upd {ls : SM} {k : Spot} {h : Hold} {ch : Int} {u : Seat} (hc : ∃ v, getG ch ls = some v) (hh : holdOk ls k h) : holdOk (updM ch u ls) k h := by
  obtain ⟨h1, h2, t, h3⟩ := hh
  refine ⟨h1, h2, ?_⟩
  rw [get_upd hc]
  by_cases e : k.ch = ch
  · exact ⟨u, by rw [if_pos e]⟩
  · exact ⟨t, by rw [if_neg e]; exact h3⟩
theorem open_good (h : GoodL s) (t : Seat) (fee : Int) : GoodL (openL s t fee).1 /\ (openL s t fee).1.all = s.all := by
  unfold openL
  split
  · exact ⟨h, rfl⟩
  · rename_i c1
    split
    · exact ⟨h, rfl⟩
    · rename_i c2
      split
      · exact ⟨h, rfl⟩
      · rename_i c3
        have c1 := Decidable.not_not.1 c1
        have hg : getG t.ch s.ls = none := by simpa using c2
        obtain ⟨⟨m1, m2, m3, m4, m5⟩, f1, f2⟩ := c1
        have ha : (⟨giveO (giveO s.own t 0 t.h0 fee) t 1 t.h1 0, s.ls ++ [(s.cs, t.ch, t)], s.cs + 1, s.lh, s.ck, s.lost + fee⟩ : Led).all = s.all := by
          unfold Led.all sumH
          simp only
          rw [giveO_sum (t := t) (j := 1) (by rw [giveO_len]; exact ⟨m2.1, m2.2.1⟩), giveO_sum (t := t) (j := 0) (own := s.own) ⟨m1.1, m1.2.1⟩, sumF_app, sumF_one]
          omega
        refine ⟨⟨by simp only [giveO_len]; exact h.len, ?_, ?_, keys_push_nd h.keys hg, fun x hx => holdOk_push hg (h.holds x hx), h.hkeys, by have := h.lost; simp only; omega, by rw [ha]; exact h.tot⟩, ha⟩
        · have e1 : (giveO s.own t 0 t.h0 fee).getD (t.p 1).toNat 0 = s.own.getD (t.p 1).toNat 0 := giveO_ne (j := 0) (k := 1) m1.1 m2.1 m5
          refine giveO_nn (giveO_nn h.own ?_) ?_
          · have : t.p 0 = t.p0 := rfl
            rw [this]; omega
          · rw [e1]
            have : t.p 1 = t.p1 := rfl
            rw [this]; omega
        · intro x hx
          simp only [giveO_len]
          rcases List.mem_append.1 hx with hx | hx
          · exact h.seats x hx
          · simp only [List.mem_singleton] at hx
            subst hx
            exact ⟨rfl, ⟨m3, m4⟩, ⟨m1.1, m1.2.1⟩, ⟨m2.1, m2.2.1⟩, m5, ⟨m1.2.2.1, m1.2.2.2⟩, m2.2.2.1, m2.2.2.2⟩
theorem holdOk_del {ls : SM} {k : Spot} {h : Hold} {ch : Int} (hne : k.ch ≠ ch) (hh : holdOk ls k h) : holdOk (delM ch ls) k h := by
  obtain ⟨h1, h2, t, h3⟩ := hh
  exact ⟨h1, h2, t, by rw [get_del, if_neg hne]; exact h3⟩
theorem free_none (h : GoodL s) {ch : Int} (h0 : heldL s.lh ch 0 + heldL s.lh ch 1 = 0) : ∀ x ∈ s.lh, x.2.1.ch ≠ ch := by
  intro x hx e
  have b0 := heldF_le (ch := ch) (side := 0) s.lh h.a_nn
  have b1 := heldF_le (ch := ch) (side := 1) s.lh h.a_nn
  obtain ⟨⟨s0, s1⟩, ⟨a0, a1⟩, _⟩ := h.holds x hx
  have hg := get_some h.hkeys hx
  have hn : ∀ sd : Int, ∀ y ∈ s.lh, 0 <= heldF ch sd y.2.1 y.2.2 := fun sd y hy => by
    have := h.a_nn y hy
    unfold heldF; split <;> omega
  have q0 := sumF_nn_del (f := heldF ch 0) (hn 0) h.hkeys hg
  have q1 := sumF_nn_del (f := heldF ch 1) (hn 1) h.hkeys hg
  have w0 : sumF (heldF ch 0) s.lh = heldL s.lh ch 0 := rfl
  have w1 : sumF (heldF ch 1) s.lh = heldL s.lh ch 1 := rfl
  have hs : x.2.1.side = 0 \/ x.2.1.side = 1 := by omega
  rcases hs with hs | hs
  · have : heldF ch 0 x.2.1 x.2.2 = x.2.2.am := if_pos ⟨e, hs⟩
    omega
  · have : heldF ch 1 x.2.1 x.2.2 = x.2.2.am := if_pos ⟨e, hs⟩
    omega
theorem seatOk_two {n : Nat} {t : Seat} (h : seatOk n t) : (0 <= t.p 0 /\ t.p 0 < n) /\ (0 <= t.p 1 /\ t.p 1 < n) /\ t.p 0 ≠ t.p 1 := ⟨h.1, h.2.1, h.2.2.1⟩
theorem close_good (h : GoodL s) (ch : Int) (fee : Pair) : GoodL (closeL s ch fee).1 /\ (closeL s ch fee).1.all = s.all := by
  unfold closeL
  split
  · exact ⟨h, rfl⟩
  · rename_i c1
    have c1 := Decidable.not_not.1 c1
    split
    · exact ⟨h, rfl⟩
    · rename_i t hg
      split
      · exact ⟨h, rfl⟩
      · rename_i c2
        have c2 := Decidable.not_not.1 c2
        split
        · exact ⟨h, rfl⟩
        · rename_i c3
          obtain ⟨e1, e2, e3, e4⟩ := h.seat hg
          obtain ⟨p0, p1, pn⟩ := seatOk_two e3
          have x0 : t.h 0 = t.h0 := rfl
          have x1 : t.h 1 = t.h1 := rfl
          have y0 : fee.ix 0 = fee.a := rfl
          have y1 : fee.ix 1 = fee.b := rfl
          have ha : (⟨backO s.own t fee 2, delM ch s.ls, s.cs, s.lh, s.ck, backF s.lost fee 2⟩ : Led).all = s.all := by
            have := sumF_del (f := fun (_ : Int) (s : Seat) => s.h0 + s.h1) h.keys hg
            unfold Led.all sumH
            simp only [backO, backF]
            rw [giveO_sum (by rw [giveO_len]; exact p1), giveO_sum p0, this]
            omega
          refine ⟨⟨by simp only [backO_len]; exact h.len, ?_, ?_, keys_del_nd h.keys, fun x hx => holdOk_del (free_none h c2 x hx) (h.holds x hx), h.hkeys, by have := h.lost; simp only [backF]; omega, by rw [ha]; exact h.tot⟩, ha⟩
          · have q : (giveO s.own t 0 (-t.h 0) (fee.ix 0)).getD (t.p 1).toNat 0 = s.own.getD (t.p 1).toNat 0 := giveO_ne (j := 0) (k := 1) p0.1 p1.1 pn
            have n0 := h.ownB (t.p 0).toNat
            have n1 := h.ownB (t.p 1).toNat
            simp only [backO]
            refine giveO_nn (giveO_nn h.own ?_) ?_
            · omega
            · rw [q]; omega
          · intro x hx
            have := h.seats x (mem_del hx).1
            simpa only [backO_len] using this
theorem setH_two {t : Seat} {i : Nat} {v : Int} (hi : i < 2) : (t.setH i v).h0 + (t.setH i v).h1 = t.h0 + t.h1 - t.h i + v := by
  have : i = 0 \/ i = 1 := by omega
  rcases this with rfl | rfl
  · simp [Seat.setH, Seat.h]; omega
  · simp [Seat.setH, Seat.h]
theorem setH_ok {n : Nat} {t : Seat} {i : Nat} {v : Int} (h : seatOk n t) (hv : 0 <= v /\ v <= 1125899906842624) : seatOk n (t.setH i v) := by
  obtain ⟨h1, h2, h3, h4, h5⟩ := h
  unfold Seat.setH
  split
  · exact ⟨h1, h2, h3, hv, h5⟩
  · exact ⟨h1, h2, h3, h4, hv⟩
theorem setH_ch (t : Seat) (i : Nat) (v : Int) : (t.setH i v).ch = t.ch := by unfold Seat.setH; split <;> rfl
theorem h_two {t : Seat} {n : Nat} (h : seatOk n t) (i : Nat) : (0 <= t.h i /\ t.h i <= 1125899906842624) /\ t.h i <= t.h0 + t.h1 := by
  obtain ⟨_, _, _, h4, h5⟩ := h
  unfold Seat.h
  split <;> omega
theorem upd_good (h : GoodL s) {ch : Int} {t u : Seat} (hg : getG ch s.ls = some t) (hu : seatOk s.own.length u) (hc : u.ch = t.ch) {lh : HM} {ck : Nat} (hh : ∀ x ∈ lh, holdOk s.ls x.2.1 x.2.2) (hk : (keysM lh).Nodup) (hs : u.h0 + u.h1 + sumA lh = t.h0 + t.h1 + sumA s.lh) :
    GoodL ⟨s.own, updM ch u s.ls, s.cs, lh, ck, s.lost⟩ /\ (⟨s.own, updM ch u s.ls, s.cs, lh, ck, s.lost⟩ : Led).all = s.all := by
  have e := h.seat hg
  have ha : (⟨s.own, updM ch u s.ls, s.cs, lh, ck, s.lost⟩ : Led).all = s.all := by
    have := sumF_upd (f := fun (_ : Int) (s : Seat) => s.h0 + s.h1) (u := u) h.keys hg
    unfold Led.all sumH
    simp only
    rw [this]
    omega
  refine ⟨⟨h.len, h.own, ?_, by rw [keys_upd]; exact h.keys, fun x hx => holdOk_upd ⟨t, hg⟩ (hh x hx), hk, h.lost, by rw [ha]; exact h.tot⟩, ha⟩
  intro x hx
  rcases mem_upd hx with ⟨q1, q2⟩ | ⟨q1, q2⟩
  · rw [q1, q2]
    exact ⟨by rw [hc]; exact e.1, e.2.1, hu⟩
  · exact h.seats x q1
theorem sumA_app (lh : HM) (b : Nat) (k : Spot) (x : Hold) : sumA (lh ++ [(b, k, x)]) = sumA lh + x.am := by unfold sumA; rw [sumF_app, sumF_one]
theorem offer_good (h : GoodL s) (ch side id am : Int) (pt : Nat) : GoodL (offerL s ch side id am pt).1 /\ (offerL s ch side id am pt).1.all = s.all := by
  unfold offerL
  split
  · exact ⟨h, rfl⟩
  · rename_i c1
    have c1 := Decidable.not_not.1 c1
    split
    · exact ⟨h, rfl⟩
    · rename_i t hg
      split
      · exact ⟨h, rfl⟩
      · rename_i c2
        have hn : getG (⟨ch, side, id⟩ : Spot) s.lh = none := by simpa using c2
        split
        · exact ⟨h, rfl⟩
        · rename_i c3
          obtain ⟨⟨o1, o2⟩, o3, ⟨o4, o5⟩, _⟩ := c1
          obtain ⟨e1, e2, e3, e4⟩ := h.seat hg
          have b := h_two e3 side.toNat
          refine upd_good h hg (setH_ok e3 (by omega)) (setH_ch _ _ _) ?_ (keys_push_nd h.hkeys hn) (by rw [setH_two (by omega), sumA_app]; simp only; omega)
          intro x hx
          rcases List.mem_append.1 hx with hx | hx
          · exact h.holds x hx
          · simp only [List.mem_singleton] at hx
            subst hx
            exact ⟨⟨o1, o2⟩, ⟨o4, o5⟩, t, hg⟩
theorem end_good (h : GoodL s) {ch side id : Int} {x : Hold} {t : Seat} {to : Int} (hx : getG (⟨ch, side, id⟩ : Spot) s.lh = some x) (ht : getG ch s.ls = some t) (hto : 0 <= to /\ to <= 1) : GoodL (endL s ch side id x t to) /\ (endL s ch side id x t to).all = s.all := by
  obtain ⟨e1, e2, e3, e4⟩ := h.seat ht
  obtain ⟨⟨_, ⟨a1, a2⟩, _⟩, a3⟩ := h.hold hx
  have b := h_two e3 to.toNat
  have hp := h.parts
  have htot := h.tot
  have hl := h.lost
  unfold Led.all at htot
  have hd : sumA (delM (⟨ch, side, id⟩ : Spot) s.lh) = sumA s.lh - x.am := sumF_del (f := fun (_ : Spot) (y : Hold) => y.am) h.hkeys hx
  exact upd_good h ht (setH_ok e3 (by omega)) (setH_ch _ _ _) (fun y hy => h.holds y (mem_del hy).1) (keys_del_nd h.hkeys) (by rw [setH_two (by omega), hd]; omega)
theorem hold_seat (h : GoodL s) {ch side id : Int} {x : Hold} (hx : getG (⟨ch, side, id⟩ : Spot) s.lh = some x) : getG ch s.ls = some ((getG ch s.ls).getD noSeat) /\ 0 <= side /\ side <= 1 := by
  obtain ⟨⟨a0, _, t, a3⟩, _⟩ := h.hold hx
  simp only at a3 a0
  rw [a3]
  exact ⟨rfl, a0⟩
theorem settle_good (h : GoodL s) (ch side id : Int) (sec : Nat) : GoodL (settleL s ch side id sec).1 /\ (settleL s ch side id sec).1.all = s.all := by
  unfold settleL
  split
  · exact ⟨h, rfl⟩
  · rename_i x hx
    split
    · exact ⟨h, rfl⟩
    · have q := hold_seat h hx
      exact end_good h hx q.1 (by omega)
theorem fail_good (h : GoodL s) (ch side id : Int) : GoodL (failL s ch side id).1 /\ (failL s ch side id).1.all = s.all := by
  unfold failL
  split
  · exact ⟨h, rfl⟩
  · rename_i x hx
    have q := hold_seat h hx
    exact end_good h hx q.1 (by omega)
theorem legS_ok {n : Nat} {t : Seat} {g : Leg} (h : seatOk n t) (hs : t.h0 + t.h1 <= 1125899906842624) (hg : legOk g) (hf : ¬ t.h g.side.toNat < g.am) : seatOk n (legS t g) /\ (legS t g).h0 + (legS t g).h1 = t.h0 + t.h1 /\ (legS t g).ch = t.ch := by
  obtain ⟨⟨a1, a2⟩, a3, a4⟩ := hg
  have b := h_two h g.side.toNat
  have b2 := h_two h (1 - g.side).toNat
  have hsum : t.h g.side.toNat + t.h (1 - g.side).toNat = t.h0 + t.h1 := by
    have : g.side = 0 \/ g.side = 1 := by omega
    rcases this with e | e
    · rw [e]; rfl
    · rw [e]; simp [Seat.h]; omega
  have hne : (t.setH g.side.toNat (t.h g.side.toNat - g.am)).h (1 - g.side).toNat = t.h (1 - g.side).toNat := by
    have : g.side = 0 \/ g.side = 1 := by omega
    rcases this with e | e
    · rw [e]; rfl
    · rw [e]; rfl
  unfold legS
  refine ⟨setH_ok (setH_ok h (by omega)) (by rw [hne]; omega), ?_, by rw [setH_ch, setH_ch]⟩
  rw [setH_two (by omega), setH_two (by omega), hne]
  omega
theorem payF_0 (ls : SM) (g : Leg) : payF (ls, 0) g = if ¬ legOk g then ((ls, 1) : SM × Int) else match getG g.ch ls with
    | none => (ls, 5)
    | some s => if s.h g.side.toNat < g.am then (ls, 8) else (updM g.ch (legS s g) ls, 0) := by unfold payF; rw [if_neg (by simp)]
theorem pay_good_aux (legs : List Leg) : ∀ {s : Led}, GoodL s -> GoodL ⟨s.own, (legs.foldl payF (s.ls, 0)).1, s.cs, s.lh, s.ck, s.lost⟩ /\ (⟨s.own, (legs.foldl payF (s.ls, 0)).1, s.cs, s.lh, s.ck, s.lost⟩ : Led).all = s.all := by
  induction legs with
  | nil => intro s h; exact ⟨h, rfl⟩
  | cons g legs ih =>
    intro s h
    rw [List.foldl_cons]
    have herr : ∀ (e : Int) (ls : SM), e ≠ 0 -> ∀ l : List Leg, l.foldl payF (ls, e) = (ls, e) := by
      intro e ls he l
      induction l with
      | nil => rfl
      | cons a l ih => rw [List.foldl_cons]; unfold payF; rw [if_pos (by exact he)]; exact ih
    rw [payF_0]
    by_cases hg : legOk g
    · rw [if_neg (not_not_intro hg)]
      cases hl : getG g.ch s.ls with
      | none => simp only; rw [herr 5 _ (by omega)]; exact ⟨h, rfl⟩
      | some t =>
        simp only
        by_cases hf : t.h g.side.toNat < g.am
        · rw [if_pos hf, herr 8 _ (by omega)]; exact ⟨h, rfl⟩
        · rw [if_neg hf]
          obtain ⟨e1, e2, e3, e4⟩ := h.seat hl
          have hp := h.parts
          have htot := h.tot
          have hlo := h.lost
          unfold Led.all at htot
          have q := legS_ok e3 (by omega) hg hf
          have k := upd_good h hl q.1 q.2.2 (lh := s.lh) (ck := s.ck) h.holds h.hkeys (by rw [q.2.1])
          have := ih k.1
          simp only at this
          exact ⟨this.1, this.2.trans k.2⟩
    · rw [if_pos hg, herr 1 _ (by omega)]; exact ⟨h, rfl⟩
theorem pay_good (h : GoodL s) (legs : List Leg) : GoodL (payL s legs).1 /\ (payL s legs).1.all = s.all := by
  unfold payL
  split
  · exact ⟨h, rfl⟩
  · exact pay_good_aux legs h
theorem addK_2 (t : Seat) (d : Pair) : addK t d 2 = ⟨t.ch, t.p0, t.p1, t.h0 + d.a, t.h1 + d.b⟩ := by
  simp [addK, Seat.setH, Seat.h, Pair.ix]
theorem splice_good (h : GoodL s) (ch : Int) (d fee : Pair) : GoodL (spliceL s ch d fee).1 /\ (spliceL s ch d fee).1.all = s.all := by
  unfold spliceL
  split
  · exact ⟨h, rfl⟩
  · rename_i c1
    have c1 := Decidable.not_not.1 c1
    split
    · exact ⟨h, rfl⟩
    · rename_i t hg
      split
      · exact ⟨h, rfl⟩
      · rename_i c2
        obtain ⟨e1, e2, e3, e4⟩ := h.seat hg
        obtain ⟨p0, p1, pn⟩ := seatOk_two e3
        have x0 : t.h 0 = t.h0 := rfl
        have x1 : t.h 1 = t.h1 := rfl
        have y0 : fee.ix 0 = fee.a := rfl
        have y1 : fee.ix 1 = fee.b := rfl
        have z0 : d.ix 0 = d.a := rfl
        have z1 : d.ix 1 = d.b := rfl
        have s0 := c1 0 (by omega)
        have s1 := c1 1 (by omega)
        unfold spNo at c2
        have hp := h.parts
        have htot := h.tot
        have hlo := h.lost
        unfold Led.all at htot
        rw [addK_2]
        have q0 := h.ownB (t.p 0).toNat
        have q1 := h.ownB (t.p 1).toNat
        have m0 := le_sum h.own (t.p 0).toNat
        have hsum2 : s.own.getD (t.p 0).toNat 0 + s.own.getD (t.p 1).toNat 0 <= s.own.sum := by
          have r := le_sum (l := s.own.set (t.p 0).toNat 0) (mem_set_nn h.own (Int.le_refl _)) (t.p 1).toNat
          rw [sum_set _ _ _ (by omega)] at r
          rw [List.getD_eq_getElem?_getD, List.getElem?_set_ne (by omega), <- List.getD_eq_getElem?_getD] at r
          omega
        have ha : (⟨spO s.own ⟨t.ch, t.p0, t.p1, t.h0 + d.a, t.h1 + d.b⟩ d fee 2, updM ch ⟨t.ch, t.p0, t.p1, t.h0 + d.a, t.h1 + d.b⟩ s.ls, s.cs, s.lh, s.ck, backF s.lost fee 2⟩ : Led).all = s.all := by
          have := sumF_upd (f := fun (_ : Int) (s : Seat) => s.h0 + s.h1) (u := (⟨t.ch, t.p0, t.p1, t.h0 + d.a, t.h1 + d.b⟩ : Seat)) h.keys hg
          unfold Led.all sumH
          simp only [spO, backF]
          rw [giveO_sum (t := (⟨t.ch, t.p0, t.p1, t.h0 + d.a, t.h1 + d.b⟩ : Seat)) (j := 1) (by rw [giveO_len]; exact p1), giveO_sum (t := (⟨t.ch, t.p0, t.p1, t.h0 + d.a, t.h1 + d.b⟩ : Seat)) (j := 0) p0, this]
          simp only
          omega
        have hok : seatOk s.own.length ⟨t.ch, t.p0, t.p1, t.h0 + d.a, t.h1 + d.b⟩ := by
          obtain ⟨w1, w2, w3, w4, w5⟩ := e3
          refine ⟨w1, w2, w3, ?_, ?_⟩
          · simp only; omega
          · simp only; omega
        refine ⟨⟨by simp only [spO_len]; exact h.len, ?_, ?_, by simp only [keys_upd]; exact h.keys, fun x hx => holdOk_upd ⟨t, hg⟩ (h.holds x hx), h.hkeys, by have := h.lost; simp only [backF]; omega, by rw [ha]; exact h.tot⟩, ha⟩
        · have q : (giveO s.own ⟨t.ch, t.p0, t.p1, t.h0 + d.a, t.h1 + d.b⟩ 0 (d.ix 0) (fee.ix 0)).getD (t.p 1).toNat 0 = s.own.getD (t.p 1).toNat 0 := giveO_ne (s := ⟨t.ch, t.p0, t.p1, t.h0 + d.a, t.h1 + d.b⟩) (j := 0) (k := 1) p0.1 p1.1 pn
          simp only [spO]
          have r0 : (⟨t.ch, t.p0, t.p1, t.h0 + d.a, t.h1 + d.b⟩ : Seat).p 0 = t.p 0 := rfl
          have r1 : (⟨t.ch, t.p0, t.p1, t.h0 + d.a, t.h1 + d.b⟩ : Seat).p 1 = t.p 1 := rfl
          refine giveO_nn (giveO_nn h.own ?_) ?_
          · rw [r0]; omega
          · rw [r1, q]; omega
        · intro x hx
          simp only [spO_len]
          rcases mem_upd hx with ⟨k1, k2⟩ | ⟨k1, k2⟩
          · rw [k1, k2]; exact ⟨e1, e2, hok⟩
          · exact h.seats x k1
theorem sum_range_at : ∀ (n : Nat) (p v : Int), 0 <= p -> p < n -> ((List.range n).map fun i : Nat => if (p = (i : Int)) then v else 0).sum = v
  | 0, p, v, h0, h1 => by omega
  | n + 1, p, v, h0, h1 => by
    rw [List.range_succ, List.map_append, List.sum_append]
    by_cases e : p = (n : Int)
    · have hz : ∀ m : Nat, m <= n -> ((List.range m).map fun i : Nat => if (p = (i : Int)) then v else 0).sum = 0 := by
        intro m
        induction m with
        | zero => intro _; rfl
        | succ m ih =>
          intro hm
          rw [List.range_succ, List.map_append, List.sum_append, ih (by omega)]
          simp only [List.map_cons, List.map_nil, List.sum_cons, List.sum_nil]
          rw [if_neg (by omega)]
          rfl
      rw [hz n (Nat.le_refl _)]
      simp [e]
    · rw [sum_range_at n p v h0 (by omega)]
      simp [e]
theorem sum_range_add (n : Nat) (f g : Nat -> Int) : ((List.range n).map fun i => f i + g i).sum = ((List.range n).map f).sum + ((List.range n).map g).sum := by
  induction n with
  | zero => rfl
  | succ n ih => simp only [List.range_succ, List.map_append, List.sum_append, ih, List.map_cons, List.map_nil, List.sum_cons, List.sum_nil]; omega
theorem sum_range_own : ∀ (own : List Int), ((List.range own.length).map fun i : Nat => ownL own (i : Int)).sum = own.sum := by
  intro own
  have h : ∀ k, k <= own.length -> ((List.range k).map fun i : Nat => ownL own (i : Int)).sum = (own.take k).sum := by
    intro k
    induction k with
    | zero => intro _; rfl
    | succ k ih =>
      intro hk
      rw [List.range_succ, List.map_append, List.sum_append, ih (by omega), sum_take_next (by omega)]
      simp only [List.map_cons, List.map_nil, List.sum_cons, List.sum_nil, ownL]
      rw [if_pos (by omega)]
      simp
  have := h own.length (Nat.le_refl _)
  rwa [List.take_length] at this
theorem sum_range_F {κ β : Type} (n : Nat) (f : Nat -> κ -> β -> Int) : ∀ l : List (Nat × κ × β), ((List.range n).map fun i => sumF (f i) l).sum = sumF (fun k v => ((List.range n).map fun i => f i k v).sum) l
  | [] => by
    have : ∀ n : Nat, ((List.range n).map fun i => sumF (f i) []).sum = 0 := by
      intro n
      induction n with
      | zero => rfl
      | succ n ih => rw [List.range_succ, List.map_append, List.sum_append, ih]; simp [sumF]
    rw [this]; rfl
  | x :: l => by
    have := sum_range_F n f l
    simp only [sumF_cons]
    rw [sum_range_add, this]
theorem sumF_congr {κ β : Type} {f g : κ -> β -> Int} : ∀ {l : List (Nat × κ × β)}, (∀ x ∈ l, f x.2.1 x.2.2 = g x.2.1 x.2.2) -> sumF f l = sumF g l
  | [], _ => rfl
  | x :: l, h => by rw [sumF_cons, sumF_cons, h x List.mem_cons_self, sumF_congr fun y hy => h y (List.mem_cons_of_mem _ hy)]
theorem sumF_add {κ β : Type} (f g : κ -> β -> Int) : ∀ l : List (Nat × κ × β), sumF (fun k v => f k v + g k v) l = sumF f l + sumF g l
  | [] => rfl
  | x :: l => by rw [sumF_cons, sumF_cons, sumF_cons, sumF_add f g l]; omega
theorem sumF_swap {κ β μ ν : Type} (f : κ -> β -> μ -> ν -> Int) : ∀ (l : List (Nat × κ × β)) (m : List (Nat × μ × ν)), sumF (fun k v => sumF (f k v) m) l = sumF (fun c d => sumF (fun k v => f k v c d) l) m
  | [], m => by
    induction m with
    | nil => rfl
    | cons y m ih => rw [sumF_cons, <- ih]; rfl
  | x :: l, m => by
    rw [sumF_cons, sumF_swap f l m]
    rw [<- sumF_add]
    exact sumF_congr fun y _ => (sumF_cons (fun k v => f k v y.2.1 y.2.2) x l).symm
theorem sumF_key {ls : SM} (hn : (keysM ls).Nodup) (ch v : Int) (h : ∃ t, getG ch ls = some t) : sumF (fun k _ => if ch = k then v else 0) ls = v := by
  obtain ⟨t, ht⟩ := h
  have h1 := sumF_del (f := fun (k : Int) (_ : Seat) => if ch = k then v else 0) hn ht
  have h2 : sumF (fun (k : Int) (_ : Seat) => if ch = k then v else 0) (delM ch ls) = 0 := by
    have : sumF (fun (k : Int) (_ : Seat) => if ch = k then v else 0) (delM ch ls) = sumF (fun _ _ => 0) (delM ch ls) := sumF_congr fun x hx => if_neg fun e => (mem_del hx).2 e.symm
    rw [this]
    have : ∀ l : SM, sumF (fun (_ : Int) (_ : Seat) => (0 : Int)) l = 0 := by
      intro l
      induction l with
      | nil => rfl
      | cons x l ih => rw [sumF_cons, ih]; rfl
    exact this _
  rw [h2, if_pos rfl] at h1
  omega
theorem total_all (h : GoodL s) : totalL s.own s.ls s.lh s.own.length = s.own.sum + sumH s.ls + sumA s.lh := by
  unfold totalL worthL
  rw [sum_range_add, sum_range_own, sum_range_F]
  have e1 : sumF (fun k v => ((List.range s.own.length).map fun i : Nat => worthF s.lh (i : Int) k v).sum) s.ls = sumF (fun k v => (v.h0 + v.h1) + (heldL s.lh k 0 + heldL s.lh k 1)) s.ls := by
    refine sumF_congr fun x hx => ?_
    obtain ⟨_, _, p0, p1, _⟩ := h.seats x hx
    unfold worthF
    rw [sum_range_add, sum_range_at _ _ _ p0.1 p0.2, sum_range_at _ _ _ p1.1 p1.2]
    omega
  rw [e1, sumF_add]
  have e2 : sumF (fun (k : Int) (_ : Seat) => heldL s.lh k 0 + heldL s.lh k 1) s.ls = sumA s.lh := by
    have : sumF (fun (k : Int) (_ : Seat) => heldL s.lh k 0 + heldL s.lh k 1) s.ls = sumF (fun (k : Int) (_ : Seat) => sumF (fun a b => if a.ch = k then b.am else 0) s.lh) s.ls := by
      refine sumF_congr fun x hx => ?_
      unfold heldL
      rw [<- sumF_add]
      refine sumF_congr fun y hy => ?_
      have := (h.holds y hy).1
      unfold heldF
      have q : y.2.1.side = 0 \/ y.2.1.side = 1 := by omega
      rcases q with q | q <;> by_cases c : y.2.1.ch = x.2.1 <;> simp [q, c]
    rw [this, sumF_swap]
    unfold sumA
    exact sumF_congr fun y hy => sumF_key h.keys _ _ (h.holds y hy).2.2
  rw [e2]
  unfold sumH
  omega
theorem worth_ge (h : GoodL s) (p : Int) : ownL s.own p <= worthL s.own s.ls s.lh p /\ 0 <= ownL s.own p := by
  have h1 : 0 <= sumF (worthF s.lh p) s.ls := sumF_nonneg fun x hx => by
    obtain ⟨_, _, _, _, _, h3, h4⟩ := h.seats x hx
    have b0 := (h.heldB x.2.1 0).1
    have b1 := (h.heldB x.2.1 1).1
    unfold worthF
    split <;> split <;> omega
  have h2 : 0 <= ownL s.own p := by
    unfold ownL
    split
    · exact (h.ownB _).1
    · exact Int.le_refl _
  unfold worthL
  omega
theorem worth_le (h : GoodL s) (p : Int) : worthL s.own s.ls s.lh p <= 1125899906842624 := by
  have h1 : sumF (worthF s.lh p) s.ls <= sumH s.ls + sumA s.lh := by
    have e : sumF (fun (k : Int) (v : Seat) => (v.h0 + v.h1) + (heldL s.lh k 0 + heldL s.lh k 1)) s.ls = sumH s.ls + sumA s.lh := by
      have ht := total_all h
      unfold totalL worthL at ht
      rw [sum_range_add, sum_range_own, sum_range_F] at ht
      have e1 : sumF (fun k v => ((List.range s.own.length).map fun i : Nat => worthF s.lh (i : Int) k v).sum) s.ls = sumF (fun k v => (v.h0 + v.h1) + (heldL s.lh k 0 + heldL s.lh k 1)) s.ls := by
        refine sumF_congr fun x hx => ?_
        obtain ⟨_, _, p0, p1, _⟩ := h.seats x hx
        unfold worthF
        rw [sum_range_add, sum_range_at _ _ _ p0.1 p0.2, sum_range_at _ _ _ p1.1 p1.2]
        omega
      rw [e1] at ht
      omega
    rw [<- e]
    have hle : ∀ l : SM, (∀ x ∈ l, x ∈ s.ls) -> sumF (worthF s.lh p) l <= sumF (fun (k : Int) (v : Seat) => (v.h0 + v.h1) + (heldL s.lh k 0 + heldL s.lh k 1)) l := by
      intro l
      induction l with
      | nil => intro _; exact Int.le_refl _
      | cons x l ih =>
        intro hl
        have := ih fun y hy => hl y (List.mem_cons_of_mem _ hy)
        obtain ⟨_, _, _, _, _, h3, h4⟩ := h.seats x (hl x List.mem_cons_self)
        have b0 := (h.heldB x.2.1 0).1
        have b1 := (h.heldB x.2.1 1).1
        rw [sumF_cons, sumF_cons]
        have : worthF s.lh p x.2.1 x.2.2 <= (x.2.2.h0 + x.2.2.h1) + (heldL s.lh x.2.1 0 + heldL s.lh x.2.1 1) := by
          unfold worthF
          split <;> split <;> omega
        omega
    exact hle s.ls fun _ hx => hx
  have h2 : ownL s.own p <= s.own.sum := by
    unfold ownL
    split
    · exact le_sum h.own _
    · exact h.parts.1
  have h3 := h.tot
  have h4 := h.lost
  unfold Led.all at h3
  unfold worthL
  omega
theorem new_good {own : List Int} (h : newOk own) : GoodL ⟨own, [], 0, [], 0, 0⟩ /\ (⟨own, [], 0, [], 0, 0⟩ : Led).all = own.sum := by
  obtain ⟨h1, h2, h3⟩ := h
  have ha : (⟨own, [], 0, [], 0, 0⟩ : Led).all = own.sum := by simp [Led.all, sumH, sumA, sumF]
  exact ⟨⟨h1, h2, fun x hx => by simp at hx, by simp [keysM], fun x hx => by simp at hx, by simp [keysM], Int.le_refl _, by rw [ha]; exact h3⟩, ha⟩
end
end Go.Lsp

namespace Go.Lsp
set_option linter.unusedSectionVars false
open Go.Gsp Go.Num Go.Sx
abbrev BM := List (Nat × Int × Bool)
def Marks (lg : BM) (ks : List Int) : Prop := (∀ x, getG x lg = if x ∈ ks then some true else none) /\ lg.length <= ks.length /\ (lg.length = ks.length ↔ ks.Nodup)
theorem Marks.nil : Marks [] [] := ⟨fun x => by simp [getG_nil], Nat.le_refl _, by simp⟩
theorem nodup_snoc {ks : List Int} {k : Int} : (ks ++ [k]).Nodup ↔ ks.Nodup /\ k ∉ ks := by
  rw [List.nodup_append]
  constructor
  · rintro ⟨h1, _, h3⟩; exact ⟨h1, fun h => h3 k h k (by simp) rfl⟩
  · rintro ⟨h1, h2⟩
    refine ⟨h1, by simp, fun a ha b hb e => ?_⟩
    simp at hb
    subst hb
    subst e
    exact h2 ha
theorem Marks.new {lg : BM} {ks : List Int} {k : Int} {b : Nat} (h : Marks lg ks) (hn : getG k lg = none) : Marks (lg ++ [(b, k, true)]) (ks ++ [k]) := by
  obtain ⟨h1, h2, h3⟩ := h
  have hk : k ∉ ks := fun hh => by rw [h1 k, if_pos hh] at hn; cases hn
  refine ⟨fun x => ?_, by simp; omega, ?_⟩
  · rw [getG_push hn, h1 x]
    by_cases e : x = k
    · simp [e]
    · simp [e]
  · rw [nodup_snoc, <- h3]
    simp only [List.length_append, List.length_cons, List.length_nil]
    constructor
    · intro h; exact ⟨by omega, hk⟩
    · rintro ⟨h, _⟩; omega
theorem Marks.old {lg : BM} {ks : List Int} {k : Int} {v : Bool} (h : Marks lg ks) (hs : getG k lg = some v) : Marks (lg.map fun y => if y.2.1 = k then (y.1, k, true) else y) (ks ++ [k]) := by
  obtain ⟨h1, h2, h3⟩ := h
  have hk : k ∈ ks := by
    by_cases q : k ∈ ks
    · exact q
    · rw [h1 k, if_neg q] at hs; cases hs
  refine ⟨fun x => ?_, by simp; omega, ?_⟩
  · rw [getG_set ⟨v, hs⟩, h1 x]
    by_cases e : x = k
    · simp [e, hk]
    · simp [e]
  · rw [nodup_snoc]
    simp only [List.length_map, List.length_append, List.length_cons, List.length_nil]
    constructor
    · intro h; omega
    · rintro ⟨_, h⟩; exact absurd hk h
theorem Marks.val {lg : BM} {ks : List Int} {k : Int} {v : Bool} (h : Marks lg ks) (hs : getG k lg = some v) : v = true /\ k ∈ ks := by
  rw [h.1 k] at hs
  split at hs
  · injection hs with hs; exact ⟨hs.symm, by assumption⟩
  · cases hs
theorem Marks.not {lg : BM} {ks : List Int} {k : Int} (h : Marks lg ks) (hs : getG k lg = none) : k ∉ ks := fun q => by
  rw [h.1 k, if_pos q] at hs; cases hs
theorem take_next {α : Type} {l : List α} {z : α} {k : Nat} (h : k < l.length) : l.take (k + 1) = l.take k ++ [l.getD k z] := by
  rw [List.take_add_one]
  simp [List.getD, h]
theorem getD_mem {α : Type} {l : List α} {z : α} {k : Nat} (h : k < l.length) : l.getD k z ∈ l := by
  have : l.getD k z = l[k] := by simp [List.getD, h]
  rw [this]; exact List.getElem_mem h
def chans (ss : List Seat) : List Int := ss.map (·.ch)
theorem chans_next {ss : List Seat} {k : Nat} (h : k < ss.length) : chans (ss.take (k + 1)) = chans (ss.take k) ++ [(ss.getD k noSeat).ch] := by unfold chans; rw [take_next (z := noSeat) h]; simp
def SeatsOk (n : Nat) (ss : List Seat) : Prop := (chans ss).Nodup /\ ∀ s ∈ ss, mayL n s
instance SeatsOk_dec (n : Nat) (ss : List Seat) : Decidable (SeatsOk n ss) := by unfold SeatsOk; infer_instance
theorem seatsOk_next {n : Nat} {ss : List Seat} {k : Nat} (h : k < ss.length) : SeatsOk n (ss.take (k + 1)) ↔ SeatsOk n (ss.take k) /\ (ss.getD k noSeat).ch ∉ chans (ss.take k) /\ mayL n (ss.getD k noSeat) := by
  unfold SeatsOk
  rw [chans_next h, nodup_snoc, take_next (z := noSeat) h]
  constructor
  · rintro ⟨⟨h1, h2⟩, h3⟩
    exact ⟨⟨h1, fun s hs => h3 s (List.mem_append_left _ hs)⟩, h2, h3 _ (by simp)⟩
  · rintro ⟨⟨h1, h2⟩, h3, h4⟩
    refine ⟨⟨h1, h3⟩, fun s hs => ?_⟩
    rcases List.mem_append.1 hs with hs | hs
    · exact h2 s hs
    · simp only [List.mem_singleton] at hs; rw [hs]; exact h4
def cutOk (n : Nat) (old : List Int) (ss : List Seat) (fee : List Int) : Prop := (old.Nodup /\ ss.length <= 40 /\ fee.length = n) /\ SeatsOk n ss /\ ∀ x ∈ fee, coinL x = true
instance cutOk_dec (n : Nat) (old : List Int) (ss : List Seat) (fee : List Int) : Decidable (cutOk n old ss fee) := by unfold cutOk; infer_instance
def addS (l : List Int) (s : Seat) : Nat -> List Int
  | 0 => l
  | k + 1 => (addS l s k).set (s.p k).toNat ((addS l s k).getD (s.p k).toNat 0 + s.h k)
def subS (l : List Int) (s : Seat) : Nat -> List Int
  | 0 => l
  | k + 1 => (subS l s k).set (s.p k).toNat ((subS l s k).getD (s.p k).toNat 0 - s.h k)
theorem addS_len (l : List Int) (s : Seat) : ∀ k, (addS l s k).length = l.length
  | 0 => rfl
  | k + 1 => by rw [addS, List.length_set, addS_len l s k]
theorem subS_len (l : List Int) (s : Seat) : ∀ k, (subS l s k).length = l.length
  | 0 => rfl
  | k + 1 => by rw [subS, List.length_set, subS_len l s k]
theorem set_at (l : List Int) (i j : Nat) (v : Int) : (l.set i v).getD j 0 = if j = i /\ i < l.length then v else l.getD j 0 := by
  simp only [List.getD_eq_getElem?_getD, List.getElem?_set]
  by_cases h : i = j
  · subst h
    by_cases h2 : i < l.length
    · simp [h2]
    · simp [h2]
  · simp [h, Ne.symm h]
theorem addS_at {l : List Int} {s : Seat} {lo hi : Int} (h0 : 0 <= s.h0 /\ s.h0 <= 1125899906842624) (h1 : 0 <= s.h1 /\ s.h1 <= 1125899906842624) (h : ∀ i, lo <= l.getD i 0 /\ l.getD i 0 <= hi) : ∀ k, k <= 2 -> ∀ i, lo <= (addS l s k).getD i 0 /\ (addS l s k).getD i 0 <= hi + 1125899906842624 * k
  | 0, _, i => by have := h i; rw [addS]; omega
  | k + 1, hk, i => by
    have a := addS_at h0 h1 h k (by omega) i
    have b := addS_at h0 h1 h k (by omega) (s.p k).toNat
    have c : 0 <= s.h k /\ s.h k <= 1125899906842624 := by unfold Seat.h; split <;> assumption
    rw [addS, set_at]
    split <;> omega
theorem subS_at {l : List Int} {s : Seat} {lo hi : Int} (h0 : 0 <= s.h0 /\ s.h0 <= 1125899906842624) (h1 : 0 <= s.h1 /\ s.h1 <= 1125899906842624) (h : ∀ i, lo <= l.getD i 0 /\ l.getD i 0 <= hi) : ∀ k, k <= 2 -> ∀ i, lo - 1125899906842624 * k <= (subS l s k).getD i 0 /\ (subS l s k).getD i 0 <= hi
  | 0, _, i => by have := h i; rw [subS]; omega
  | k + 1, hk, i => by
    have a := subS_at h0 h1 h k (by omega) i
    have b := subS_at h0 h1 h k (by omega) (s.p k).toNat
    have c : 0 <= s.h k /\ s.h k <= 1125899906842624 := by unfold Seat.h; split <;> assumption
    rw [subS, set_at]
    split <;> omega
def seatAt' (ls : SM) (k : Int) : Seat := (getG k ls).getD noSeat
def goneO (n : Nat) (ls : SM) (old : List Int) : List Int := old.foldl (fun l ch => addS l (seatAt' ls ch) 2) (List.replicate n 0)
def comeO (l : List Int) (ss : List Seat) : List Int := ss.foldl (fun l s => subS l s 2) l
theorem goneO_len (n : Nat) (ls : SM) (old : List Int) : (goneO n ls old).length = n := by
  have : ∀ (old : List Int) (l : List Int), (old.foldl (fun l ch => addS l (seatAt' ls ch) 2) l).length = l.length := by
    intro old
    induction old with
    | nil => intro l; rfl
    | cons c old ih => intro l; rw [List.foldl_cons, ih, addS_len]
  unfold goneO
  rw [this, List.length_replicate]
theorem comeO_len (l : List Int) (ss : List Seat) : (comeO l ss).length = l.length := by
  induction ss generalizing l with
  | nil => rfl
  | cons s ss ih =>
    have e : comeO l (s :: ss) = comeO (subS l s 2) ss := rfl
    rw [e, ih, subS_len]
theorem goneO_next {n : Nat} {ls : SM} {old : List Int} {k : Nat} (h : k < old.length) : goneO n ls (old.take (k + 1)) = addS (goneO n ls (old.take k)) (seatAt' ls (old.getD k 0)) 2 := by
  unfold goneO; rw [take_next (z := 0) h, List.foldl_append]; rfl
theorem comeO_next {l : List Int} {ss : List Seat} {k : Nat} (h : k < ss.length) : comeO l (ss.take (k + 1)) = subS (comeO l (ss.take k)) (ss.getD k noSeat) 2 := by
  unfold comeO; rw [take_next (z := noSeat) h, List.foldl_append]; rfl
def delAll (ls : SM) (old : List Int) : SM := old.foldl (fun l ch => delM ch l) ls
theorem delAll_next {ls : SM} {old : List Int} {k : Nat} (h : k < old.length) : delAll ls (old.take (k + 1)) = delM (old.getD k 0) (delAll ls (old.take k)) := by
  unfold delAll; rw [take_next (z := 0) h, List.foldl_append]; rfl
def putS (st : SM × Nat) (s : Seat) : SM × Nat := match getG s.ch st.1 with
  | none => (st.1 ++ [(st.2, s.ch, s)], st.2 + 1)
  | some _ => (updM s.ch s st.1, st.2)
def putAll (st : SM × Nat) (ss : List Seat) : SM × Nat := ss.foldl putS st
theorem putAll_next {st : SM × Nat} {ss : List Seat} {k : Nat} (h : k < ss.length) : putAll st (ss.take (k + 1)) = putS (putAll st (ss.take k)) (ss.getD k noSeat) := by
  unfold putAll; rw [take_next (z := noSeat) h, List.foldl_append]; rfl
theorem putS_none {lm : SM} {cm : Nat} {s : Seat} (h : getG s.ch lm = none) : putS (lm, cm) s = (lm ++ [(cm, s.ch, s)], cm + 1) := by unfold putS; simp only [h]
theorem putS_some {lm : SM} {cm : Nat} {s v : Seat} (h : getG s.ch lm = some v) : putS (lm, cm) s = (updM s.ch s lm, cm) := by unfold putS; simp only [h]
def Gone1 (ls : SM) (ch : Int) : Prop := getG ch ls = none
instance Gone1_dec (ls : SM) (ch : Int) : Decidable (Gone1 ls ch) := by unfold Gone1; infer_instance
def Busy (lh : HM) (ch : Int) : Prop := ¬ heldL lh ch 0 + heldL lh ch 1 = 0
instance Busy_dec (lh : HM) (ch : Int) : Decidable (Busy lh ch) := by unfold Busy; infer_instance
def There (ls : SM) (old : List Int) (s : Seat) : Prop := ¬ getG s.ch ls = none /\ s.ch ∉ old
instance There_dec (ls : SM) (old : List Int) (s : Seat) : Decidable (There ls old s) := by unfold There; infer_instance
def leftC (n : Nat) (ls : SM) (old : List Int) (ss : List Seat) : List Int := comeO (goneO n ls old) ss
def cutC (n : Nat) (ls : SM) (lh : HM) (old : List Int) (ss : List Seat) (fee : List Int) : Int :=
  if ¬ cutOk n old ss fee then 1 else if ∃ ch ∈ old, Gone1 ls ch then 5 else if ∃ ch ∈ old, Busy lh ch then 14 else if ∃ s ∈ ss, There ls old s then 4 else if leftC n ls old ss ≠ fee then 8 else 0
def cutLs (ls : SM) (cs : Nat) (old : List Int) (ss : List Seat) : SM × Nat := putAll (delAll ls old, cs) ss
def cutL (s : Led) (old : List Int) (ss : List Seat) (fee : List Int) : Led × Int :=
  if cutC s.own.length s.ls s.lh old ss fee ≠ 0 then (s, cutC s.own.length s.ls s.lh old ss fee)
  else (⟨s.own, (cutLs s.ls s.cs old ss).1, (cutLs s.ls s.cs old ss).2, s.lh, s.ck, s.lost + fee.sum⟩, 0)
theorem cutC_0 {n : Nat} {ls : SM} {lh : HM} {old : List Int} {ss : List Seat} {fee : List Int} (h : cutC n ls lh old ss fee = 0) : cutOk n old ss fee /\ (∀ ch ∈ old, ∃ t, getG ch ls = some t) /\ (∀ ch ∈ old, heldL lh ch 0 + heldL lh ch 1 = 0) /\ (∀ s ∈ ss, getG s.ch ls = none \/ s.ch ∈ old) /\ leftC n ls old ss = fee := by
  unfold cutC at h
  split at h
  · cases h
  · rename_i c1
    split at h
    · cases h
    · rename_i c2
      split at h
      · cases h
      · rename_i c3
        split at h
        · cases h
        · rename_i c4
          split at h
          · cases h
          · rename_i c5
            refine ⟨Decidable.not_not.1 c1, fun ch hc => ?_, fun ch hc => ?_, fun s hs => ?_, Decidable.not_not.1 c5⟩
            · cases hg : getG ch ls with
              | none => exact absurd ⟨ch, hc, hg⟩ c2
              | some t => exact ⟨t, rfl⟩
            · exact Decidable.not_not.1 fun hh => c3 ⟨ch, hc, hh⟩
            · by_cases q1 : getG s.ch ls = none
              · exact .inl q1
              · by_cases q2 : s.ch ∈ old
                · exact .inr q2
                · exact absurd ⟨s, hs, q1, q2⟩ c4
theorem get_delAll {ls : SM} (x : Int) : ∀ old : List Int, getG x (delAll ls old) = if x ∈ old then none else getG x ls := by
  intro old
  induction old generalizing ls with
  | nil => simp [delAll]
  | cons c old ih =>
    have : delAll ls (c :: old) = delAll (delM c ls) old := rfl
    rw [this, ih, get_del]
    by_cases h1 : x ∈ old <;> by_cases h2 : x = c <;> simp [h1, h2]
theorem addS_sum {l : List Int} {s : Seat} (h0 : 0 <= s.p 0 /\ s.p 0 < l.length) (h1 : 0 <= s.p 1 /\ s.p 1 < l.length) : (addS l s 2).sum = l.sum + s.h0 + s.h1 := by
  have e0 : s.h 0 = s.h0 := rfl
  have e1 : s.h 1 = s.h1 := rfl
  simp only [addS]
  rw [sum_set _ _ _ (by rw [List.length_set]; omega), sum_set _ _ _ (by omega)]
  omega
theorem subS_sum {l : List Int} {s : Seat} (h0 : 0 <= s.p 0 /\ s.p 0 < l.length) (h1 : 0 <= s.p 1 /\ s.p 1 < l.length) : (subS l s 2).sum = l.sum - s.h0 - s.h1 := by
  have e0 : s.h 0 = s.h0 := rfl
  have e1 : s.h 1 = s.h1 := rfl
  simp only [subS]
  rw [sum_set _ _ _ (by rw [List.length_set]; omega), sum_set _ _ _ (by omega)]
  omega
theorem goneO_sum {n : Nat} {ls ls0 : SM} : ∀ (old : List Int) (l : List Int), l.length = n -> old.Nodup -> (keysM ls).Nodup -> (∀ ch ∈ old, getG ch ls = getG ch ls0) -> (∀ ch ∈ old, ∃ t, getG ch ls = some t /\ seatOk n t) ->
    (old.foldl (fun l ch => addS l (seatAt' ls0 ch) 2) l).length = n /\ (old.foldl (fun l ch => addS l (seatAt' ls0 ch) 2) l).sum + sumH (delAll ls old) = l.sum + sumH ls := by
  intro old
  induction old generalizing ls with
  | nil => intro l hl _ _ _ _; exact ⟨hl, rfl⟩
  | cons c old ih =>
    intro l hl hn hk he ht
    rw [List.nodup_cons] at hn
    obtain ⟨t, ht1, ht2⟩ := ht c List.mem_cons_self
    obtain ⟨p0, p1, _⟩ := seatOk_two ht2
    have hs : seatAt' ls0 c = t := by unfold seatAt'; rw [<- he c List.mem_cons_self, ht1]; rfl
    have hd := sumF_del (f := fun (_ : Int) (s : Seat) => s.h0 + s.h1) hk ht1
    have hne : ∀ x ∈ old, x ≠ c := fun x hx e => hn.1 (by rw [<- e]; exact hx)
    have := ih (ls := delM c ls) (addS l t 2) (by rw [addS_len, hl]) hn.2 (keys_del_nd hk) (fun x hx => by rw [get_del, if_neg (hne x hx)]; exact he x (List.mem_cons_of_mem _ hx)) (fun x hx => by rw [get_del, if_neg (hne x hx)]; exact ht x (List.mem_cons_of_mem _ hx))
    rw [List.foldl_cons, hs]
    refine ⟨this.1, ?_⟩
    have e1 : delAll ls (c :: old) = delAll (delM c ls) old := rfl
    rw [e1, this.2, addS_sum (by rw [hl]; exact p0) (by rw [hl]; exact p1)]
    unfold sumH
    omega
theorem putAll_new : ∀ (ss : List Seat) (st : SM × Nat), (chans ss).Nodup -> (∀ s ∈ ss, getG s.ch st.1 = none) -> (keysM st.1).Nodup ->
    (keysM (putAll st ss).1).Nodup /\ sumH (putAll st ss).1 = sumH st.1 + (ss.map fun s => s.h0 + s.h1).sum /\ (∀ x ∈ (putAll st ss).1, x ∈ st.1 \/ ∃ s ∈ ss, x.2.1 = s.ch /\ x.2.2 = s) /\ (∀ c, getG c (putAll st ss).1 = (match ss.find? (fun s => decide (s.ch = c)) with | some s => some s | none => getG c st.1)) := by
  intro ss
  induction ss with
  | nil => intro st _ _ hk; exact ⟨hk, by simp [putAll], fun x hx => .inl hx, fun c => rfl⟩
  | cons s ss ih =>
    intro st hn hg hk
    obtain ⟨ls, cs⟩ := st
    unfold chans at hn
    rw [List.map_cons, List.nodup_cons] at hn
    have g0 := hg s List.mem_cons_self
    simp only at g0 hk
    have e : putAll (ls, cs) (s :: ss) = putAll (ls ++ [(cs, s.ch, s)], cs + 1) ss := by
      show (s :: ss).foldl putS (ls, cs) = _
      rw [List.foldl_cons, putS_none g0]; rfl
    rw [e]
    have hne : ∀ t ∈ ss, t.ch ≠ s.ch := fun t ht e => hn.1 (by rw [<- e]; exact List.mem_map_of_mem ht)
    obtain ⟨i1, i2, i3, i4⟩ := ih (ls ++ [(cs, s.ch, s)], cs + 1) hn.2 (fun t ht => by simp only; rw [getG_push g0, if_neg (hne t ht)]; exact hg t (List.mem_cons_of_mem _ ht)) (keys_push_nd hk g0)
    refine ⟨i1, ?_, ?_, ?_⟩
    · rw [i2]
      unfold sumH
      simp only [sumF_app, sumF_one, List.map_cons, List.sum_cons]
      omega
    · intro x hx
      rcases i3 x hx with hx | ⟨t, ht, q⟩
      · rcases List.mem_append.1 hx with hx | hx
        · exact .inl hx
        · simp only [List.mem_singleton] at hx
          exact .inr ⟨s, List.mem_cons_self, by rw [hx], by rw [hx]⟩
      · exact .inr ⟨t, List.mem_cons_of_mem _ ht, q⟩
    · intro c
      rw [i4, List.find?_cons]
      by_cases hc : s.ch = c
      · subst hc
        have : ss.find? (fun t => decide (t.ch = s.ch)) = none := by
          rw [List.find?_eq_none]
          intro t ht
          have := hne t ht
          simpa using this
        simp only [decide_true]
        rw [this]
        simp only
        rw [getG_push g0, if_pos rfl]
      · simp only [hc, decide_false]
        cases ss.find? (fun s => decide (s.ch = c)) with
        | some t => rfl
        | none =>
          simp only
          rw [getG_push g0, if_neg (fun q => hc q.symm)]
theorem comeO_sum {n : Nat} : ∀ (ss : List Seat) (l : List Int), l.length = n -> (∀ s ∈ ss, mayL n s) -> (comeO l ss).length = n /\ (comeO l ss).sum = l.sum - (ss.map fun s => s.h0 + s.h1).sum := by
  intro ss
  induction ss with
  | nil => intro l hl _; exact ⟨hl, by simp [comeO]⟩
  | cons s ss ih =>
    intro l hl hm
    obtain ⟨m1, m2, _⟩ := hm s List.mem_cons_self
    have := ih (subS l s 2) (by rw [subS_len, hl]) fun t ht => hm t (List.mem_cons_of_mem _ ht)
    have e : comeO l (s :: ss) = comeO (subS l s 2) ss := rfl
    rw [e]
    refine ⟨this.1, ?_⟩
    have x0 : s.p 0 = s.p0 := rfl
    have x1 : s.p 1 = s.p1 := rfl
    rw [this.2, subS_sum (by rw [hl, x0]; omega) (by rw [hl, x1]; omega)]
    simp only [List.map_cons, List.sum_cons]
    omega
theorem mem_delAll {ls : SM} {x : Nat × Int × Seat} : ∀ {old : List Int}, x ∈ delAll ls old -> x ∈ ls /\ x.2.1 ∉ old := by
  intro old
  induction old generalizing ls with
  | nil => intro h; exact ⟨h, by simp⟩
  | cons c old ih =>
    intro h
    have e : delAll ls (c :: old) = delAll (delM c ls) old := rfl
    rw [e] at h
    obtain ⟨h1, h2⟩ := ih h
    obtain ⟨h3, h4⟩ := mem_del h1
    exact ⟨h3, by rw [List.mem_cons]; rintro (q | q); exact h4 q; exact h2 q⟩
theorem keys_delAll {ls : SM} : ∀ {old : List Int}, (keysM ls).Nodup -> (keysM (delAll ls old)).Nodup := by
  intro old
  induction old generalizing ls with
  | nil => exact id
  | cons c old ih =>
    intro h
    have e : delAll ls (c :: old) = delAll (delM c ls) old := rfl
    rw [e]
    exact ih (keys_del_nd h)
variable {s : Led}
theorem cut_good (h : GoodL s) (old : List Int) (ss : List Seat) (fee : List Int) : GoodL (cutL s old ss fee).1 /\ (cutL s old ss fee).1.all = s.all := by
  unfold cutL
  split
  · exact ⟨h, rfl⟩
  · rename_i c
    have c := Decidable.not_not.1 c
    obtain ⟨⟨⟨o1, o2, o3⟩, ⟨o4, o5⟩, o6⟩, t1, t2, t3, t4⟩ := cutC_0 c
    have hg := goneO_sum (n := s.own.length) (ls0 := s.ls) old (List.replicate s.own.length 0) (by simp) o1 h.keys (fun _ _ => rfl) (fun ch hc => by obtain ⟨t, ht⟩ := t1 ch hc; exact ⟨t, ht, (h.seat ht).2.2.1⟩)
    have hz : (List.replicate s.own.length (0 : Int)).sum = 0 := by
      have : ∀ n : Nat, (List.replicate n (0 : Int)).sum = 0 := fun n => by
        induction n with
        | zero => rfl
        | succ n ih => rw [List.replicate_succ, List.sum_cons, ih]; rfl
      exact this _
    have hc := comeO_sum (n := s.own.length) ss (goneO s.own.length s.ls old) hg.1 o5
    have hnone : ∀ x ∈ ss, getG x.ch (delAll s.ls old) = none := fun x hx => by
      rw [get_delAll]
      split
      · rfl
      · rcases t3 x hx with q | q
        · exact q
        · contradiction
    obtain ⟨p1, p2, p3, p4⟩ := putAll_new ss (delAll s.ls old, s.cs) o4 hnone (keys_delAll h.keys)
    have hfee : fee.sum = (goneO s.own.length s.ls old).sum - (ss.map fun s => s.h0 + s.h1).sum := by rw [<- hc.2]; exact congrArg List.sum t4.symm
    have hgs : (goneO s.own.length s.ls old).sum + sumH (delAll s.ls old) = sumH s.ls := by
      have := hg.2
      rw [hz] at this
      unfold goneO
      omega
    have ha : (⟨s.own, (cutLs s.ls s.cs old ss).1, (cutLs s.ls s.cs old ss).2, s.lh, s.ck, s.lost + fee.sum⟩ : Led).all = s.all := by
      unfold Led.all cutLs
      simp only
      rw [p2]
      simp only
      omega
    have hfn : 0 <= fee.sum := sum_nn fun x hx => by have := o6 x hx; simp [coinL] at this; omega
    refine ⟨⟨h.len, h.own, ?_, p1, ?_, h.hkeys, by have := h.lost; simp only; omega, by rw [ha]; exact h.tot⟩, ha⟩
    · intro x hx
      rcases p3 x hx with hx | ⟨t, ht, q1, q2⟩
      · exact h.seats x (mem_delAll hx).1
      · obtain ⟨m1, m2, m3, m4, m5⟩ := o5 t ht
        rw [q1, q2]
        exact ⟨rfl, ⟨m3, m4⟩, ⟨m1.1, m1.2.1⟩, ⟨m2.1, m2.2.1⟩, m5, m1.2.2, m2.2.2⟩
    · intro x hx
      obtain ⟨q1, q2, t, q3⟩ := h.holds x hx
      refine ⟨q1, q2, ?_⟩
      have hno : x.2.1.ch ∉ old := fun hh => free_none h (t2 _ hh) x hx rfl
      show ∃ t, getG x.2.1.ch (putAll (delAll s.ls old, s.cs) ss).1 = some t
      rw [p4]
      cases ss.find? (fun s => decide (s.ch = x.2.1.ch)) with
      | some u => exact ⟨u, rfl⟩
      | none => simp only; rw [get_delAll, if_neg hno]; exact ⟨t, q3⟩
section
variable {n : Nat} {ls : SM} {lh : HM} {old : List Int} {ss : List Seat} {fee : List Int} {bd b held : Bool} {B : Prop} {k : Nat}
theorem bad_keep (hk : k < ss.length) (h : bd = true ↔ ¬ (B /\ SeatsOk n (ss.take k))) (q : bd = true) : true = true ↔ ¬ (B /\ SeatsOk n (ss.take (k + 1))) :=
  ⟨fun _ hh => h.1 q ⟨hh.1, ((seatsOk_next hk).1 hh.2).1⟩, fun _ => rfl⟩
theorem bad_twice (hk : k < ss.length) (q : (ss.getD k noSeat).ch ∈ chans (ss.take k)) : true = true ↔ ¬ (B /\ SeatsOk n (ss.take (k + 1))) :=
  ⟨fun _ hh => ((seatsOk_next hk).1 hh.2).2.1 q, fun _ => rfl⟩
theorem bad_next (hk : k < ss.length) (h : bd = true ↔ ¬ (B /\ SeatsOk n (ss.take k))) (q : ¬ bd = true) (q2 : (ss.getD k noSeat).ch ∉ chans (ss.take k)) (hb : b = true ↔ mayL n (ss.getD k noSeat)) : (!b) = true ↔ ¬ (B /\ SeatsOk n (ss.take (k + 1))) := by
  have hq : B /\ SeatsOk n (ss.take k) := Classical.not_not.1 fun hh => q (h.2 hh)
  constructor
  · intro h1 h2
    have := hb.2 ((seatsOk_next hk).1 h2.2).2.2
    rw [this] at h1; cases h1
  · intro h1
    cases e : b
    · rfl
    · exact absurd ⟨hq.1, (seatsOk_next hk).2 ⟨hq.2, q2, hb.1 e⟩⟩ h1
theorem cut_ok (h : bd = true ↔ ¬ ((old.Nodup /\ ss.length <= 40 /\ fee.length = n) /\ SeatsOk n ss)) (q : ¬ bd = true) (hb : b = true ↔ ∃ x ∈ fee, coinL x = false) (q2 : ¬ b = true) : cutOk n old ss fee := by
  obtain ⟨h1, h2⟩ := Classical.not_not.1 fun hh => q (h.2 hh)
  refine ⟨h1, h2, fun x hx => ?_⟩
  cases e : coinL x
  · exact absurd (hb.2 ⟨x, hx, e⟩) q2
  · rfl
theorem cutC_1 (h : ¬ cutOk n old ss fee) : cutC n ls lh old ss fee = 1 := by unfold cutC; rw [if_pos h]
theorem cut_no1 (h : bd = true ↔ ¬ ((old.Nodup /\ ss.length <= 40 /\ fee.length = n) /\ SeatsOk n ss)) (q : bd = true) : cutC n ls lh old ss fee = 1 := cutC_1 fun hh => h.1 q ⟨hh.1, hh.2.1⟩
theorem cut_no2 (hb : b = true ↔ ∃ x ∈ fee, coinL x = false) (q2 : b = true) : cutC n ls lh old ss fee = 1 := cutC_1 fun hh => by
  obtain ⟨x, hx, e⟩ := hb.1 q2
  rw [hh.2.2 x hx] at e; cases e
theorem cutC_5 (h : cutOk n old ss fee) (hk : k < old.length) (h5 : getG (old.getD k 0) ls = none) : cutC n ls lh old ss fee = 5 := by
  unfold cutC
  rw [if_neg (not_not_intro h), if_pos ⟨_, getD_mem hk, h5⟩]
theorem all_there (h5 : ∀ i, i < k -> ∃ t, getG (old.getD i 0) ls = some t) (hk : old.length <= k) : ¬ ∃ ch ∈ old, Gone1 ls ch := by
  rintro ⟨ch, hc, hg⟩
  obtain ⟨i, hi, rfl⟩ := List.getElem_of_mem hc
  obtain ⟨t, ht⟩ := h5 i (by omega)
  have e : old.getD i 0 = old[i] := by simp [List.getD, hi]
  rw [e] at ht
  unfold Gone1 at hg
  rw [hg] at ht; cases ht
theorem held_keep (h : held = true ↔ ∃ i, i < k /\ Busy lh (old.getD i 0)) (q : held = true) : true = true ↔ ∃ i, i < k + 1 /\ Busy lh (old.getD i 0) :=
  ⟨fun _ => by obtain ⟨i, h1, h2⟩ := h.1 q; exact ⟨i, by omega, h2⟩, fun _ => rfl⟩
theorem held_next (h : held = true ↔ ∃ i, i < k /\ Busy lh (old.getD i 0)) (q : ¬ held = true) : (!(decide (heldL lh (old.getD k 0) 0 + heldL lh (old.getD k 0) 1 = 0))) = true ↔ ∃ i, i < k + 1 /\ Busy lh (old.getD i 0) := by
  rw [Bool.not_eq_true', decide_eq_false_iff_not]
  constructor
  · intro h1; exact ⟨k, by omega, h1⟩
  · rintro ⟨i, h1, h2⟩
    by_cases e : i = k
    · subst e; exact h2
    · exact absurd (h.2 ⟨i, by omega, h2⟩) q
theorem cutC_14 (h : cutOk n old ss fee) (h5 : ¬ ∃ ch ∈ old, Gone1 ls ch) (hk : k <= old.length) (hh : held = true ↔ ∃ i, i < k /\ Busy lh (old.getD i 0)) (q : held = true) : cutC n ls lh old ss fee = 14 := by
  obtain ⟨i, h1, h2⟩ := hh.1 q
  unfold cutC
  rw [if_neg (not_not_intro h), if_neg h5, if_pos ⟨_, getD_mem (by omega), h2⟩]
theorem not_busy (hk : old.length <= k) (hh : held = true ↔ ∃ i, i < k /\ Busy lh (old.getD i 0)) (q : ¬ held = true) : ¬ ∃ ch ∈ old, Busy lh ch := by
  rintro ⟨ch, hc, hg⟩
  obtain ⟨i, hi, rfl⟩ := List.getElem_of_mem hc
  refine q (hh.2 ⟨i, by omega, ?_⟩)
  have e : old.getD i 0 = old[i] := by simp [List.getD, hi]
  rw [e]; exact hg
theorem cutC_4 (h : cutOk n old ss fee) (h5 : ¬ ∃ ch ∈ old, Gone1 ls ch) (h14 : ¬ ∃ ch ∈ old, Busy lh ch) (hk : k < ss.length) (h4 : There ls old (ss.getD k noSeat)) : cutC n ls lh old ss fee = 4 := by
  unfold cutC
  rw [if_neg (not_not_intro h), if_neg h5, if_neg h14, if_pos ⟨_, getD_mem hk, h4⟩]
theorem not_there (h4 : ∀ i, i < k -> ¬ There ls old (ss.getD i noSeat)) (hk : ss.length <= k) : ¬ ∃ s ∈ ss, There ls old s := by
  rintro ⟨s, hc, hg⟩
  obtain ⟨i, hi, rfl⟩ := List.getElem_of_mem hc
  refine h4 i (by omega) ?_
  have e : ss.getD i noSeat = ss[i] := by simp [List.getD, hi]
  rw [e]; exact hg
theorem cutC_8 (h : cutOk n old ss fee) (h5 : ¬ ∃ ch ∈ old, Gone1 ls ch) (h14 : ¬ ∃ ch ∈ old, Busy lh ch) (h4 : ¬ ∃ s ∈ ss, There ls old s) (h8 : ¬ comeO (goneO n ls old) ss = fee) : cutC n ls lh old ss fee = 8 := by
  unfold cutC
  rw [if_neg (not_not_intro h), if_neg h5, if_neg h14, if_neg h4, if_pos (show leftC n ls old ss ≠ fee from h8)]
theorem cutC_ok (h : cutOk n old ss fee) (h5 : ¬ ∃ ch ∈ old, Gone1 ls ch) (h14 : ¬ ∃ ch ∈ old, Busy lh ch) (h4 : ¬ ∃ s ∈ ss, There ls old s) (h8 : comeO (goneO n ls old) ss = fee) : cutC n ls lh old ss fee = 0 := by
  unfold cutC
  rw [if_neg (not_not_intro h), if_neg h5, if_neg h14, if_neg h4, if_neg (not_not_intro (show leftC n ls old ss = fee from h8))]
theorem gone_at (hs : ∀ x ∈ ls, seatOk n x.2.2) : ∀ k, k <= old.length -> (∀ i, i < k -> ∃ t, getG (old.getD i 0) ls = some t) -> ∀ i, 0 <= (goneO n ls (old.take k)).getD i 0 /\ (goneO n ls (old.take k)).getD i 0 <= 2251799813685248 * k
  | 0, _, _, i => by
    have : (goneO n ls (old.take 0)) = List.replicate n 0 := rfl
    rw [this]
    simp only [List.getD_eq_getElem?_getD, List.getElem?_replicate]
    split <;> simp
  | k + 1, hk, ht, i => by
    have ih := gone_at hs k (by omega) fun i hi => ht i (by omega)
    obtain ⟨t, htt⟩ := ht k (by omega)
    obtain ⟨b, hb⟩ := getG_mem htt
    have so : seatOk n t := hs _ hb
    have e : seatAt' ls (old.getD k 0) = t := by unfold seatAt'; rw [htt]; rfl
    rw [goneO_next (by omega), e]
    have := addS_at so.2.2.2.1 so.2.2.2.2 ih 2 (Nat.le_refl _) i
    omega
theorem come_at {l : List Int} {H : Int} (hm : ∀ s ∈ ss, mayL n s) (hl : ∀ i, 0 <= l.getD i 0 /\ l.getD i 0 <= H) : ∀ k, k <= ss.length -> ∀ i, -(2251799813685248 * k) <= (comeO l (ss.take k)).getD i 0 /\ (comeO l (ss.take k)).getD i 0 <= H
  | 0, _, i => by
    have : comeO l (ss.take 0) = l := rfl
    rw [this]
    have := hl i
    omega
  | k + 1, hk, i => by
    have ih := come_at hm hl k (by omega)
    obtain ⟨m1, m2, _⟩ := hm _ (getD_mem (z := noSeat) (show k < ss.length by omega))
    rw [comeO_next (by omega)]
    have := subS_at m1.2.2 m2.2.2 ih 2 (Nat.le_refl _) i
    omega
theorem may_ok {t : Seat} (h : mayL n t) : seatOk n t := ⟨⟨h.1.1, h.1.2.1⟩, ⟨h.2.1.1, h.2.1.2.1⟩, h.2.2.2.2, h.1.2.2, h.2.1.2.2⟩
theorem coins_at (h : ∀ x ∈ fee, coinL x = true) : ∀ k, k <= fee.length -> 0 <= (fee.take k).sum /\ (fee.take k).sum <= 1125899906842624 * k
  | 0, _ => by simp
  | k + 1, hk => by
    have ih := coins_at h k (by omega)
    have c := h _ (getD_mem (z := 0) (show k < fee.length by omega))
    simp only [coinL, decide_eq_true_eq] at c
    rw [sum_take_next (by omega)]
    omega
theorem coin_at (h : ∀ x ∈ fee, coinL x = true) (hk : k < fee.length) : 0 <= fee.getD k 0 /\ fee.getD k 0 <= 1125899906842624 := by
  have c := h _ (getD_mem (z := 0) hk)
  simpa only [coinL, decide_eq_true_eq] using c
end
end Go.Lsp

namespace Go.Lsp
set_option linter.unusedSectionVars false
open Go.Gsp Go.Num Go.Sx
theorem nodup_few : ∀ (n : Nat) (l : List Int), l.Nodup -> (∀ x ∈ l, 0 <= x /\ x < n) -> l.length <= n
  | 0, l, hn, hb => by
    cases l with
    | nil => simp
    | cons x l => have := hb x List.mem_cons_self; omega
  | n + 1, l, hn, hb => by
    by_cases h : (n : Int) ∈ l
    · have := nodup_few n (l.erase (n : Int)) (hn.erase _) fun x hx => by
        have h1 := (hn.mem_erase_iff).1 hx
        have h2 := hb x h1.2
        have := h1.1
        omega
      rw [List.length_erase_of_mem h] at this
      omega
    · have := nodup_few n l hn fun x hx => by
        have h2 := hb x hx
        have : x ≠ (n : Int) := fun e => h (by rw [<- e]; exact hx)
        omega
      omega
def insI (x : Int) : List Int -> List Int
  | [] => [x]
  | y :: l => if x <= y then x :: y :: l else y :: insI x l
def srtI : List Int -> List Int
  | [] => []
  | x :: l => insI x (srtI l)
theorem insI_perm (x : Int) : ∀ l : List Int, (insI x l).Perm (x :: l)
  | [] => .refl _
  | y :: l => by
    unfold insI
    split
    · exact .refl _
    · exact ((insI_perm x l).cons y).trans (.swap x y l)
theorem srtI_perm : ∀ l : List Int, (srtI l).Perm l
  | [] => .refl _
  | x :: l => (insI_perm x _).trans ((srtI_perm l).cons x)
theorem insI_srt (x : Int) : ∀ l : List Int, l.Pairwise (· <= ·) -> (insI x l).Pairwise (· <= ·)
  | [], _ => by simp [insI]
  | y :: l, h => by
    have h2 := List.pairwise_cons.1 h
    unfold insI
    split
    · rename_i hxy
      refine List.pairwise_cons.2 ⟨fun z hz => ?_, h⟩
      rcases List.mem_cons.1 hz with rfl | hz
      · exact hxy
      · exact Int.le_trans hxy (h2.1 z hz)
    · rename_i hxy
      refine List.pairwise_cons.2 ⟨fun z hz => ?_, insI_srt x l h2.2⟩
      rcases List.mem_cons.1 ((insI_perm x l).mem_iff.1 hz) with rfl | hz
      · omega
      · exact h2.1 z hz
theorem srtI_srt : ∀ l : List Int, (srtI l).Pairwise (· <= ·)
  | [] => .nil
  | x :: l => insI_srt x _ (srtI_srt l)
theorem srt_uniq : ∀ {a b : List Int}, a.Perm b -> a.Pairwise (· <= ·) -> b.Pairwise (· <= ·) -> a = b
  | [], b, h, _, _ => (List.nil_perm.1 h).symm
  | x :: a, [], h, _, _ => by have := h.length_eq; simp at this
  | x :: a, y :: b, h, h1, h2 => by
    have p1 := List.pairwise_cons.1 h1
    have p2 := List.pairwise_cons.1 h2
    have e : x = y := by
      have m1 : x ∈ y :: b := h.mem_iff.1 List.mem_cons_self
      have m2 : y ∈ x :: a := h.mem_iff.2 List.mem_cons_self
      have q1 : y <= x := by
        rcases List.mem_cons.1 m1 with rfl | m1
        · exact Int.le_refl _
        · exact p2.1 x m1
      have q2 : x <= y := by
        rcases List.mem_cons.1 m2 with rfl | m2
        · exact Int.le_refl _
        · exact p1.1 y m2
      omega
    subst e
    rw [srt_uniq (List.perm_cons x |>.1 h) p1.2 p2.2]
def seatsL (ls : SM) : List Seat := (srtI (keysM ls)).map (seatAt' ls)
theorem seatsL_len (ls : SM) : (seatsL ls).length = ls.length := by
  unfold seatsL keysM
  rw [List.length_map, (srtI_perm _).length_eq, List.length_map]
section
variable {s : Led}
theorem GoodL.few (h : GoodL s) : s.ls.length <= 40 := by
  have := nodup_few 40 (keysM s.ls) h.keys fun x hx => by
    unfold keysM at hx
    obtain ⟨y, hy, rfl⟩ := List.mem_map.1 hx
    exact (h.seats y hy).2.1
  unfold keysM at this
  rwa [List.length_map] at this
end
end Go.Lsp

namespace Go.Shp
open Go.Gsp Go.Num Go.Lsp Go.Sx
def ltC (a b : Cnd) : Prop := a.fr < b.fr \/ (a.fr = b.fr /\ a.id < b.id)
instance ltC_dec (a b : Cnd) : Decidable (ltC a b) := by unfold ltC; infer_instance
def sumC (cs : List Cnd) : Int := (cs.map (·.am)).sum
def ofC (cs : List Cnd) (k : Int) : List Cnd := cs.filter fun c => decide (c.fr = k)
def isC (fr id : Int) (c : Cnd) : Bool := decide (c.fr = fr) && decide (c.id = id)
theorem isC_T {fr id : Int} {c : Cnd} : isC fr id c = true ↔ c.fr = fr /\ c.id = id := by simp [isC]
def findC (cs : List Cnd) (fr id : Int) : Option Cnd := cs.find? (isC fr id)
def delC (cs : List Cnd) (fr id : Int) : List Cnd := cs.filter fun c => !isC fr id c
structure Sta where
  no : Int
  h0 : Int
  h1 : Int
  cs : List Cnd
  rt : Int
def Sta.h (s : Sta) (i : Int) : Int := if i = 0 then s.h0 else s.h1
def Sta.setH (s : Sta) (i v : Int) : Sta := if i = 0 then { s with h0 := v } else { s with h1 := v }
def FineC (c : Cnd) : Prop := (0 <= c.fr /\ c.fr <= 1) /\ (1 <= c.id /\ c.id <= 1048576) /\ (1 <= c.am /\ c.am <= 1125899906842624) /\ (1 <= c.ex /\ c.ex <= 1048576) /\ right c.pt = true /\ c.pt ≠ 1
def costN (rt : Int) (k : Nat) : Int := rt * (68 + 8 * (k : Int)) + 660
theorem costN_le {rt : Int} (h : 0 <= rt) {a b : Nat} (hab : a <= b) : costN rt a <= costN rt b := by
  unfold costN
  have : rt * (68 + 8 * (a : Int)) <= rt * (68 + 8 * (b : Int)) := Int.mul_le_mul_of_nonneg_left (by omega) h
  omega
structure RightS (amt op : Int) (s : Sta) : Prop where
  no_ : 0 <= s.no /\ s.no <= 1048576
  h0_ : 0 <= s.h0 /\ s.h0 <= 1125899906842624
  h1_ : 0 <= s.h1 /\ s.h1 <= 1125899906842624
  rt_ : 0 <= s.rt /\ s.rt <= 1000
  len : s.cs.length <= 16
  fine : ∀ c ∈ s.cs, FineC c
  ord : s.cs.Pairwise ltC
  tot : s.h0 + s.h1 + sumC s.cs = amt
  top : amt <= 1125899906842624
  pays : costN s.rt s.cs.length <= s.h op
variable {amt op : Int} {s : Sta} {c : Cnd} {fr id : Int} {cs : List Cnd}
theorem sumC_app (a b : List Cnd) : sumC (a ++ b) = sumC a + sumC b := by simp [sumC]
theorem sumC_cons (c : Cnd) (l : List Cnd) : sumC (c :: l) = c.am + sumC l := by simp [sumC]
theorem sumC_nn {l : List Cnd} (h : ∀ c ∈ l, 1 <= c.am) : 0 <= sumC l := by
  induction l with
  | nil => exact Int.le_refl _
  | cons x l ih => have := ih (fun c hc => h c (List.mem_cons_of_mem _ hc)); have := h x (List.mem_cons_self ..); rw [sumC_cons]; omega
theorem of_le {l : List Cnd} (h : ∀ c ∈ l, 1 <= c.am) (k : Int) : 0 <= sumC (ofC l k) /\ sumC (ofC l k) <= sumC l := by
  induction l with
  | nil => exact ⟨Int.le_refl _, Int.le_refl _⟩
  | cons x l ih =>
    obtain ⟨i1, i2⟩ := ih fun c hc => h c (List.mem_cons_of_mem _ hc)
    have := h x (List.mem_cons_self ..)
    unfold ofC at *
    rw [List.filter_cons]
    split
    · rw [sumC_cons, sumC_cons]; omega
    · rw [sumC_cons]; omega
theorem RightS.am1 (h : RightS amt op s) : ∀ c ∈ s.cs, 1 <= c.am := fun c hc => (h.fine c hc).2.2.1.1
theorem ord_one : ∀ {l : List Cnd}, l.Pairwise ltC -> ∀ a ∈ l, ∀ b ∈ l, a.fr = b.fr -> a.id = b.id -> a = b
  | [], _, a, ha, _, _, _, _ => by cases ha
  | x :: l, h, a, ha, b, hb, e1, e2 => by
    rw [List.pairwise_cons] at h
    rcases List.mem_cons.1 ha with q1 | q1
    · rcases List.mem_cons.1 hb with q2 | q2
      · rw [q1, q2]
      · have := h.1 b q2; rw [<- q1] at this; unfold ltC at this; omega
    · rcases List.mem_cons.1 hb with q2 | q2
      · have := h.1 a q1; rw [<- q2] at this; unfold ltC at this; omega
      · exact ord_one h.2 a q1 b q2 e1 e2
theorem find_some {l : List Cnd} (h : l.Pairwise ltC) (hc : c ∈ l) : findC l c.fr c.id = some c := by
  unfold findC
  cases hf : l.find? (isC c.fr c.id) with
  | none => exact absurd (isC_T.2 ⟨rfl, rfl⟩) (List.find?_eq_none.1 hf c hc)
  | some d =>
    have h1 := isC_T.1 (List.find?_some hf)
    rw [ord_one h d (List.mem_of_find?_eq_some hf) c hc h1.1 h1.2]
theorem find_mem {l : List Cnd} (h : findC l fr id = some c) : c ∈ l /\ c.fr = fr /\ c.id = id := ⟨List.mem_of_find?_eq_some h, isC_T.1 (List.find?_some h)⟩
theorem find_no {l : List Cnd} : findC l fr id = none ↔ ∀ c ∈ l, ¬ (c.fr = fr /\ c.id = id) := by
  unfold findC
  rw [List.find?_eq_none]
  exact ⟨fun h c hc e => h c hc (isC_T.2 e), fun h c hc e => h c hc (isC_T.1 e)⟩
theorem del_split {l : List Cnd} (h : l.Pairwise ltC) (hc : c ∈ l) : ∃ a b, l = a ++ c :: b /\ delC l c.fr c.id = a ++ b := by
  obtain ⟨a, b, rfl⟩ := List.append_of_mem hc
  refine ⟨a, b, rfl, ?_⟩
  have hne : ∀ d ∈ a ++ b, isC c.fr c.id d = false := fun d hd => by
    rw [Bool.eq_false_iff]
    intro he
    obtain ⟨e1, e2⟩ := isC_T.1 he
    rw [List.pairwise_append, List.pairwise_cons] at h
    rcases List.mem_append.1 hd with hd | hd
    · have := h.2.2 d hd c (List.mem_cons_self ..); unfold ltC at this; omega
    · have := h.2.1.1 d hd; unfold ltC at this; omega
  have hs : isC c.fr c.id c = true := isC_T.2 ⟨rfl, rfl⟩
  unfold delC
  rw [List.filter_append, List.filter_cons, hs, if_neg (by simp), List.filter_eq_self.2 fun d hd => by rw [hne d (List.mem_append_left _ hd)]; rfl, List.filter_eq_self.2 fun d hd => by rw [hne d (List.mem_append_right _ hd)]; rfl]
def endS (s : Sta) (c : Cnd) (to : Int) : Sta := { s with cs := delC s.cs c.fr c.id }.setH to (s.h to + c.am)
theorem setH_eq (s : Sta) (i v : Int) : (s.setH i v).no = s.no /\ (s.setH i v).cs = s.cs /\ (s.setH i v).rt = s.rt := by unfold Sta.setH; split <;> exact ⟨rfl, rfl, rfl⟩
theorem setH_h {i : Int} (s : Sta) (v : Int) (hi : 0 <= i /\ i <= 1) : (s.setH i v).h0 + (s.setH i v).h1 = s.h0 + s.h1 - s.h i + v /\ ∀ j, 0 <= j /\ j <= 1 -> (s.setH i v).h j = if j = i then v else s.h j := by
  have : i = 0 \/ i = 1 := by omega
  rcases this with rfl | rfl
  · refine ⟨by show v + s.h1 = s.h0 + s.h1 - s.h0 + v; omega, fun j hj => ?_⟩
    by_cases e : j = 0
    · simp [Sta.setH, Sta.h, e]
    · simp [Sta.setH, Sta.h, e]
  · refine ⟨by show s.h0 + v = s.h0 + s.h1 - s.h1 + v; omega, fun j hj => ?_⟩
    by_cases e : j = 0
    · simp [Sta.setH, Sta.h, e]
    · have : j = 1 := by omega
      simp [Sta.setH, Sta.h, this]
theorem RightS.hB (h : RightS amt op s) (i : Int) : 0 <= s.h i /\ s.h i <= 1125899906842624 := by unfold Sta.h; split; exact h.h0_; exact h.h1_
theorem end_right (h : RightS amt op s) (hop : 0 <= op /\ op <= 1) (hc : c ∈ s.cs) {to : Int} (ht : 0 <= to /\ to <= 1) : RightS amt op (endS s c to) := by
  obtain ⟨a, b, e1, e2⟩ := del_split h.ord hc
  have hs := h.tot
  have hf := h.fine c hc
  have hfa := hf.2.2.1
  have h1 := h.am1
  obtain ⟨k1, k2, k3⟩ := setH_eq { s with cs := delC s.cs c.fr c.id } to (s.h to + c.am)
  obtain ⟨k4, k5⟩ := setH_h { s with cs := delC s.cs c.fr c.id } (s.h to + c.am) ht
  have k0 : ∀ i, ({ s with cs := delC s.cs c.fr c.id } : Sta).h i = s.h i := fun i => rfl
  rw [k0] at k4
  dsimp only at k4
  have hsum : sumC (delC s.cs c.fr c.id) = sumC s.cs - c.am := by rw [e2, e1, sumC_app, sumC_app, sumC_cons]; omega
  have hn0 : 0 <= sumC (delC s.cs c.fr c.id) := sumC_nn fun d hd => h1 d (List.mem_filter.1 hd).1
  have hlen : (delC s.cs c.fr c.id).length <= s.cs.length := List.length_filter_le _ _
  have hb0 := h.h0_
  have hb1 := h.h1_
  have htop := h.top
  have f0 : s.h 0 = s.h0 := rfl
  have f1 : s.h 1 = s.h1 := rfl
  have hj : ∀ j, 0 <= j /\ j <= 1 -> s.h j <= (endS s c to).h j /\ 0 <= (endS s c to).h j := fun j hj => by
    have := k5 j hj
    have hB := h.hB j
    unfold endS
    rw [this]
    split
    · rename_i e; subst e; omega
    · exact ⟨by rw [k0]; exact Int.le_refl _, by rw [k0]; exact hB.1⟩
  have j0 := hj 0 ⟨Int.le_refl _, by omega⟩
  have j1 := hj 1 ⟨by omega, Int.le_refl _⟩
  have e0 : (endS s c to).h 0 = (endS s c to).h0 := rfl
  have e1' : (endS s c to).h 1 = (endS s c to).h1 := rfl
  have k4' : (endS s c to).h0 + (endS s c to).h1 = s.h0 + s.h1 + c.am := by unfold endS; omega
  refine ⟨by unfold endS; rw [k1]; exact h.no_, by omega, by omega, by unfold endS; rw [k3]; exact h.rt_, by unfold endS; rw [k2]; exact Nat.le_trans hlen h.len, fun d hd => ?_, ?_, ?_, h.top, ?_⟩
  · unfold endS at hd
    rw [k2] at hd
    exact h.fine d (List.mem_filter.1 hd).1
  · unfold endS
    rw [k2]
    exact h.ord.filter _
  · have : sumC (endS s c to).cs = sumC s.cs - c.am := by unfold endS; rw [k2]; exact hsum
    omega
  · have h2 : costN (endS s c to).rt (endS s c to).cs.length <= costN s.rt s.cs.length := by
      unfold endS
      rw [k2, k3]
      exact costN_le h.rt_.1 hlen
    exact Int.le_trans h2 (Int.le_trans h.pays (hj op hop).1)
structure PutAt (cs : List Cnd) (c : Cnd) (k : Nat) : Prop where
  le : k <= cs.length
  lo : ∀ j, j < k -> ltC (cs.getD j noCnd) c
  hi : ∀ j, k <= j -> j < cs.length -> ¬ ltC (cs.getD j noCnd) c
def putC (cs : List Cnd) (c : Cnd) (k : Nat) : List Cnd := cs.take k ++ c :: cs.drop k
def addS (s : Sta) (c : Cnd) (k : Nat) : Sta := { s with cs := putC s.cs c k }.setH c.fr (s.h c.fr - c.am)
theorem putC_len {k : Nat} (h : k <= cs.length) : (putC cs c k).length = cs.length + 1 := by unfold putC; simp; omega
theorem putC_sum (k : Nat) : sumC (putC cs c k) = sumC cs + c.am := by
  have : sumC cs = sumC (cs.take k) + sumC (cs.drop k) := by rw [<- sumC_app, List.take_append_drop]
  unfold putC
  rw [sumC_app, sumC_cons]
  omega
theorem putC_mem {k : Nat} {d : Cnd} : d ∈ putC cs c k ↔ d = c \/ d ∈ cs := by
  unfold putC
  rw [List.mem_append, List.mem_cons]
  constructor
  · rintro (h | rfl | h)
    · exact .inr (List.mem_of_mem_take h)
    · exact .inl rfl
    · exact .inr (List.mem_of_mem_drop h)
  · rintro (rfl | h)
    · exact .inr (.inl rfl)
    · rw [<- List.take_append_drop k cs, List.mem_append] at h
      rcases h with h | h
      · exact .inl h
      · exact .inr (.inr h)
theorem getD_memC {l : List Cnd} {i : Nat} (h : i < l.length) : l.getD i noCnd ∈ l := by
  have : l.getD i noCnd = l[i] := by simp [List.getD, h]
  rw [this]; exact List.getElem_mem h
theorem putC_ord {k : Nat} (h : cs.Pairwise ltC) (hp : PutAt cs c k) (hn : findC cs c.fr c.id = none) : (putC cs c k).Pairwise ltC := by
  have hno := find_no.1 hn
  have hlo : ∀ d ∈ cs.take k, ltC d c := fun d hd => by
    obtain ⟨i, hi, rfl⟩ := List.mem_iff_getElem.1 hd
    have h1 : i < k /\ i < cs.length := by rw [List.length_take] at hi; omega
    have := hp.lo i h1.1
    rw [show cs.getD i noCnd = cs[i] by simp [List.getD, h1.2]] at this
    rw [List.getElem_take]; exact this
  have hhi : ∀ d ∈ cs.drop k, ltC c d := fun d hd => by
    obtain ⟨i, hi, rfl⟩ := List.mem_iff_getElem.1 hd
    have h1 : k + i < cs.length := by rw [List.length_drop] at hi; omega
    have h2 := hp.hi (k + i) (by omega) h1
    have h3 := hno _ (getD_memC h1)
    rw [show cs.getD (k + i) noCnd = cs[k + i] by simp [List.getD, h1]] at h2 h3
    rw [List.getElem_drop]
    unfold ltC at *
    omega
  unfold putC
  rw [List.pairwise_append, List.pairwise_cons]
  refine ⟨h.sublist (List.take_sublist _ _), ⟨hhi, h.sublist (List.drop_sublist _ _)⟩, fun a ha b hb => ?_⟩
  rcases List.mem_cons.1 hb with rfl | hb
  · exact hlo a ha
  · have h1 := hlo a ha
    have h2 := hhi b hb
    unfold ltC at *
    omega
theorem putC_find {k : Nat} (h : cs.Pairwise ltC) (hp : PutAt cs c k) (hn : findC cs c.fr c.id = none) (fr id : Int) : findC (putC cs c k) fr id = if c.fr = fr /\ c.id = id then some c else findC cs fr id := by
  have ho := putC_ord h hp hn
  split
  · rename_i e
    rw [<- e.1, <- e.2]
    exact find_some ho (putC_mem.2 (.inl rfl))
  · rename_i e
    cases hf : findC cs fr id with
    | none => exact find_no.2 fun d hd => (putC_mem.1 hd).elim (fun q => by subst q; exact e) fun q => find_no.1 hf d q
    | some d =>
      obtain ⟨h1, h2, h3⟩ := find_mem hf
      rw [<- h2, <- h3]
      exact find_some ho (putC_mem.2 (.inr h1))
theorem delC_find (h : cs.Pairwise ltC) (hc : c ∈ cs) (fr id : Int) : findC (delC cs c.fr c.id) fr id = if c.fr = fr /\ c.id = id then none else findC cs fr id := by
  have ho : (delC cs c.fr c.id).Pairwise ltC := h.filter _
  split
  · rename_i e
    refine find_no.2 fun d hd q => ?_
    have := (List.mem_filter.1 hd).2
    rw [isC_T.2 ⟨by rw [q.1, e.1], by rw [q.2, e.2]⟩] at this
    cases this
  · rename_i e
    cases hf : findC cs fr id with
    | none => exact find_no.2 fun d hd => find_no.1 hf d (List.mem_filter.1 hd).1
    | some d =>
      obtain ⟨h1, h2, h3⟩ := find_mem hf
      rw [<- h2, <- h3]
      refine find_some ho (List.mem_filter.2 ⟨h1, ?_⟩)
      cases hb : isC c.fr c.id d
      · rfl
      · exact absurd ⟨by rw [<- h2]; exact (isC_T.1 hb).1.symm, by rw [<- h3]; exact (isC_T.1 hb).2.symm⟩ e
theorem ofC_put (k : Nat) (q : Int) : sumC (ofC (putC cs c k) q) = sumC (ofC cs q) + if c.fr = q then c.am else 0 := by
  have h1 : ofC cs q = ofC (cs.take k) q ++ ofC (cs.drop k) q := by unfold ofC; rw [<- List.filter_append, List.take_append_drop]
  rw [h1]
  unfold putC ofC
  rw [List.filter_append, List.filter_cons, sumC_app, sumC_app]
  split
  · rename_i e; rw [if_pos (by simpa using e), sumC_cons]; omega
  · rename_i e; rw [if_neg (by simpa using e)]; omega
theorem ofC_del (h : cs.Pairwise ltC) (hc : c ∈ cs) (q : Int) : sumC (ofC (delC cs c.fr c.id) q) = sumC (ofC cs q) - if c.fr = q then c.am else 0 := by
  obtain ⟨a, b, e1, e2⟩ := del_split h hc
  rw [e2, e1]
  unfold ofC
  rw [List.filter_append, List.filter_append, List.filter_cons, sumC_app, sumC_app]
  split
  · rename_i e; rw [if_pos (by simpa using e), sumC_cons]; omega
  · rename_i e; rw [if_neg (by simpa using e)]; omega
theorem sumC_del (h : cs.Pairwise ltC) (hc : c ∈ cs) : sumC (delC cs c.fr c.id) = sumC cs - c.am := by
  obtain ⟨a, b, e1, e2⟩ := del_split h hc
  rw [e2, e1, sumC_app, sumC_app, sumC_cons]; omega
structure AddOk (op : Int) (s : Sta) (c : Cnd) : Prop where
  fine : FineC c
  new : findC s.cs c.fr c.id = none
  len : s.cs.length < 16
  fund : c.am <= s.h c.fr
  pays : costN s.rt (s.cs.length + 1) <= if op = c.fr then s.h op - c.am else s.h op
theorem add_right (h : RightS amt op s) (hop : 0 <= op /\ op <= 1) (ha : AddOk op s c) {k : Nat} (hp : PutAt s.cs c k) : RightS amt op (addS s c k) := by
  have hs := h.tot
  have hf := ha.fine
  have hfa := hf.2.2.1
  have hfu := ha.fund
  obtain ⟨k1, k2, k3⟩ := setH_eq { s with cs := putC s.cs c k } c.fr (s.h c.fr - c.am)
  obtain ⟨k4, k5⟩ := setH_h { s with cs := putC s.cs c k } (s.h c.fr - c.am) hf.1
  have k0 : ∀ i, ({ s with cs := putC s.cs c k } : Sta).h i = s.h i := fun i => rfl
  rw [k0] at k4
  dsimp only at k4
  have hsum : sumC (putC s.cs c k) = sumC s.cs + c.am := putC_sum k
  have hj : ∀ j, 0 <= j /\ j <= 1 -> (addS s c k).h j <= s.h j /\ 0 <= (addS s c k).h j /\ (addS s c k).h j = if j = c.fr then s.h c.fr - c.am else s.h j := fun j hj => by
    have := k5 j hj
    have hB := h.hB j
    have e : (addS s c k).h j = if j = c.fr then s.h c.fr - c.am else s.h j := by unfold addS; rw [this, k0]
    rw [e]
    refine ⟨?_, ?_, rfl⟩
    · split
      · rename_i e; subst e; omega
      · exact Int.le_refl _
    · split
      · omega
      · exact hB.1
  have j0 := hj 0 ⟨Int.le_refl _, by omega⟩
  have j1 := hj 1 ⟨by omega, Int.le_refl _⟩
  have e0 : (addS s c k).h 0 = (addS s c k).h0 := rfl
  have e1 : (addS s c k).h 1 = (addS s c k).h1 := rfl
  have f0 : s.h 0 = s.h0 := rfl
  have f1 : s.h 1 = s.h1 := rfl
  have b0 := h.h0_
  have b1 := h.h1_
  have k4' : (addS s c k).h0 + (addS s c k).h1 = s.h0 + s.h1 - c.am := by unfold addS; omega
  have kc : (addS s c k).cs = putC s.cs c k := by unfold addS; exact k2
  refine ⟨by unfold addS; rw [k1]; exact h.no_, by omega, by omega, by unfold addS; rw [k3]; exact h.rt_, by rw [kc, putC_len hp.le]; exact ha.len, fun d hd => ?_, by rw [kc]; exact putC_ord h.ord hp ha.new, by rw [kc, hsum]; omega, h.top, ?_⟩
  · rw [kc] at hd
    rcases putC_mem.1 hd with rfl | hd
    · exact hf
    · exact h.fine d hd
  · rw [kc, putC_len hp.le, (hj op hop).2.2]
    have h3 : (addS s c k).rt = s.rt := by unfold addS; exact k3
    rw [h3]
    have := ha.pays
    split
    · rename_i e; rw [if_pos e] at this; rw [<- e]; exact this
    · rename_i e; rw [if_neg e] at this; exact this
structure RelS (s : Sta) (L : Led) : Prop where
  own : L.own = [0, 0]
  ls : ∃ b, L.ls = [(b, 0, ⟨0, 0, 1, s.h0, s.h1⟩)]
  lost : L.lost = 0
  get : ∀ side id, getG (⟨0, side, id⟩ : Spot) L.lh = (findC s.cs side id).map (fun c => (⟨c.am, c.pt⟩ : Hold))
  held : ∀ k, heldL L.lh 0 k = sumC (ofC s.cs k)
  all : sumA L.lh = sumC s.cs
variable {L : Led}
theorem RelS.seat (h : RelS s L) : getG 0 L.ls = some ⟨0, 0, 1, s.h0, s.h1⟩ := by
  obtain ⟨b, e⟩ := h.ls
  rw [e, getG_cons, if_pos rfl]
theorem h_eq (s : Sta) {i : Int} (hi : 0 <= i /\ i <= 1) : (⟨0, 0, 1, s.h0, s.h1⟩ : Seat).h i.toNat = s.h i := by
  have : i = 0 \/ i = 1 := by omega
  rcases this with rfl | rfl <;> rfl
theorem setH_seat (s : Sta) {i : Int} (hi : 0 <= i /\ i <= 1) (v : Int) : (⟨0, 0, 1, s.h0, s.h1⟩ : Seat).setH i.toNat v = ⟨0, 0, 1, (s.setH i v).h0, (s.setH i v).h1⟩ := by
  have : i = 0 \/ i = 1 := by omega
  rcases this with rfl | rfl <;> rfl
theorem upd_one {b : Nat} {t u : Seat} : updM (0 : Int) u [(b, (0 : Int), t)] = [(b, 0, u)] := by simp [updM]
theorem new_rel {a b : Int} (no rt : Int) (h0 : 0 <= a /\ a <= 1125899906842624) (h1 : 0 <= b /\ b <= 1125899906842624) : (openL ⟨[a, b], [], 0, [], 0, 0⟩ ⟨0, 0, 1, a, b⟩ 0).2 = 0 /\ RelS ⟨no, a, b, [], rt⟩ (openL ⟨[a, b], [], 0, [], 0, 0⟩ ⟨0, 0, 1, a, b⟩ 0).1 := by
  have hm : mayL ([a, b] : List Int).length ⟨0, 0, 1, a, b⟩ /\ (0 : Int) <= 0 /\ (0 : Int) <= 1125899906842624 := by
    unfold mayL
    simp only [List.length_cons, List.length_nil]
    omega
  unfold openL
  rw [if_neg (fun h => h hm), if_neg (by simp [getG_nil]), if_neg (by simp)]
  refine ⟨rfl, ?_, ⟨0, rfl⟩, rfl, fun side id => by simp [getG_nil, findC], fun k => rfl, rfl⟩
  simp [giveO, Seat.p]
theorem RelS.offer (h : RelS s L) (hr : RightS amt op s) (hg : GoodL L) (ha : AddOk op s c) {k : Nat} (hp : PutAt s.cs c k) : (offerL L 0 c.fr c.id c.am c.pt).2 = 0 /\ RelS (addS s c k) (offerL L 0 c.fr c.id c.am c.pt).1 := by
  have hf := ha.fine
  have ho : offerOk c.fr c.id c.am c.pt := ⟨hf.1, hf.2.1.1, hf.2.2.1, hf.2.2.2.2.2, hf.2.2.2.2.1⟩
  have hn : getG (⟨0, c.fr, c.id⟩ : Spot) L.lh = none := by rw [h.get, ha.new]; rfl
  obtain ⟨b, els⟩ := h.ls
  unfold offerL
  rw [if_neg (fun q => q ho), h.seat]
  simp only
  rw [hn, if_neg (by simp), h_eq s hf.1, if_neg (by have := ha.fund; omega)]
  obtain ⟨k1, k2, k3⟩ := setH_eq { s with cs := putC s.cs c k } c.fr (s.h c.fr - c.am)
  have kc : (addS s c k).cs = putC s.cs c k := by unfold addS; exact k2
  refine ⟨rfl, h.own, ⟨b, ?_⟩, h.lost, fun side id => ?_, fun q => ?_, ?_⟩
  · rw [els, upd_one, setH_seat s hf.1]
    have e : ∀ i v, (({ s with cs := putC s.cs c k } : Sta).setH i v).h0 = (s.setH i v).h0 /\ (({ s with cs := putC s.cs c k } : Sta).setH i v).h1 = (s.setH i v).h1 := fun i v => by unfold Sta.setH; split <;> exact ⟨rfl, rfl⟩
    unfold addS
    rw [(e _ _).1, (e _ _).2]
  · rw [getG_push hn, kc, putC_find hr.ord hp ha.new, h.get]
    have : ((⟨0, side, id⟩ : Spot) = ⟨0, c.fr, c.id⟩) ↔ (c.fr = side /\ c.id = id) := by
      rw [Spot.mk.injEq]
      exact ⟨fun q => ⟨q.2.1.symm, q.2.2.symm⟩, fun q => ⟨rfl, q.1.symm, q.2.symm⟩⟩
    by_cases e : c.fr = side /\ c.id = id
    · rw [if_pos (this.2 e), if_pos e]; rfl
    · rw [if_neg (fun q => e (this.1 q)), if_neg e]
  · show sumF _ _ = _
    rw [sumF_app, sumF_one, kc, ofC_put]
    have := h.held q
    unfold heldL at this
    rw [this]
    unfold heldF
    simp
  · rw [sumA_app, kc, putC_sum, h.all]
theorem RelS.end_ (h : RelS s L) (hr : RightS amt op s) (hg : GoodL L) (hc : c ∈ s.cs) {to : Int} (ht : 0 <= to /\ to <= 1) : RelS (endS s c to) (endL L 0 c.fr c.id ⟨c.am, c.pt⟩ ⟨0, 0, 1, s.h0, s.h1⟩ to) := by
  have hf := find_some hr.ord hc
  have hx : getG (⟨0, c.fr, c.id⟩ : Spot) L.lh = some ⟨c.am, c.pt⟩ := by rw [h.get, hf]; rfl
  obtain ⟨b, els⟩ := h.ls
  obtain ⟨k1, k2, k3⟩ := setH_eq { s with cs := delC s.cs c.fr c.id } to (s.h to + c.am)
  have kc : (endS s c to).cs = delC s.cs c.fr c.id := by unfold endS; exact k2
  unfold endL
  refine ⟨h.own, ⟨b, ?_⟩, h.lost, fun side id => ?_, fun q => ?_, ?_⟩
  · simp only
    rw [els, upd_one, h_eq s ht, setH_seat s ht]
    have e : ∀ i v, (({ s with cs := delC s.cs c.fr c.id } : Sta).setH i v).h0 = (s.setH i v).h0 /\ (({ s with cs := delC s.cs c.fr c.id } : Sta).setH i v).h1 = (s.setH i v).h1 := fun i v => by unfold Sta.setH; split <;> exact ⟨rfl, rfl⟩
    unfold endS
    rw [(e _ _).1, (e _ _).2]
  · simp only
    rw [get_del, kc, delC_find hr.ord hc, h.get]
    have : ((⟨0, c.fr, c.id⟩ : Spot) = ⟨0, side, id⟩) ↔ (c.fr = side /\ c.id = id) := by rw [Spot.mk.injEq]; exact ⟨fun q => q.2, fun q => ⟨rfl, q⟩⟩
    by_cases e : c.fr = side /\ c.id = id
    · rw [if_pos e]
      first | rw [if_pos (this.2 e)]; rfl | (rw [if_pos (this.2 e).symm]; rfl)
    · rw [if_neg e]
      first | rw [if_neg (fun q => e (this.1 q))] | rw [if_neg (fun q => e (this.1 q.symm))]
  · show sumF _ _ = _
    have hk := sumF_del (f := heldF 0 q) hg.hkeys hx
    rw [hk, kc, ofC_del hr.ord hc]
    have := h.held q
    unfold heldL at this
    rw [this]
    unfold heldF
    simp
  · show sumF _ _ = _
    have hk := sumF_del (f := fun _ (h : Hold) => h.am) hg.hkeys hx
    rw [hk, kc, sumC_del hr.ord hc]
    have := h.all
    unfold sumA at this
    rw [this]
def setE (s : Sta) (fr id : Int) (sec : Nat) : Int := match findC s.cs fr id with
  | none => 5
  | some c => if base sec ≠ c.pt then 23 else 0
def failE (s : Sta) (fr id : Int) : Int := match findC s.cs fr id with
  | none => 5
  | some _ => 0
theorem RelS.settle (h : RelS s L) (hr : RightS amt op s) (hg : GoodL L) (hfr : 0 <= fr /\ fr <= 1) (sec : Nat) : (settleL L 0 fr id sec).2 = setE s fr id sec /\ (setE s fr id sec = 0 -> ∃ c, findC s.cs fr id = some c /\ RelS (endS s c (1 - fr)) (settleL L 0 fr id sec).1) /\ (setE s fr id sec ≠ 0 -> (settleL L 0 fr id sec).1 = L) := by
  unfold settleL setE
  rw [h.get]
  cases hf : findC s.cs fr id with
  | none => exact ⟨rfl, fun q => absurd (show (5 : Int) = 0 from q) (by decide), fun _ => rfl⟩
  | some c =>
    obtain ⟨h1, h2, h3⟩ := find_mem hf
    dsimp only [Option.map_some]
    by_cases e : base sec ≠ c.pt
    · rw [if_pos e, if_pos e]
      exact ⟨rfl, fun q => absurd (show (23 : Int) = 0 from q) (by decide), fun _ => rfl⟩
    · rw [if_neg e, if_neg e]
      refine ⟨rfl, fun _ => ⟨c, rfl, ?_⟩, fun q => absurd rfl q⟩
      have := h.end_ hr hg h1 (to := 1 - fr) (by omega)
      rw [h2, h3] at this
      rw [h.seat]
      exact this
theorem RelS.fail (h : RelS s L) (hr : RightS amt op s) (hg : GoodL L) (hfr : 0 <= fr /\ fr <= 1) : (failL L 0 fr id).2 = failE s fr id /\ (failE s fr id = 0 -> ∃ c, findC s.cs fr id = some c /\ RelS (endS s c fr) (failL L 0 fr id).1) /\ (failE s fr id ≠ 0 -> (failL L 0 fr id).1 = L) := by
  unfold failL failE
  rw [h.get]
  cases hf : findC s.cs fr id with
  | none => exact ⟨rfl, fun q => absurd (show (5 : Int) = 0 from q) (by decide), fun _ => rfl⟩
  | some c =>
    obtain ⟨h1, h2, h3⟩ := find_mem hf
    dsimp only [Option.map_some]
    refine ⟨rfl, fun _ => ⟨c, rfl, ?_⟩, fun q => absurd rfl q⟩
    have := h.end_ hr hg h1 (to := fr) hfr
    rw [h2, h3] at this
    rw [h.seat]
    exact this
theorem RelS.worth (h : RelS s L) {i : Int} (hi : 0 <= i /\ i <= 1) : worthL L.own L.ls L.lh i = s.h i + sumC (ofC s.cs i) := by
  obtain ⟨b, els⟩ := h.ls
  have : i = 0 \/ i = 1 := by omega
  unfold worthL
  rw [h.own, els, sumF_one]
  unfold worthF
  rw [h.held 0, h.held 1]
  rcases this with rfl | rfl
  · simp [ownL, Sta.h]
  · simp [ownL, Sta.h]
theorem RelS.total (h : RelS s L) : L.all - L.lost = s.h0 + s.h1 + sumC s.cs := by
  obtain ⟨b, els⟩ := h.ls
  unfold Led.all sumH
  rw [h.own, els, sumF_one, h.all]
  simp <;> omega
theorem RelS.seen (h : RelS s L) : seatAt' L.ls 0 = ⟨0, 0, 1, s.h0, s.h1⟩ /\ (getG 0 L.ls).isSome = true := by
  unfold seatAt'
  rw [h.seat]
  exact ⟨rfl, rfl⟩
end Go.Shp

