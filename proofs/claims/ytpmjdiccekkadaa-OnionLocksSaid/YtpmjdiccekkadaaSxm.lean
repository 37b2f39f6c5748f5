/- Maps from arrays of bytes to numbers in the symbolic executor. No program in sight. -/
import Derived.Test.YtpmjdiccekkadaaSxk
import Derived.Maps.RangeRun
namespace Go.Sx
open Go Go.RowKit
open Go.ChangeMaps (setBlock)
abbrev Ent := Nat × List (BitVec 8) × Int
def ent (x : Ent) : MapEntry := { key := .agg (x.2.1.map u8v).toArray, val := .int .i64 x.2.2, born := x.1 }
/-- A map's entries are right: keys of k bytes, none twice, stamps below the clock, none twice. -/
structure MWf (k : Nat) (l : List Ent) (clock : Nat) : Prop where
  len : ∀ x ∈ l, x.2.1.length = k
  keys : (l.map fun x => x.2.1).Nodup
  borns : (l.map fun x => x.1).Nodup
  old : ∀ x ∈ l, x.1 < clock
def Mp (w : World) (k g : Nat) (l : List Ent) (clock : Nat) : Prop := w.heap[g]? = some (.map (l.map ent).toArray clock) ∧ MWf k l clock
/-- Where a key lies, and what is there. -/
def find31 (key : List (BitVec 8)) : List Ent → Nat → Option (Nat × Int)
  | [], _ => none
  | x :: l, i => if key = x.2.1 then some (i, x.2.2) else find31 key l (i + 1)
theorem find31_none (key : List (BitVec 8)) : ∀ (l : List Ent) (i : Nat), find31 key l i = none ↔ ∀ x ∈ l, x.2.1 ≠ key
  | [], _ => by simp [find31]
  | x :: l, i => by
    simp only [find31, List.mem_cons, forall_eq_or_imp]
    split
    · rename_i h; simp [h]
    · rename_i h; rw [find31_none key l (i + 1)]; exact ⟨fun hh => ⟨fun he => h he.symm, hh⟩, fun hh => hh.2⟩
theorem find31_some (key : List (BitVec 8)) : ∀ (l : List Ent) (i j : Nat) (u : Int), find31 key l i = some (j, u) → ∃ x, i ≤ j ∧ l[j - i]? = some x ∧ x.2.1 = key ∧ x.2.2 = u
  | [], _, _, _, h => by simp [find31] at h
  | x :: l, i, j, u, h => by
    simp only [find31] at h
    split at h
    · rename_i hk
      injection h with h
      injection h with h1 h2
      subst h1 h2
      exact ⟨x, Nat.le_refl _, by simp, hk.symm, rfl⟩
    · obtain ⟨y, h1, h2, h3, h4⟩ := find31_some key l (i + 1) j u h
      exact ⟨y, by omega, by rw [show j - i = (j - (i + 1)) + 1 by omega]; simpa using h2, h3, h4⟩
theorem eraseIdx_filter {α β : Type} [DecidableEq β] (f : α → β) : ∀ (l : List α) (i : Nat) (x : α), (l.map f).Nodup → l[i]? = some x → l.eraseIdx i = l.filter fun y => decide (f y ≠ f x)
  | [], _, _, _, h => by simp at h
  | a :: l, 0, x, hn, h => by
    simp at h
    subst h
    simp only [List.map_cons, List.nodup_cons] at hn
    simp only [List.eraseIdx_cons_zero, ne_eq, List.filter_cons, not_true_eq_false, decide_false, Bool.false_eq_true, if_false]
    rw [eq_comm, List.filter_eq_self]
    intro y hy
    simp
    intro he
    exact hn.1 (by rw [← he]; exact List.mem_map_of_mem hy)
  | a :: l, i + 1, x, hn, h => by
    simp only [List.map_cons, List.nodup_cons] at hn
    have h' : l[i]? = some x := by simpa using h
    have ih := eraseIdx_filter f l i x hn.2 h'
    have hne : f a ≠ f x := fun he => hn.1 (by rw [he]; exact List.mem_map_of_mem (List.mem_of_getElem? h'))
    rw [List.eraseIdx_cons_succ, ih, List.filter_cons, if_pos (by simpa using hne)]
theorem MWf.filter {k : Nat} {l : List Ent} {clock : Nat} (h : MWf k l clock) (p : Ent → Bool) : MWf k (l.filter p) clock :=
  ⟨fun x hx => h.len x (List.mem_filter.1 hx).1, h.keys.sublist (List.Sublist.map _ List.filter_sublist), h.borns.sublist (List.Sublist.map _ List.filter_sublist), fun x hx => h.old x (List.mem_filter.1 hx).1⟩
theorem MWf.push {k : Nat} {l : List Ent} {clock : Nat} (h : MWf k l clock) (key : List (BitVec 8)) (u : Int) (hk : key.length = k) (hn : ∀ x ∈ l, x.2.1 ≠ key) : MWf k (l ++ [(clock, key, u)]) (clock + 1) := by
  refine ⟨?_, ?_, ?_, ?_⟩
  · intro x hx
    rcases List.mem_append.1 hx with hx | hx
    · exact h.len x hx
    · simp at hx; subst hx; exact hk
  · rw [List.map_append, List.nodup_append]
    refine ⟨h.keys, by simp, ?_⟩
    intro a ha b hb
    obtain ⟨x, hx, rfl⟩ := List.mem_map.1 ha
    simp at hb
    subst hb
    exact hn x hx
  · rw [List.map_append, List.nodup_append]
    refine ⟨h.borns, by simp, ?_⟩
    intro a ha b hb
    obtain ⟨x, hx, rfl⟩ := List.mem_map.1 ha
    simp at hb
    subst hb
    have := h.old x hx
    omega
  · intro x hx
    rcases List.mem_append.1 hx with hx | hx
    · have := h.old x hx; omega
    · simp at hx; subst hx; simp
section
variable {P : Program} {env : Env} {n : Nat} {d : Option Nat} {T : TypeId} {p : String} {af : Array Edge} {g : Option (Nat × Bool)} {w : World} {K : Value → World → Prop}
/-- The key type: an array of k bytes. -/
structure KeyT (P : Program) (kt k : Nat) : Prop where
  ex : ∃ e, P.underlying kt = some (.array k e) ∧ P.underlying e = some (.int .u8) ∧ Sz P e 1
theorem run_loop_unit (body : Nat → Sem Unit) : ∀ (l : List Nat) (w : World), (∀ i ∈ l, ∀ w, (body i).run P w = .ok () w) → (forIn (m := Sem) l PUnit.unit fun i _ => do body i; pure (ForInStep.yield PUnit.unit)).run P w = .ok PUnit.unit w
  | [], w, _ => by simp
  | i :: l, w, h => by
    have ih := run_loop_unit body l w (fun j hj => h j (by simp [hj]))
    simp only [List.forIn_cons, Sem.run_bind, h i (by simp) w, Result.andThen_ok, Sem.run_pure]
    exact ih
theorem KeyT.check {kt k : Nat} (h : KeyT P kt k) (b : Bool) (m : Nat) (key : List (BitVec 8)) (hk : key.length = k) (w : World) : (Instr.checkKey b (m + 2) kt (.agg (key.map u8v).toArray)).run P w = .ok () w := by
  obtain ⟨e, h1, h2, h3⟩ := h.ex
  have hb : ∀ i ∈ List.range k, ∀ w, ((do let x ← sizeOf e; let y ← part e (key.map u8v).toArray (i * x); Instr.checkKey b (m + 1) e y : Sem Unit)).run P w = .ok () w := fun i hi w => by
    have hi' : i < k := by simpa using hi
    have hp := run_part1 (P := P) (e := e) (xs := (key.map u8v).toArray) (o := i) (v := u8v (key.getD i 0)) ⟨_, h2, rfl⟩ (getbA key (by omega)) w
    simp [h3.run, hp, Instr.checkKey, run_underlying h2]
  have hl := run_loop_unit (P := P) _ (List.range k) w hb
  unfold Instr.checkKey
  simp only [Sem.run_bind, run_underlying h1, Result.andThen_ok, Std.Legacy.Range.forIn_eq_forIn_range']
  have e1 : List.range' ([:k] : Std.Legacy.Range).start ([:k] : Std.Legacy.Range).size ([:k] : Std.Legacy.Range).step = List.range k := by
    simp [Std.Legacy.Range.size, List.range_eq_range']
  rw [e1]
  have h' : (forIn (m := Sem) (List.range k) PUnit.unit fun i _ => do
      let x ← sizeOf e
      let y ← part e (key.map u8v).toArray (i * x)
      Instr.checkKey b (m + 1) e y
      pure (ForInStep.yield PUnit.unit)).run P w = .ok PUnit.unit w := by
    rw [← hl]
    congr 2
    funext i _
    simp only [bind_assoc]
  rw [h']
  simp
theorem KeyT.asking {kt k : Nat} (h : KeyT P kt k) (key : List (BitVec 8)) (hk : key.length = k) : ∀ (l : List Ent), (∀ x ∈ l, x.2.1.length = k) → ∀ (i : Nat) (w : World), (Instr.findAsking kt (.agg (key.map u8v).toArray) (l.map ent) i).run P w = .ok ((find31 key l i).map fun x => (x.1, .int .i64 x.2)) w
  | [], _, i, w => by simp [Instr.findAsking, find31]
  | x :: l, hl, i, w => by
    obtain ⟨e, h1, h2, h3⟩ := h.ex
    have hx := hl x (by simp)
    have he := Eqv.bytes (P := P) (d := 9998) key x.2.1 h1 h3 h2 hk hx w
    have ih := KeyT.asking h key hk l (fun y hy => hl y (by simp [hy])) (i + 1) w
    simp only [List.map_cons, Instr.findAsking, Sem.run_bind, Op.equal, Op.maxDepth, ent, he, Result.andThen_ok, find31]
    by_cases hkx : key = x.2.1
    · simp [hkx]
    · simp only [hkx, decide_false, Bool.false_eq_true, if_false]
      exact ih
theorem KeyT.find {kt k : Nat} (h : KeyT P kt k) (key : List (BitVec 8)) (hk : key.length = k) (l : List Ent) (hl : ∀ x ∈ l, x.2.1.length = k) (w : World) : (Instr.findKey kt (.agg (key.map u8v).toArray) (l.map ent)).run P w = .ok ((find31 key l 0).map fun x => (x.1, .int .i64 x.2)) w := by
  obtain ⟨e, h1, h2, h3⟩ := h.ex
  cases l with
  | nil => simp [Instr.findKey, run_underlying h1, Instr.findNow, find31]
  | cons x l =>
    have := KeyT.asking h key hk (x :: l) hl 0 w
    simp only [Instr.findKey, Sem.run_bind, run_underlying h1, Result.andThen_ok, List.map_cons, Instr.findNow, ent, Instr.sameNow]
    exact this
theorem Ch.putMap (w : World) (g : Nat) (o : Obj) : Ch w (setBlock w g o) (some g) := ⟨rfl, rfl, rfl, by simp [setBlock], fun k _ hk => by
  simp only [setBlock]
  rw [Array.getElem?_setIfInBounds_ne (fun he => hk (by rw [he]))]⟩
theorem setBlock_at {w : World} {g : Nat} {o o' : Obj} (h : w.heap[g]? = some o) : (setBlock w g o').heap[g]? = some o' := by
  have := (Array.getElem?_eq_some_iff.1 h).1
  simp [setBlock, this]
theorem Mp.ch {w w' : World} {k g : Nat} {l : List Ent} {clock : Nat} {r : Option Nat} (h : Mp w k g l clock) (hc : Ch w w' r) (hne : r ≠ some g) : Mp w' k g l clock :=
  ⟨(hc.block g (Array.getElem?_eq_some_iff.1 h.1).1 (Ne.symm hne)).trans h.1, h.2⟩
theorem Mp.le {w w' : World} {k g : Nat} {l : List Ent} {clock : Nat} (h : Mp w k g l clock) (hl : Le w w') : Mp w' k g l clock := h.ch (hl.ch none) (by simp)
theorem Mp.lt {w : World} {k g : Nat} {l : List Ent} {clock : Nat} (h : Mp w k g l clock) : g < w.heap.size := (Array.getElem?_eq_some_iff.1 h.1).1
theorem Ef.makeMap {t : TypeId} (k : Nat) (h : ∀ gb w', w.heap.size ≤ gb → Mp w' k gb [] 0 → Le w w' → K (.map (some gb)) w') : Ef P env n ⟨d, .makeMap t none, T, p, af, g⟩ w K :=
  .of_run (v := .map (some w.heap.size)) (w' := w.alloc (.map #[] 0)) (fun a ha => by simp [execOp, Instr.makeMap, newObj, Sem.run]) (h _ _ (Nat.le_refl _) ⟨heap_alloc_new w _, ⟨by simp, by simp, by simp, by simp⟩⟩ (Le.alloc w _))
theorem Rd.lookup {t kt et k gb clock : Nat} {x y : Operand} {l : List Ent} {key : List (BitVec 8)} (ht : P.underlying t = some (.map kt et)) (hk : KeyT P kt k) (he : Zr P et (.int .i64 0)) (hx : ev env x = some (.map (some gb))) (hy : ev env y = some (.agg (key.map u8v).toArray)) (hl : key.length = k) (hM : Mp w k gb l clock) :
    Rd P w env n ⟨d, .lookup t x y true, T, p, af, g⟩ (.tuple #[.int .i64 (((find31 key l 0).map (·.2)).getD 0), .bool (find31 key l 0).isSome]) := fun a ha w' hle => by
  have hM' := (hM.le hle).1
  have hf := hk.find key hl l hM.2.len w'
  have hc := hk.check (l.map ent).toArray.isEmpty 9998 key hl w'
  simp only [execOp, ha.eval hx, ha.eval hy, Instr.lookup, Sem.run_bind, run_underlying ht, getObj, Sem.run, hM', Result.andThen, Sem.run_pure]
  rw [hc]
  simp only []
  rw [hf]
  cases hfi : find31 key l 0 with
  | none => simp [he.run]
  | some q => simp
/-- A key that is new. -/
theorem Ef.insert {t kt et k gb clock : Nat} {x y z : Operand} {l : List Ent} {key : List (BitVec 8)} {u : Int} (ht : P.underlying t = some (.map kt et)) (hk : KeyT P kt k) (hx : ev env x = some (.map (some gb))) (hy : ev env y = some (.agg (key.map u8v).toArray)) (hz : ev env z = some (.int .i64 u)) (hl : key.length = k) (hM : Mp w k gb l clock)
    (hn : find31 key l 0 = none) (h : ∀ w', Mp w' k gb (l ++ [(clock, key, u)]) (clock + 1) → Ch w w' (some gb) → K undef w') : Ef P env n ⟨d, .mapUpdate t x y z, T, p, af, g⟩ w K := by
  have hf := hk.find key hl l hM.2.len w
  have hc := hk.check false 9998 key hl w
  rw [hn] at hf
  refine .of_runU (w' := setBlock w gb (.map ((l ++ [(clock, key, u)]).map ent).toArray (clock + 1))) (fun a ha => ?_) (h _ ⟨setBlock_at hM.1, hM.2.push key u hl ((find31_none key l 0).1 hn)⟩ (Ch.putMap _ _ _))
  have hset : ∀ o, (setObj gb o).run P w = .ok () (setBlock w gb o) := fun o => by
    simp [setObj, Sem.run, hM.1, setBlock]
  simp only [execOp, ha.eval hx, ha.eval hy, ha.eval hz, Instr.mapUpdate, Sem.run_bind, run_underlying ht, getObj, Sem.run, hM.1, Result.andThen, Sem.run_pure]
  rw [hc]
  simp only []
  rw [hf]
  simp [hset, ent]
theorem Ef.range {t kt et k gb clock : Nat} {x : Operand} {l : List Ent} (ht : P.underlying t = some (.map kt et)) (hx : ev env x = some (.map (some gb))) (hM : Mp w k gb l clock)
    (h : ∀ r w', w.heap.size ≤ r → w'.heap[r]? = some (.mapIter (some gb) clock #[] clock) → Le w w' → K (.pointer (some ⟨r, 0, none⟩)) w') : Ef P env n ⟨d, .range t x, T, p, af, g⟩ w K :=
  .of_run (v := .pointer (some ⟨w.heap.size, 0, none⟩)) (w' := w.alloc (.mapIter (some gb) clock #[] clock)) (fun a ha => by
    simp [execOp, ha.eval hx, Instr.range, run_underlying ht, getObj, Sem.run, hM.1, Result.andThen, newObj]) (h _ _ (Nat.le_refl _) (heap_alloc_new w _) (Le.alloc w _))
def unseen (l : List Ent) (seen : Array Nat) : List Ent := l.filter fun x => !seen.contains x.1
theorem leftOf_ent (l : List Ent) (seen : Array Nat) : (leftOf (l.map ent).toArray seen).toList = (unseen l seen).map ent := by
  unfold leftOf unseen
  simp only [Array.toList_filter, List.filter_map]
  rfl
theorem Ef.next {k gb clock r : Nat} {x : Operand} {l : List Ent} {seen : Array Nat} (hx : ev env x = some (.pointer (some ⟨r, 0, none⟩))) (hM : Mp w k gb l clock) (hr : w.heap[r]? = some (.mapIter (some gb) clock seen clock))
    (h0 : unseen l seen = [] → K (.tuple #[.bool false]) w)
    (h1 : ∀ e w', e ∈ unseen l seen → w'.heap[r]? = some (.mapIter (some gb) clock (seen.push e.1) clock) → Ch w w' (some r) → K (.tuple #[.bool true, .agg (e.2.1.map u8v).toArray, .int .i64 e.2.2]) w') : Ef P env n ⟨d, .next x false, T, p, af, g⟩ w K := by
  have hold : ∀ y ∈ (l.map ent).toArray.toList, y.born < clock := fun y hy => by
    simp only [List.mem_map] at hy
    obtain ⟨e, he, rfl⟩ := hy
    exact hM.2.old e he
  rcases run_next_at (P := P) w T r gb clock clock seen (l.map ent).toArray clock hr hM.1 hold (Nat.le_refl _) with ⟨hs, hrun⟩ | ⟨e, he, w1, hw1, hrun⟩
  · have hu : unseen l seen = [] := by
      have := leftOf_ent l seen
      have h2 : (leftOf (l.map ent).toArray seen).toList.length = 0 := by simpa using hs
      rw [this, List.length_map] at h2
      exact List.eq_nil_of_length_eq_zero h2
    exact .of_run (fun a ha => by simp [execOp, ha.eval hx, hrun]) (h0 hu)
  · rw [leftOf_ent] at he
    obtain ⟨e', he', rfl⟩ := List.mem_map.1 he
    refine .of_run (w' := setBlock w1 r (.mapIter (some gb) clock (seen.push e'.1) clock)) (fun a ha => by simp [execOp, ha.eval hx, hrun]; exact ⟨⟨rfl, rfl⟩, rfl⟩) (h1 e' _ he' (setBlock_at (o := .mapIter (some gb) clock seen clock) (by rcases hw1 with rfl | rfl <;> exact hr)) ?_)
    rcases hw1 with rfl | rfl
    · exact Ch.putMap _ _ _
    · exact ((Le.drew w).ch _).trans (Ch.putMap _ _ _)
theorem Ef.entry {k gb clock r : Nat} {x : Operand} {l : List Ent} {seen : Array Nat} {e : Ent} (hx : ev env x = some (.pointer (some ⟨r, 0, none⟩))) (hM : Mp w k gb l clock) (hr : w.heap[r]? = some (.mapIter (some gb) clock (seen.push e.1) clock)) (he : e ∈ l)
    (h : K (.tuple #[.agg (e.2.1.map u8v).toArray, .int .i64 e.2.2]) w) : Ef P env n ⟨d, .entry x, T, p, af, g⟩ w K := by
  have hrun := run_entry_at (P := P) w r gb clock seen (l.map ent).toArray clock (ent e) hr hM.1 (by simp only; exact List.mem_map_of_mem he) (by
    simp only [List.map_map]
    exact hM.2.borns)
  exact .of_run (fun a ha => by simp [execOp, ha.eval hx, hrun]; exact ⟨rfl, rfl⟩) h
theorem Ef.delete {t kt et k gb clock j : Nat} {x y : Operand} {l : List Ent} {key : List (BitVec 8)} {u : Int} (ht : P.underlying t = some (.map kt et)) (hk : KeyT P kt k) (hx : ev env x = some (.map (some gb))) (hy : ev env y = some (.agg (key.map u8v).toArray)) (hl : key.length = k) (hM : Mp w k gb l clock)
    (hf : find31 key l 0 = some (j, u)) (h : ∀ w', Mp w' k gb (l.filter fun y => decide (y.2.1 ≠ key)) clock → Ch w w' (some gb) → K (.tuple #[]) w') : Ef P env n ⟨d, .call ⟨.builtin .delete, #[x, y], #[t, kt]⟩, T, p, af, g⟩ w K := by
  have hfd := hk.find key hl l hM.2.len w
  have hc := hk.check (l.map ent).toArray.isEmpty 9998 key hl w
  rw [hf] at hfd
  obtain ⟨z, _, hz1, hz2, hz3⟩ := find31_some key l 0 j u hf
  rw [Nat.sub_zero] at hz1
  have her := eraseIdx_filter (fun x : Ent => x.2.1) l j z hM.2.keys hz1
  rw [hz2] at her
  have hset : ∀ o, (setObj gb o).run P w = .ok () (setBlock w gb o) := fun o => by
    simp [setObj, Sem.run, hM.1, setBlock]
  have hjl : j < l.length := (List.getElem?_eq_some_iff.1 hz1).1
  have hes : (l.map ent).toArray.eraseIdxIfInBounds j = ((l.filter fun y => decide (y.2.1 ≠ key)).map ent).toArray := by
    rw [← her]
    apply Array.ext'
    simp [Array.eraseIdxIfInBounds, hjl]
    exact (Go.ChangeMaps.map_eraseIdx ent l j).symm
  refine .of_run (w' := setBlock w gb (.map ((l.filter fun y => decide (y.2.1 ≠ key)).map ent).toArray clock)) (fun a ha => ?_) (h _ ⟨setBlock_at hM.1, hM.2.filter _⟩ (Ch.putMap _ _ _))
  have hc' : (Instr.checkKey l.isEmpty 10000 kt (.agg (key.map u8v).toArray)).run P w = .ok () w := hk.check l.isEmpty 9998 key hl w
  simp only [execOp, resolve, invoke, builtin, Builtin.delete_]
  simp only [ha.eval hx, ha.eval hy, List.map_toArray, List.map_cons, List.map_nil, Sem.run_bind, Sem.run_pure, Result.andThen_ok]
  simp [run_underlying ht, getObj, Sem.run, hM.1, Result.andThen]
  rw [hc']
  simp only []
  rw [hfd]
  have hes' : (l.map ent).eraseIdx j = (l.filter fun y => !decide (y.2.1 = key)).map ent := by
    rw [← Go.ChangeMaps.map_eraseIdx, her]
    congr 1
    apply List.filter_congr
    intro x _
    simp
  simp [hset, hes']
end
end Go.Sx
