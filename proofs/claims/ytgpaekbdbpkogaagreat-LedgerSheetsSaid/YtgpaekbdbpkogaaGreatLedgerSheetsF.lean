/- LedgerSheets: for every input the law answers true and leaves its arguments as they were. -/
import Derived.Test.YtgpaekbdbpkogaaGreatLedgerSheetsE
import Derived.Lib.AppendZerosOnto
set_option linter.unusedVariables false
set_option linter.unusedSimpArgs false
namespace Go.Sx
open Go Go.RowKit
section
variable {P : Program} {env : Env} {n : Nat} {d : Option Nat} {T : TypeId} {p : String} {af : Array Edge} {g : Option (Nat × Bool)} {w : World} {K : Value -> World -> Prop}
def Fat (P : Program) (t i off : Nat) : Prop := ∃ fs f s, P.underlying t = some (.struct fs) /\ fs[i]? = some f /\ f.offset = off /\ Sz P f.type s /\ 0 < s
theorem Any.fieldAddr {t i off : Nat} {x : Operand} {gb o : Nat} (hf : Fat P t i off) (hx : ev env x = some (.pointer (some ⟨gb, o, none⟩))) : Any P env n ⟨d, .fieldAddr t x i, T, p, af, g⟩ (.pointer (some ⟨gb, o + off, none⟩)) := fun a ha w => by
  obtain ⟨fs, f, s, h1, h2, h3, h4, h5⟩ := hf
  have h6 : ¬ s = 0 := by omega
  simp [execOp, ha.eval hx, Instr.fieldAt, run_underlying h1, h2, Instr.sureAddr, fieldPlace, h4.run, h6, h3, add_lit]
theorem Any.field0 {t off : Nat} {x : Operand} {gb i : Nat} (hf : Fat P t i off) (hx : ev env x = some (.pointer (some ⟨gb, 0, none⟩))) : Any P env n ⟨d, .fieldAddr t x i, T, p, af, g⟩ (.pointer (some ⟨gb, off, none⟩)) := by
  have := Any.fieldAddr (n := n) (d := d) (T := T) (p := p) (af := af) (g := g) hf hx
  rwa [Nat.zero_add] at this
def Pls (P : Program) (t : Nat) (pl : List (Nat × Nat)) : Prop := ∃ fs : Array Field, P.underlying t = some (.struct fs) /\ ∀ w : World, (fs.mapM (m := Sem) fun f => do pure (f.offset, <- sizeOf f.type)).run P w = .ok pl.toArray w
theorem Any.buildF {t : Nat} {z : Value} {pl : List (Nat × Nat)} {parts : Array (Nat × Operand)} {vs : List (Nat × Value)} {cells : Array Value} (hu : Pls P t pl) (hz : Zr P t z) (hp : evp env parts.toList = some vs)
    (hf : Instr.fill (pl.toArray[·]?) z.cells vs = some cells) : Any P env n ⟨d, .build t parts, T, p, af, g⟩ (.agg cells) := fun a ha w => by
  obtain ⟨fs, h1, h2⟩ := hu
  have hparts : parts.map (fun (i, x) => (i, a.eval x)) = vs.toArray := by rw [<- ha.evparts hp]; apply Array.ext'; simp
  simp only [execOp, Instr.build, Sem.run_bind, hz.run, Result.andThen_ok, run_underlying h1, h2, hparts]
  rw [hf]
  simp
def Rws (w : World) (k : Nat) (A : Option Addr) (m : Nat) (rows : List (List Value)) : Prop := rows.length = m /\ (∀ r ∈ rows, r.length = k) /\ Sl w k A m rows.flatten
theorem Rws.le {w w' : World} {k : Nat} {A : Option Addr} {m : Nat} {rows : List (List Value)} (h : Rws w k A m rows) (hl : Le w w') : Rws w' k A m rows := ⟨h.1, h.2.1, h.2.2.le hl⟩
theorem Rws.nil (w : World) (k : Nat) (A : Option Addr) : Rws w k A 0 [] := ⟨rfl, (fun r hr => by cases hr), ⟨by simp, fun j u hu => by simp at hu⟩⟩
theorem flat_at {k : Nat} : ∀ (rows : List (List Value)), (∀ r ∈ rows, r.length = k) -> ∀ (j : Nat) (r : List Value), rows[j]? = some r -> ∀ (i : Nat) (u : Value), r[i]? = some u -> rows.flatten[j * k + i]? = some u
  | [], _, j, r, hr, _, _, _ => by simp at hr
  | q :: rows, hk, 0, r, hr, i, u, hu => by
    simp at hr
    subst hr
    simp only [List.flatten_cons, Nat.zero_mul, Nat.zero_add]
    rw [List.getElem?_append_left (List.getElem?_eq_some_iff.1 hu).1]
    exact hu
  | q :: rows, hk, j + 1, r, hr, i, u, hu => by
    have hq : q.length = k := hk q (by simp)
    have ih := flat_at rows (fun q hq => hk q (by simp [hq])) j r (by simpa using hr) i u hu
    simp only [List.flatten_cons]
    rw [List.getElem?_append_right (by rw [hq, Nat.succ_mul]; omega), hq, show (j + 1) * k + i - k = j * k + i by rw [Nat.succ_mul]; omega]
    exact ih
theorem flat_length {k : Nat} : ∀ (rows : List (List Value)), (∀ r ∈ rows, r.length = k) -> rows.flatten.length = rows.length * k
  | [], _ => by simp
  | r :: rows, h => by
    rw [List.flatten_cons, List.length_append, flat_length rows (fun q hq => h q (by simp [hq])), h r (by simp), List.length_cons, Nat.succ_mul, Nat.add_comm]
theorem Rws.isSome {k : Nat} {A : Option Addr} {m : Nat} {rows : List (List Value)} (h : Rws w k A m rows) (hm : 0 < m) (hk : 0 < k) : A.isSome = true := h.2.2.isSome (j := 0) hm hk
theorem Rd.loadR {t : TypeId} {x : Operand} {k : Nat} {A : Option Addr} {m j : Nat} {rows : List (List Value)} {r : List Value} (hu : IsAgg P t k) (hx : ev env x = some (ptr A (j * k))) (hR : Rws w k A m rows) (hr : rows[j]? = some r) (hp : 0 < k) :
    Rd P w env n ⟨d, .load t x, T, p, af, g⟩ (.agg r.toArray) := by
  have hl : r.length = k := hR.2.1 r (List.mem_of_getElem? hr)
  exact Rd.loadSm r (by rw [hl]; exact hu) hx hR.2.2 (fun i u hi => flat_at rows hR.2.1 j r hr i u hi) (by omega)
theorem Own.rws {base e k : Nat} {A : Option Addr} {m c : Nat} {rows : List (List Value)} (h : Own w base e k A m c rows.flatten) (hl : rows.length = m) (hk : ∀ r ∈ rows, r.length = k) : Rws w k A m rows := ⟨hl, hk, h.sl⟩
theorem Blk.srcA {gb : Nat} {e t e' s : TypeId} {vs : Array Value} (h : Blk w gb e vs) (ht : P.underlying t = some (.slice e')) (hs : vs.size = s) (hp : 0 < s) (h1 : ∀ u ∈ vs.toList, u.oneCell' = true) : Src P s t (.slice (some ⟨gb, 0, none⟩) 1 1) 1 vs.toList w :=
  (h.sl (s := s) (n := 1) (by omega)).src ht hp 1 h1
theorem Own.nil (w : World) (base e s : Nat) (A : Option Addr) : Own w base e s A 0 0 [] := ⟨by simp, .inl ⟨rfl, rfl⟩⟩
theorem Rd.cap {t e : TypeId} {x : Operand} {A : Option Addr} {l c : Nat} {ats : Array TypeId} (ht : P.underlying t = some (.slice e)) (ha : ats = #[t]) (hx : ev env x = some (.slice A l c)) :
    Rd P w env n ⟨d, .call ⟨.builtin .cap, #[x], ats⟩, T, p, af, g⟩ (.int .i64 (c : Int)) := fun a hr w' _ => by
  subst ha
  simp [execOp, resolve, invoke, builtin, hr.eval hx, Builtin.cap_, run_underlying ht, goInt]
end
end Go.Sx

namespace Go.Sx
open Go Go.RowKit
section
variable {P : Program} {ops : Array Oper} {Q : Exit -> Act -> World -> Prop} {n : Nat} {S : World -> Prop}
def wpGS (P : Program) (ops : Array Oper) (Q : Exit -> Act -> World -> Prop) (S : World -> Prop) : List Nat -> Act -> World -> Prop
  | [], a, w => Q .normal a w
  | i :: rest, a, w => ∃ o, ops[i]? = some o /\
    if kd o.op = 2 then wpOp P ops noQ i (fun a' w' => S w' /\ wpGS P ops Q S rest a' w') a w
    else ∃ v, YieldsIf P ops (fun w' => kd o.op = 1 -> S w') o v a /\ wpGS P ops Q S rest (a.put o.dst v) w
def planS (ops : Array Oper) : List Nat -> Array Bool -> Bool
  | [], listed => (Region.ready .any ops listed).isEmpty
  | i :: rest, listed =>
    (if k2 ops i then (Region.ready .any ops listed == [i])
     else (Region.ready .any ops listed).contains i && Region.free .any ops listed i) && planS ops rest (listed.setIfInBounds i true)
def planSOK (ops : Array Oper) (plan : List Nat) : Bool := plan.length == ops.size && Region.noSelect ops && planS ops plan (Array.replicate ops.size false)
theorem planS_main (hs : Region.noSelect ops = true) : ∀ (L : List Nat) (listed : Array Bool) (a : Act) (w : World),
    S w -> Cl ops listed -> planS ops L listed = true -> wpGS P ops Q S L a w -> wpAnyC P ops (onlyN Q) S L.length listed a w := by
  intro L
  induction L with
  | nil =>
    intro listed a w _ _ hp h
    refine ⟨by simpa [planS] using hp, rfl, h⟩
  | cons i rest ih =>
    intro listed a w hS hcl hp h
    obtain ⟨o, ho, h⟩ := h
    simp only [planS, Bool.and_eq_true] at hp
    obtain ⟨hp1, hp2⟩ := hp
    by_cases hk : kd o.op = 2
    · rw [if_pos hk] at h
      have hk2 : k2 ops i = true := by unfold k2; rw [ho]; simpa using hk
      rw [if_pos hk2, beq_iff_eq] at hp1
      refine ⟨fun h0 => (by rw [hp1] at h0; cases h0), fun j hj => ?_⟩
      rw [hp1] at hj
      obtain rfl : j = i := by simpa using hj
      refine wpOp_mono (fun a' w' h' => ⟨?_, ?_⟩) (wpOp_noQ h)
      · unfold Ob; rw [if_pos hk2]; exact fun _ => h'.1
      · exact ih (listed.setIfInBounds j true) a' w' h'.1 (hcl.set (by rw [hp1]; simp)) hp2 h'.2
    · rw [if_neg hk] at h
      obtain ⟨v, hy, h⟩ := h
      have hk2 : ¬ k2 ops i = true := by unfold k2; rw [ho]; simpa using hk
      rw [if_neg hk2] at hp1
      simp only [Bool.and_eq_true] at hp1
      exact wpAnyC_first ho (Region.noSelect_spec hs) (fun _ _ _ hf => by cases hf.1) hk _ listed a w hcl (Region.free_spec ho hp1.2) (by simpa using hp1.1) hy (fun _ => hS) (ih _ _ _ hS (hcl.set (by simpa using hp1.1)) hp2 h)
def GS (P : Program) (ops : Array Oper) (Q : Exit -> Act -> World -> Prop) (n : Nat) (S : World -> Prop) (plan : List Nat) (env : Env) (w : World) : Prop := ∀ a, Rep a n env -> wpGS P ops Q S plan a w
theorem GS.nil {env : Env} {w : World} (h : E Q n .normal env w) : GS P ops Q n S [] env w := fun a ha => h a ha
theorem GS.any {env : Env} {w : World} {i : Nat} {o : Oper} {plan : List Nat} {v : Value} {d : Nat} (ho : ops[i]? = some o) (hk : kd o.op = 0) (hr : Any P env n o v) (hg : o.guard = none) (hd : o.dst = some d)
    (hn : Nat.blt d n = true) (h : GS P ops Q n S plan ((d, v) :: env) w) : GS P ops Q n S (i :: plan) env w := fun a ha =>
  ⟨o, ho, by
    rw [if_neg (by rw [hk]; decide)]
    refine ⟨v, .inl ⟨by unfold Region.wanted; rw [hg], fun w' _ => hr a ha w'⟩, ?_⟩
    rw [hd]
    exact h _ (ha.put hn v)⟩
theorem GS.rd {env : Env} {w : World} {i : Nat} {o : Oper} {plan : List Nat} {v : Value} {d : Nat} (ho : ops[i]? = some o) (hk : kd o.op = 1) (hr : ∀ w', S w' -> Rd P w' env n o v) (hg : o.guard = none) (hd : o.dst = some d)
    (hn : Nat.blt d n = true) (h : GS P ops Q n S plan ((d, v) :: env) w) : GS P ops Q n S (i :: plan) env w := fun a ha =>
  ⟨o, ho, by
    rw [if_neg (by rw [hk]; decide)]
    refine ⟨v, .inl ⟨by unfold Region.wanted; rw [hg], fun w' hw => hr w' (hw hk) a ha w' (Le.refl w')⟩, ?_⟩
    rw [hd]
    exact h _ (ha.put hn v)⟩
theorem GS.ef {env : Env} {w : World} {i : Nat} {o : Oper} {plan : List Nat} {d : Nat} (ho : ops[i]? = some o) (hk : kd o.op = 2) (hg : o.guard = none) (hd : o.dst = some d) (hn : Nat.blt d n = true)
    (h : Ef P env n o w fun v w' => S w' /\ GS P ops Q n S plan ((d, v) :: env) w') : GS P ops Q n S (i :: plan) env w := fun a ha =>
  ⟨o, ho, by
    rw [if_pos hk]
    unfold wpOp
    simp only [ho]
    rw [if_pos (by unfold Region.wanted; rw [hg])]
    left
    exact Oper.wp_mono (fun a' w' ⟨v, h1, h2, h3⟩ => ⟨h2, by subst h1; rw [hd]; exact h3 _ (ha.put hn v)⟩) (h a ha)⟩
theorem GS.ef0 {env : Env} {w : World} {i : Nat} {o : Oper} {plan : List Nat} (ho : ops[i]? = some o) (hk : kd o.op = 2) (hg : o.guard = none) (hd : o.dst = none)
    (h : Ef P env n o w fun _ w' => S w' /\ GS P ops Q n S plan env w') : GS P ops Q n S (i :: plan) env w := fun a ha =>
  ⟨o, ho, by
    rw [if_pos hk]
    unfold wpOp
    simp only [ho]
    rw [if_pos (by unfold Region.wanted; rw [hg])]
    left
    exact Oper.wp_mono (fun a' w' ⟨v, h1, h2, h3⟩ => ⟨h2, by subst h1; rw [hd]; exact h3 _ ha⟩) (h a ha)⟩
theorem WC.drawS {env : Env} {w : World} {id : Nat} (S : World -> World -> Prop) (plan : List Nat) (hm : P.follows .mixedOrders = true) (hp : planSOK ops plan = true)
    (h : ∀ w', Le w w' -> S w' w' /\ GS P ops Q n (S w') plan env w') : WC P Q n (.region id ops true) env w := fun a ha => by
  simp only [planSOK, Bool.and_eq_true, beq_iff_eq] at hp
  obtain ⟨⟨hl, hs⟩, hp⟩ := hp
  obtain ⟨h1, h2⟩ := h _ (Le.drew w)
  have := planS_main hs plan _ a _ h1 (Cl.none _) hp (h2 a ha)
  rw [hl] at this
  refine wp_mono (wp_region_any hm (wpAny_of_C _ _ _ _ this)) ?_
  rintro e a w ⟨rfl, hq⟩
  exact hq
end
end Go.Sx

namespace Go.Sx
open Go Go.RowKit
section
variable {P : Program} {ops : Array Oper} {Q : Exit -> Act -> World -> Prop} {n : Nat} {S : World -> Prop}
def k1 (ops : Array Oper) (j : Nat) : Bool := match ops[j]? with | some o => kd o.op == 1 | none => false
def needR (ops : Array Oper) (l : List Nat) : Bool := l.any fun j => nS ops j || k1 ops j
def wpGR (P : Program) (ops : Array Oper) (Q : Exit -> Act -> World -> Prop) (S : World -> Prop) : List Nat -> Act -> World -> Prop
  | [], a, w => Q .normal a w
  | i :: rest, a, w => ∃ o, ops[i]? = some o /\
    if kd o.op = 2 then wpOp P ops noQ i (fun a' w' => ((nS ops i || needR ops rest) = true -> S w') /\ wpGR P ops Q S rest a' w') a w
    else ∃ v, YieldsIf P ops (fun w' => kd o.op = 1 -> S w') o v a /\ wpGR P ops Q S rest (a.put o.dst v) w
def GR (P : Program) (ops : Array Oper) (Q : Exit -> Act -> World -> Prop) (n : Nat) (S : World -> Prop) (plan : List Nat) (env : Env) (w : World) : Prop := ∀ a, Rep a n env -> wpGR P ops Q S plan a w
theorem GR.nil {env : Env} {w : World} (h : E Q n .normal env w) : GR P ops Q n S [] env w := fun a ha => h a ha
theorem GR.any {env : Env} {w : World} {i : Nat} {o : Oper} {plan : List Nat} {v : Value} {d : Nat} (ho : ops[i]? = some o) (hk : kd o.op = 0) (hr : Any P env n o v) (hg : o.guard = none) (hd : o.dst = some d)
    (hn : Nat.blt d n = true) (h : GR P ops Q n S plan ((d, v) :: env) w) : GR P ops Q n S (i :: plan) env w := fun a ha =>
  ⟨o, ho, by
    rw [if_neg (by rw [hk]; decide)]
    refine ⟨v, .inl ⟨by unfold Region.wanted; rw [hg], fun w' _ => hr a ha w'⟩, ?_⟩
    rw [hd]
    exact h _ (ha.put hn v)⟩
theorem GR.rd {env : Env} {w : World} {i : Nat} {o : Oper} {plan : List Nat} {v : Value} {d : Nat} (ho : ops[i]? = some o) (hk : kd o.op = 1) (hr : ∀ w', S w' -> Rd P w' env n o v) (hg : o.guard = none) (hd : o.dst = some d)
    (hn : Nat.blt d n = true) (h : GR P ops Q n S plan ((d, v) :: env) w) : GR P ops Q n S (i :: plan) env w := fun a ha =>
  ⟨o, ho, by
    rw [if_neg (by rw [hk]; decide)]
    refine ⟨v, .inl ⟨by unfold Region.wanted; rw [hg], fun w' hw => hr w' (hw hk) a ha w' (Le.refl w')⟩, ?_⟩
    rw [hd]
    exact h _ (ha.put hn v)⟩
theorem GR.ef {env : Env} {w : World} {i : Nat} {o : Oper} {plan : List Nat} {d : Nat} (ho : ops[i]? = some o) (hk : kd o.op = 2) (hg : o.guard = none) (hd : o.dst = some d) (hn : Nat.blt d n = true)
    (h : Ef P env n o w fun v w' => ((nS ops i || needR ops plan) = true -> S w') /\ GR P ops Q n S plan ((d, v) :: env) w') : GR P ops Q n S (i :: plan) env w := fun a ha =>
  ⟨o, ho, by
    rw [if_pos hk]
    unfold wpOp
    simp only [ho]
    rw [if_pos (by unfold Region.wanted; rw [hg])]
    left
    exact Oper.wp_mono (fun a' w' ⟨v, h1, h2, h3⟩ => ⟨h2, by subst h1; rw [hd]; exact h3 _ (ha.put hn v)⟩) (h a ha)⟩
theorem GR.ef0 {env : Env} {w : World} {i : Nat} {o : Oper} {plan : List Nat} (ho : ops[i]? = some o) (hk : kd o.op = 2) (hg : o.guard = none) (hd : o.dst = none)
    (h : Ef P env n o w fun _ w' => ((nS ops i || needR ops plan) = true -> S w') /\ GR P ops Q n S plan env w') : GR P ops Q n S (i :: plan) env w := fun a ha =>
  ⟨o, ho, by
    rw [if_pos hk]
    unfold wpOp
    simp only [ho]
    rw [if_pos (by unfold Region.wanted; rw [hg])]
    left
    exact Oper.wp_mono (fun a' w' ⟨v, h1, h2, h3⟩ => ⟨h2, by subst h1; rw [hd]; exact h3 _ ha⟩) (h a ha)⟩
theorem GR.anyg {env : Env} {w : World} {i : Nat} {o : Oper} {plan : List Nat} {v : Value} {d j dj : Nat} {b want : Bool} (ho : ops[i]? = some o) (hk : kd o.op = 0) (hr : Any P env n o v) (hg : o.guard = some (j, want))
    (hj : (ops[j]?).bind (·.dst) = some dj) (hv : look env dj = some (.bool b)) (hb : b = want) (hd : o.dst = some d)
    (hn : Nat.blt d n = true) (h : GR P ops Q n S plan ((d, v) :: env) w) : GR P ops Q n S (i :: plan) env w := fun a ha =>
  ⟨o, ho, by
    rw [if_neg (by rw [hk]; decide)]
    refine ⟨v, .inl ⟨by rw [wanted_of ha hg hj hv, hb]; simp, fun w' _ => hr a ha w'⟩, ?_⟩
    rw [hd]
    exact h _ (ha.put hn v)⟩
theorem GR.rdg {env : Env} {w : World} {i : Nat} {o : Oper} {plan : List Nat} {v : Value} {d j dj : Nat} {b want : Bool} (ho : ops[i]? = some o) (hk : kd o.op = 1) (hr : ∀ w', S w' -> Rd P w' env n o v) (hg : o.guard = some (j, want))
    (hj : (ops[j]?).bind (·.dst) = some dj) (hv : look env dj = some (.bool b)) (hb : b = want) (hd : o.dst = some d)
    (hn : Nat.blt d n = true) (h : GR P ops Q n S plan ((d, v) :: env) w) : GR P ops Q n S (i :: plan) env w := fun a ha =>
  ⟨o, ho, by
    rw [if_neg (by rw [hk]; decide)]
    refine ⟨v, .inl ⟨by rw [wanted_of ha hg hj hv, hb]; simp, fun w' hw => hr w' (hw hk) a ha w' (Le.refl w')⟩, ?_⟩
    rw [hd]
    exact h _ (ha.put hn v)⟩
theorem GR.efg {env : Env} {w : World} {i : Nat} {o : Oper} {plan : List Nat} {d j dj : Nat} {b want : Bool} (ho : ops[i]? = some o) (hk : kd o.op = 2) (hg : o.guard = some (j, want))
    (hj : (ops[j]?).bind (·.dst) = some dj) (hv : look env dj = some (.bool b)) (hb : b = want) (hd : o.dst = some d) (hn : Nat.blt d n = true)
    (h : Ef P env n o w fun v w' => ((nS ops i || needR ops plan) = true -> S w') /\ GR P ops Q n S plan ((d, v) :: env) w') : GR P ops Q n S (i :: plan) env w := fun a ha =>
  ⟨o, ho, by
    rw [if_pos hk]
    unfold wpOp
    simp only [ho]
    rw [if_pos (by rw [wanted_of ha hg hj hv, hb]; simp)]
    left
    exact Oper.wp_mono (fun a' w' ⟨v, h1, h2, h3⟩ => ⟨h2, by subst h1; rw [hd]; exact h3 _ (ha.put hn v)⟩) (h a ha)⟩
end
end Go.Sx

namespace Go.Sx
open Go Go.RowKit
section
variable {P : Program} {ops : Array Oper} {Q : Exit -> Act -> World -> Prop} {n : Nat}
def feet : Value -> Nat -> Prop
  | .slice A _ c, k => rowOf A c = some k
  | .pointer (some p), k => p.block = k
  | _, _ => False
def dstOf (ops : Array Oper) (i : Nat) : Nat := ((ops[i]?).bind (·.dst)).getD 0
def setAll (l : Array Bool) (U : List Nat) : Array Bool := U.foldl (fun l i => l.setIfInBounds i true) l
theorem setAll_size : ∀ (U : List Nat) (l : Array Bool), (setAll l U).size = l.size
  | [], _ => rfl
  | i :: U, l => by
    show (setAll (l.setIfInBounds i true) U).size = _
    rw [setAll_size U, Array.size_setIfInBounds]
theorem setAll_get : ∀ (U : List Nat) (l : Array Bool) (k : Nat), (setAll l U).getD k false = (l.getD k false || (U.contains k && decide (k < l.size)))
  | [], l, k => by simp [setAll]
  | i :: U, l, k => by
    show (setAll (l.setIfInBounds i true) U).getD k false = _
    rw [setAll_get U, Array.size_setIfInBounds]
    by_cases hik : i = k
    · subst hik
      by_cases hlt : i < l.size
      · simp [hlt]
      · simp [hlt]
    · rw [getD_set_ne false hik]
      have : (k == i) = false := by simpa using fun h => hik h.symm
      rw [List.contains_cons, this, Bool.false_or]
structure FInv (U D : List Nat) (Φ : Nat -> Value -> World -> Prop) (env : Env) (n : Nat) (w0 : World) (f : Nat -> Value) (ops : Array Oper) (a : Act) (w : World) : Prop where
  rep : Rep a n env
  slot : ∀ i ∈ U, i ∉ D -> a.tmps[dstOf ops i]? = some (f i)
  le : Le w0 w
  phi : ∀ i ∈ U, i ∉ D -> Φ i (f i) w
  foot : ∀ i ∈ U, i ∉ D -> ∀ k, feet (f i) k -> w0.heap.size <= k /\ k < w.heap.size
  apart : ∀ i ∈ U, i ∉ D -> ∀ j ∈ U, j ∉ D -> i ≠ j -> ∀ k, feet (f i) k -> ¬ feet (f j) k
theorem rep_more {env : Env} {a : Act} (h : Rep a n env) (f : Nat -> Value) : ∀ (L : List Nat), (∀ i ∈ L, a.tmps[dstOf ops i]? = some (f i)) -> Rep a n (L.map (fun i => (dstOf ops i, f i)) ++ env)
  | [], _ => h
  | i :: L, hs => by
    have ih := rep_more h f L (fun j hj => hs j (List.mem_cons_of_mem _ hj))
    refine ⟨ih.1, ih.2.1, fun k v hk => ?_⟩
    rw [List.map_cons, List.cons_append] at hk
    by_cases hki : dstOf ops i = k
    · subst hki
      rw [look_same] at hk
      injection hk with hk
      subst hk
      exact hs i List.mem_cons_self
    · rw [look_other _ _ hki] at hk
      exact ih.2.2 k v hk
def Step (P : Program) (ops : Array Oper) (dep : Nat -> List Nat) (Φ : Nat -> Value -> World -> Prop) (env : Env) (n : Nat) (w0 : World) (i : Nat) : Prop :=
  ∀ o, ops[i]? = some o -> ∀ (f : Nat -> Value) (w : World), Le w0 w -> (∀ j ∈ dep i, Φ j (f j) w) -> Ef P ((dep i).map (fun j => (dstOf ops j, f j)) ++ env) n o w fun v w' => Le w w' /\ Φ i v w' /\ ∀ k, feet v k -> w.heap.size <= k /\ k < w'.heap.size
theorem Step.of0 {dep : Nat -> List Nat} {Φ : Nat -> Value -> World -> Prop} {env : Env} {w0 : World} {i : Nat} {o : Oper} (hd : dep i = []) (ho : ops[i]? = some o)
    (h : ∀ w, Le w0 w -> Ef P env n o w fun v w' => Le w w' /\ Φ i v w' /\ ∀ k, feet v k -> w.heap.size <= k /\ k < w'.heap.size) : Step P ops dep Φ env n w0 i := fun o' ho' f w hle _ => by
  rw [ho] at ho'
  injection ho' with ho'
  subst ho'
  rw [hd]
  exact h w hle
theorem Step.of1 {dep : Nat -> List Nat} {Φ : Nat -> Value -> World -> Prop} {env : Env} {w0 : World} {i j d : Nat} {o : Oper} (hd : dep i = [j]) (hj : dstOf ops j = d) (ho : ops[i]? = some o)
    (h : ∀ v w, Le w0 w -> Φ j v w -> Ef P ((d, v) :: env) n o w fun v w' => Le w w' /\ Φ i v w' /\ ∀ k, feet v k -> w.heap.size <= k /\ k < w'.heap.size) : Step P ops dep Φ env n w0 i := fun o' ho' f w hle hp => by
  rw [ho] at ho'
  injection ho' with ho'
  subst ho'
  rw [hd] at hp ⊢
  subst hj
  exact h (f j) w hle (hp j (List.mem_singleton.2 rfl))
def planP (ops : Array Oper) : List Nat -> Array Bool -> Bool
  | [], _ => true
  | i :: rest, listed => !k2 ops i && (Region.ready .any ops listed).contains i && Region.free .any ops listed i && planP ops rest (listed.setIfInBounds i true)
theorem planP_main {K : Act -> World -> Prop} {w : World} {r : Nat} {l1 : Array Bool} (hs : Region.noSelect ops = true) (hK : ∀ a, K a w -> Cl ops l1 -> wpAnyC P ops (onlyN Q) (Le w) r l1 a w) : ∀ (L : List Nat) (listed : Array Bool) (a : Act),
    Cl ops listed -> planP ops L listed = true -> l1 = setAll listed L -> wpG P ops (fun _ a w => K a w) L a w -> wpAnyC P ops (onlyN Q) (Le w) (L.length + r) listed a w
  | [], listed, a, hcl, _, hl, h => by
    rw [show l1 = listed from hl] at hK
    rw [List.length_nil, Nat.zero_add]
    exact hK a h hcl
  | i :: rest, listed, a, hcl, hp, hl, h => by
    obtain ⟨o, ho, h⟩ := h
    simp only [planP, Bool.and_eq_true, Bool.not_eq_true'] at hp
    obtain ⟨⟨⟨hk2, h1⟩, h2⟩, h3⟩ := hp
    have hk : ¬ kd o.op = 2 := by unfold k2 at hk2; rw [ho] at hk2; simpa using hk2
    rw [if_neg hk] at h
    obtain ⟨v, hy, h⟩ := h
    rw [List.length_cons, show rest.length + 1 + r = rest.length + r + 1 by omega]
    exact wpAnyC_first ho (Region.noSelect_spec hs) (fun _ _ _ hf => by cases hf.1) hk _ listed a w hcl (Region.free_spec ho h2) (by simpa using h1) hy (fun _ => Le.refl w) (planP_main hs hK rest _ _ (hcl.set (by simpa using h1)) h3 hl h)
def Free (P : Program) (ops : Array Oper) (Q : Exit -> Act -> World -> Prop) (n : Nat) (U R : List Nat) (dep : Nat -> List Nat) (env : Env) (w : World) : Prop :=
  (U.all fun i => (look env (dstOf ops i)).isNone && Nat.blt (dstOf ops i) n) = true /\ ∃ Φ : Nat -> Value -> World -> Prop, (∀ i ∈ U, ∀ v w w', Φ i v w -> Le w w' -> Φ i v w') /\ (∀ i ∈ U, Step P ops dep Φ env n w i) /\
    ∀ (f : Nat -> Value) (w' : World), Le w w' -> (∀ i ∈ U, Φ i (f i) w') -> (∀ i ∈ U, ∀ k, feet (f i) k -> w.heap.size <= k /\ k < w'.heap.size) -> (∀ i ∈ U, ∀ j ∈ U, i ≠ j -> ∀ k, feet (f i) k -> ¬ feet (f j) k) -> G P ops Q n R (U.map (fun i => (dstOf ops i, f i)) ++ env) w'
theorem E.free {U R : List Nat} {dep : Nat -> List Nat} {env : Env} {w : World} (h : Free P ops Q n U R dep env w) : E (fun _ a w => ∃ env, Rep a n env /\ Free P ops Q n U R dep env w) n .normal env w := fun _ ha => ⟨env, ha, h⟩
end
end Go.Sx

namespace Go.Sx
open Go Go.RowKit
section
variable {P : Program} {ops : Array Oper} {Q : Exit -> Act -> World -> Prop} {n : Nat}
def StepP (P : Program) (ops : Array Oper) (dep : Nat -> List Nat) (Φ : Nat -> Value -> World -> Prop) (env : Env) (n : Nat) (w0 : World) (i : Nat) : Prop :=
  ∀ o, ops[i]? = some o -> ∀ (f : Nat -> Value) (w : World), Le w0 w -> (∀ j ∈ dep i, Φ j (f j) w) -> ∃ v, (∀ a, Rep a n ((dep i).map (fun j => (dstOf ops j, f j)) ++ env) -> ∀ w', (execOp a.eval o).run P w' = .ok (.value v) w') /\ Φ i v w /\ ∀ k, ¬ feet v k
def Step3 (P : Program) (ops : Array Oper) (dep : Nat -> List Nat) (Φ : Nat -> Value -> World -> Prop) (env : Env) (n : Nat) (w0 : World) (i : Nat) : Prop :=
  (k2 ops i = true /\ Step P ops dep Φ env n w0 i) \/ (k2 ops i = false /\ StepP P ops dep Φ env n w0 i)
theorem Step3.pure1 {dep : Nat -> List Nat} {Φ : Nat -> Value -> World -> Prop} {env : Env} {w0 : World} {i j d : Nat} {o : Oper} (hk : k2 ops i = false) (hd : dep i = [j]) (hj : dstOf ops j = d) (ho : ops[i]? = some o)
    (h : ∀ u w, Le w0 w -> Φ j u w -> ∃ v, Any P ((d, u) :: env) n o v /\ Φ i v w /\ ∀ k, ¬ feet v k) : Step3 P ops dep Φ env n w0 i := .inr ⟨hk, fun o' ho' f w hle hp => by
  rw [ho] at ho'
  injection ho' with ho'
  subst ho'
  rw [hd] at hp ⊢
  subst hj
  exact h (f j) w hle (hp j (List.mem_singleton.2 rfl))⟩
theorem Step3.pure2 {dep : Nat -> List Nat} {Φ : Nat -> Value -> World -> Prop} {env : Env} {w0 : World} {i j k d e : Nat} {o : Oper} (hk : k2 ops i = false) (hd : dep i = [j, k]) (hj : dstOf ops j = d) (hke : dstOf ops k = e) (ho : ops[i]? = some o)
    (h : ∀ u u2 w, Le w0 w -> Φ j u w -> Φ k u2 w -> ∃ v, Any P ((d, u) :: (e, u2) :: env) n o v /\ Φ i v w /\ ∀ k, ¬ feet v k) : Step3 P ops dep Φ env n w0 i := .inr ⟨hk, fun o' ho' f w hle hp => by
  rw [ho] at ho'
  injection ho' with ho'
  subst ho'
  rw [hd] at hp ⊢
  subst hj hke
  exact h (f j) (f k) w hle (hp j (by simp)) (hp k (by simp))⟩
def freeOp3 (ops : Array Oper) (U : List Nat) (dep : Nat -> List Nat) (l1 : Array Bool) (i : Nat) : Bool :=
  !l1.getD i true && (match ops[i]? with
    | some o => (kd o.op == 2 || (kd o.op == 0 && Region.free .any ops (setAll l1 (U.filter fun j => ((reach ops).getD i 0).testBit j)) i)) && o.guard.isNone && o.dst.isSome && o.after.toList.all (fun e => !Region.binds .any e || l1.getD e.on false || (U.contains e.on && Nat.blt e.on i))
    | none => false) && (dep i).all fun j => U.contains j && ((reach ops).getD i 0).testBit j
def freeB3 (ops : Array Oper) (U : List Nat) (dep : Nat -> List Nat) (l1 : Array Bool) : Bool :=
  U.all (freeOp3 ops U dep l1) && decide (U.map (dstOf ops)).Nodup && (List.range ops.size).all fun k => l1.getD k true || U.contains k || U.all fun i => !k2 ops i || ((reach ops).getD k 0).testBit i
theorem free_main3 {U R : List Nat} {dep : Nat -> List Nat} {Φ : Nat -> Value -> World -> Prop} {env : Env} {w0 : World} {l1 : Array Bool} (hs : Region.noSelect ops = true) (hsz : l1.size = ops.size)
    (hB : freeB3 ops U dep l1 = true) (hR : planB ops R (setAll l1 U) = true) (hlook : (U.all fun i => (look env (dstOf ops i)).isNone && Nat.blt (dstOf ops i) n) = true)
    (hst : ∀ i ∈ U, ∀ v w w', Φ i v w -> Le w w' -> Φ i v w') (hstep : ∀ i ∈ U, Step3 P ops dep Φ env n w0 i)
    (hfin : ∀ (f : Nat -> Value) (w : World), Le w0 w -> (∀ i ∈ U, Φ i (f i) w) -> (∀ i ∈ U, ∀ k, feet (f i) k -> w0.heap.size <= k /\ k < w.heap.size) -> (∀ i ∈ U, ∀ j ∈ U, i ≠ j -> ∀ k, feet (f i) k -> ¬ feet (f j) k) -> G P ops Q n R (U.map (fun i => (dstOf ops i, f i)) ++ env) w) :
    ∀ (m : Nat) (D : List Nat) (listed : Array Bool) (f : Nat -> Value) (a : Act) (w : World), D.length = m -> D.Nodup -> (∀ i ∈ D, i ∈ U) -> listed.size = ops.size ->
      (∀ k, listed.getD k false = (l1.getD k false || (U.contains k && !D.contains k && decide (k < ops.size)))) -> Cl ops listed -> FInv U D Φ env n w0 f ops a w -> wpAnyC P ops (onlyN Q) (Le w0) (m + R.length) listed a w := by
  simp only [freeB3, Bool.and_eq_true, List.all_eq_true, decide_eq_true_eq, List.mem_range] at hB
  obtain ⟨⟨hU, hnd⟩, hrest⟩ := hB
  have hop : ∀ i ∈ U, l1.getD i true = false /\ (∃ o d, ops[i]? = some o /\ (kd o.op = 2 \/ (kd o.op = 0 /\ Region.free .any ops (setAll l1 (U.filter fun j => ((reach ops).getD i 0).testBit j)) i = true)) /\ o.guard = none /\ o.dst = some d /\ dstOf ops i = d /\ (∀ e ∈ o.after, Region.binds .any e = true -> l1.getD e.on false = true \/ (e.on ∈ U /\ e.on < i))) /\ ∀ j ∈ dep i, j ∈ U /\ Dep ops i j := by
    intro i hi
    have h := hU i hi
    simp only [freeOp3, Bool.and_eq_true, Bool.not_eq_true', List.all_eq_true] at h
    obtain ⟨⟨h1, h2⟩, h3⟩ := h
    refine ⟨h1, ?_, fun j hj => ⟨by simpa using (h3 j hj).1, reach_sound ops i j (h3 j hj).2⟩⟩
    cases ho : ops[i]? with
    | none => rw [ho] at h2; cases h2
    | some o =>
      rw [ho] at h2
      simp only [Bool.and_eq_true, Bool.or_eq_true, beq_iff_eq, Option.isNone_iff_eq_none, List.all_eq_true] at h2
      obtain ⟨⟨⟨h4, h5⟩, h6⟩, h7⟩ := h2
      obtain ⟨d, hd⟩ := Option.isSome_iff_exists.1 h6
      refine ⟨o, d, rfl, h4, h5, hd, by unfold dstOf; rw [ho]; simp [hd], fun e he hb => ?_⟩
      have := h7 e (by simpa using he)
      simp only [Bool.or_eq_true, Bool.not_eq_true', Bool.and_eq_true, hb] at this
      rcases this with (h | h) | h
      · cases h
      · exact .inl h
      · exact .inr ⟨by simpa using h.1, by simpa [Nat.blt_eq] using h.2⟩
  have hinj : ∀ i ∈ U, ∀ j ∈ U, dstOf ops i = dstOf ops j -> i = j := by
    intro i hi j hj h
    obtain ⟨p, hp, rfl⟩ := List.getElem_of_mem hi
    obtain ⟨q, hq, rfl⟩ := List.getElem_of_mem hj
    have hw := List.pairwise_iff_getElem.1 hnd
    rcases Nat.lt_trichotomy p q with hpq | hpq | hpq
    · exact absurd (by rw [List.getElem_map, List.getElem_map]; exact h) (hw p q (by simpa using hp) (by simpa using hq) hpq)
    · subst hpq
      rfl
    · exact absurd (by rw [List.getElem_map, List.getElem_map]; exact h.symm) (hw q p (by simpa using hq) (by simpa using hp) hpq)
  intro m
  induction m with
  | zero =>
    intro D listed f a w hD _ _ hlz hl hcl hI
    have hD0 : D = [] := List.length_eq_zero_iff.1 hD
    subst hD0
    have hle : listed = setAll l1 U := by
      refine Array.ext (by rw [setAll_size, hlz, hsz]) fun k h1 h2 => ?_
      have := hl k
      have h3 := setAll_get U l1 k
      rw [Array.getD_eq_getD_getElem?, Array.getElem?_eq_getElem h1] at this
      rw [Array.getD_eq_getD_getElem?, Array.getElem?_eq_getElem h2] at h3
      simp only [Option.getD_some, List.contains_nil, Bool.not_false, Bool.and_true] at this h3
      rw [this, h3, hsz]
    subst hle
    have hg := hfin f w hI.le (fun i hi => hI.phi i hi (by simp)) (fun i hi => hI.foot i hi (by simp)) (fun i hi j hj => hI.apart i hi (by simp) j hj (by simp)) a (rep_more hI.rep f U (fun i hi => hI.slot i hi (by simp)))
    rw [Nat.zero_add]
    exact wpAnyC_mono (fun _ hw => hI.le.trans hw) _ _ _ _ (plan_main hs R _ a w hcl hR hg)
  | succ m ih =>
    intro D listed f a w hD hDn hDU hlz hl hcl hI
    have hget : ∀ k, k < ops.size -> listed.getD k true = listed.getD k false := fun k hk => by
      rw [Array.getD_eq_getD_getElem?, Array.getD_eq_getD_getElem?, Array.getElem?_eq_getElem (by omega)]
      rfl
    have hl1 : ∀ i ∈ U, l1.getD i false = false /\ i < ops.size := fun i hi => by
      have h := (hop i hi).1
      have hlt : i < ops.size := by
        obtain ⟨o, _, ho, _⟩ := (hop i hi).2.1
        exact lt_of_op ho
      refine ⟨?_, hlt⟩
      rw [Array.getD_eq_getD_getElem?, Array.getElem?_eq_getElem (by omega)] at h ⊢
      exact h
    have hun : ∀ i ∈ D, listed.getD i true = false := fun i hi => by
      rw [hget i (hl1 i (hDU i hi)).2, hl i, (hl1 i (hDU i hi)).1]
      have : D.contains i = true := by simpa using hi
      rw [this]
      simp
    have hready : ∀ i, i ∈ D -> ∃ j, j ∈ D /\ j ∈ Region.ready .any ops listed := by
      intro i
      induction i using Nat.strongRecOn with
      | _ i ihi =>
        intro hi
        obtain ⟨o, d, ho, _, _, _, _, haf⟩ := (hop i (hDU i hi)).2.1
        by_cases hall : ∀ e ∈ o.after, Region.binds .any e = true -> listed.getD e.on false = true
        · exact ⟨i, hi, mem_ready.2 ⟨hun i hi, o, ho, hall⟩⟩
        · obtain ⟨e, h1⟩ := Classical.not_forall.1 hall
          obtain ⟨he, h2⟩ := Classical.not_forall.1 h1
          obtain ⟨hb, hne⟩ := Classical.not_forall.1 h2
          rcases haf e he hb with h | ⟨h1, h2⟩
          · exact absurd (by rw [hl, h]; rfl) hne
          · refine ihi e.on h2 ?_
            apply Classical.byContradiction
            intro hd
            refine hne ?_
            rw [hl]
            have : D.contains e.on = false := by simpa using hd
            rw [this]
            simp [h1, (hl1 _ h1).2]
    have hnot : ∀ i ∈ D, i ∈ Region.ready .any ops listed -> ∀ j ∈ dep i, j ∈ U /\ j ∉ D := fun i hiD hi j hj => by
      obtain ⟨_, o, ho, hall⟩ := mem_ready.1 hi
      have h1 := (hop i (hDU i hiD)).2.2 j hj
      refine ⟨h1.1, fun hjD => ?_⟩
      have h3 := hcl.dep h1.2 (fun oj hoj => by rw [ho] at hoj; injection hoj with hoj; subst hoj; exact hall)
      have h4 := hun j hjD
      rw [hget j (hl1 j h1.1).2, h3] at h4
      cases h4
    simp only [List.all_eq_true, Bool.and_eq_true, Option.isNone_iff_eq_none, Nat.blt_eq] at hlook
    have hnext : ∀ i, i ∈ D -> i ∈ Region.ready .any ops listed -> ∀ o d, ops[i]? = some o -> o.dst = some d -> dstOf ops i = d -> ∀ v w', Le w w' -> Φ i v w' -> (∀ k, feet v k -> w.heap.size <= k /\ k < w'.heap.size) -> wpAnyC P ops (onlyN Q) (Le w0) (m + R.length) (listed.setIfInBounds i true) (a.put (some d) v) w' := by
      intro i hiD hi o d ho hd hdd v w' hle hphi hfeet
      have hiU := hDU i hiD
      have hne : ∀ j, j ∈ D.erase i ↔ j ≠ i /\ j ∈ D := fun j => List.Nodup.mem_erase_iff hDn
      have hjd : ∀ j ∈ U, j ∉ D.erase i -> j ≠ i -> j ∉ D := fun j _ h1 h2 h3 => h1 ((hne j).2 ⟨h2, h3⟩)
      refine ih (D.erase i) (listed.setIfInBounds i true) (fun j => if j = i then v else f j) _ w' ?_ (hDn.erase i) (fun j hj => hDU j ((hne j).1 hj).2) (by rw [Array.size_setIfInBounds, hlz]) ?_ (hcl.set hi) ?_
      · rw [List.length_erase_of_mem hiD, hD]
        rfl
      · intro k
        by_cases hik : i = k
        · subst hik
          have hlt := (hl1 i hiU).2
          rw [Array.getD_eq_getD_getElem?, Array.getElem?_setIfInBounds_self_of_lt (by omega)]
          have h1 : (D.erase i).contains i = false := by
            have : i ∉ D.erase i := fun h => ((hne i).1 h).1 rfl
            simpa using this
          rw [h1]
          simp [hiU, hlt]
        · rw [getD_set_ne false hik, hl k]
          have h1 : (D.erase i).contains k = D.contains k := by
            rw [Bool.eq_iff_iff]
            simp only [List.contains_iff_mem, hne]
            exact ⟨fun h => h.2, fun h => ⟨fun h2 => hik h2.symm, h⟩⟩
          rw [h1]
      · have hdn : look env d = none /\ d < n := by rw [<- hdd]; exact hlook i hiU
        have hother : ∀ j ∈ U, j ≠ i -> dstOf ops j ≠ d := fun j hj hji h => hji (hinj j hj i hiU (by rw [h, hdd]))
        have hput : ∀ s, s ≠ d -> (a.put (some d) v).tmps[s]? = a.tmps[s]? := fun s hsd => by
          simp [Act.put, Array.getElem?_setIfInBounds_ne (Ne.symm hsd)]
        have hsame : (a.put (some d) v).tmps[d]? = some v := by
          have := hI.rep.2.1
          simp [Act.put, this, hdn.2]
        refine ⟨⟨hI.rep.1, by simp [Act.put, hI.rep.2.1], fun s u hsu => ?_⟩, fun j hj hjD => ?_, hI.le.trans hle, fun j hj hjD => ?_, fun j hj hjD k hk' => ?_, fun j hj hjD q hq hqD hjq k hk1 hk2 => ?_⟩
        · by_cases hsd : s = d
          · subst hsd
            rw [hdn.1] at hsu
            cases hsu
          · rw [hput s hsd]
            exact hI.rep.2.2 s u hsu
        · by_cases hji : j = i
          · subst hji
            rw [if_pos rfl, hdd]
            exact hsame
          · rw [if_neg hji, hput _ (hother j hj hji)]
            exact hI.slot j hj (hjd j hj hjD hji)
        · by_cases hji : j = i
          · subst hji
            rw [if_pos rfl]
            exact hphi
          · rw [if_neg hji]
            exact hst j hj _ _ _ (hI.phi j hj (hjd j hj hjD hji)) hle
        · by_cases hji : j = i
          · subst hji
            rw [if_pos rfl] at hk'
            have := hfeet k hk'
            have := hI.le.size
            omega
          · rw [if_neg hji] at hk'
            have := hI.foot j hj (hjd j hj hjD hji) k hk'
            have := hle.size
            omega
        · by_cases hji : j = i
          · subst hji
            rw [if_pos rfl] at hk1
            rw [if_neg (Ne.symm hjq)] at hk2
            have h1 := hfeet k hk1
            have h2 := hI.foot q hq (hjd q hq hqD (Ne.symm hjq)) k hk2
            omega
          · rw [if_neg hji] at hk1
            by_cases hqi : q = i
            · subst hqi
              rw [if_pos rfl] at hk2
              have h1 := hfeet k hk2
              have h2 := hI.foot j hj (hjd j hj hjD hji) k hk1
              omega
            · rw [if_neg hqi] at hk2
              exact hI.apart j hj (hjd j hj hjD hji) q hq (hjd q hq hqD hqi) hjq k hk1 hk2
    rw [show m + 1 + R.length = (m + R.length) + 1 by omega]
    by_cases hact : ∃ i, i ∈ D /\ k2 ops i = true
    · obtain ⟨i0, hi0, hk0⟩ := hact
      have hin : ∀ i ∈ Region.ready .any ops listed, i ∈ D := by
        intro i hi
        obtain ⟨hu, o, ho, hall⟩ := mem_ready.1 hi
        have hlt := lt_of_op ho
        rw [hget i hlt, hl i, Bool.or_eq_false_iff] at hu
        by_cases hiU : i ∈ U
        · apply Classical.byContradiction
          intro hd
          have : D.contains i = false := by simpa using hd
          rw [this] at hu
          simp [hiU, hlt] at hu
        · exfalso
          have h := hrest i hlt
          simp only [Bool.or_eq_true, List.all_eq_true, Bool.not_eq_true'] at h
          rcases h with (h | h) | h
          · rw [Array.getD_eq_getD_getElem?, Array.getElem?_eq_getElem (by omega)] at h
            have h2 := hu.1
            rw [Array.getD_eq_getD_getElem?, Array.getElem?_eq_getElem (by omega)] at h2
            simp only [Option.getD_some] at h h2
            rw [h] at h2
            cases h2
          · exact hiU (by simpa using h)
          · have h3 := hcl.dep (reach_sound ops i i0 ((h i0 (hDU i0 hi0)).resolve_left (by rw [hk0]; decide))) (fun oj hoj => by rw [ho] at hoj; injection hoj with hoj; subst hoj; exact hall)
            have h4 := hun i0 hi0
            rw [hget i0 (hl1 i0 (hDU i0 hi0)).2, h3] at h4
            cases h4
      refine ⟨fun h0 => ?_, fun i hi => ?_⟩
      · obtain ⟨j, _, hj⟩ := hready i0 hi0
        rw [h0] at hj
        cases hj
      · have hiD := hin i hi
        have hiU := hDU i hiD
        obtain ⟨o, d, ho, hk, hg, hd, hdd, _⟩ := (hop i hiU).2.1
        rcases hstep i hiU with ⟨hk2, hs2⟩ | ⟨hk2, hs0⟩
        · have hef := hs2 o ho f w hI.le (fun j hj => hI.phi j (hnot i hiD hi j hj).1 (hnot i hiD hi j hj).2) a (rep_more hI.rep f (dep i) (fun j hj => hI.slot j (hnot i hiD hi j hj).1 (hnot i hiD hi j hj).2))
          unfold wpOp
          simp only [ho]
          rw [if_pos (by unfold Region.wanted; rw [hg])]
          left
          refine Oper.wp_noQ (Oper.wp_mono (fun a' w' hh => ?_) hef)
          obtain ⟨v, rfl, hle, hphi, hfeet⟩ := hh
          rw [hd]
          refine ⟨?_, hnext i hiD hi o d ho hd hdd v w' hle hphi hfeet⟩
          unfold Ob
          rw [if_pos hk2]
          exact fun _ => hI.le.trans hle
        · obtain ⟨v, hy, hphi, hfeet⟩ := hs0 o ho f w hI.le (fun j hj => hI.phi j (hnot i hiD hi j hj).1 (hnot i hiD hi j hj).2)
          have hef : Ef P ((dep i).map (fun j => (dstOf ops j, f j)) ++ env) n o w (fun v' w' => v' = v /\ w' = w) := Ef.of_run (fun a' ha' => hy a' ha' w) ⟨rfl, rfl⟩
          have hef := hef a (rep_more hI.rep f (dep i) (fun j hj => hI.slot j (hnot i hiD hi j hj).1 (hnot i hiD hi j hj).2))
          unfold wpOp
          simp only [ho]
          rw [if_pos (by unfold Region.wanted; rw [hg])]
          left
          refine Oper.wp_noQ (Oper.wp_mono (fun a' w' hh => ?_) hef)
          obtain ⟨v', rfl, hv, hw⟩ := hh
          subst hv
          subst hw
          rw [hd]
          refine ⟨?_, hnext i hiD hi o d ho hd hdd _ _ (Le.refl _) hphi (fun k hk => absurd hk (hfeet k))⟩
          unfold Ob
          rw [if_neg (by rw [hk2]; decide)]
    · obtain ⟨i1, hi1⟩ : ∃ i, i ∈ D := by
        cases D with
        | nil => simp at hD
        | cons i D => exact ⟨i, List.mem_cons_self⟩
      obtain ⟨i, hiD, hi⟩ := hready i1 hi1
      have hiU := hDU i hiD
      obtain ⟨o, d, ho, hk, hg, hd, hdd, _⟩ := (hop i hiU).2.1
      rcases hstep i hiU with ⟨hk2, _⟩ | ⟨hk2, hs0⟩
      · exact absurd ⟨i, hiD, hk2⟩ hact
      · have hkn : ¬ kd o.op = 2 := by unfold k2 at hk2; rw [ho] at hk2; simpa using hk2
        obtain ⟨hk0, hfree⟩ := hk.resolve_left hkn
        obtain ⟨v, hy, hphi, hfeet⟩ := hs0 o ho f w hI.le (fun j hj => hI.phi j (hnot i hiD hi j hj).1 (hnot i hiD hi j hj).2)
        have hrep := rep_more hI.rep f (dep i) (fun j hj => hI.slot j (hnot i hiD hi j hj).1 (hnot i hiD hi j hj).2)
        refine wpAnyC_first (v := v) ho (Region.noSelect_spec hs) (fun _ _ _ hf => by cases hf.1) hkn _ listed a w hcl (fun j oj hj hne hun' hno => Region.free_spec ho hfree j oj hj hne ?_ hno) hi (.inl ⟨by unfold Region.wanted; rw [hg], fun w' _ => hy a hrep w'⟩) (fun h1 => absurd (hk0.symm.trans h1) (by decide)) ?_
        · have hlt := lt_of_op hj
          have h1 := hl j
          rw [<- hget j hlt, hun'] at h1
          have h2 := (Bool.or_eq_false_iff.1 h1.symm).1
          have h3 := setAll_get (U.filter fun j => ((reach ops).getD i 0).testBit j) l1 j
          have h5 : (U.filter fun j => ((reach ops).getD i 0).testBit j).contains j = false := by
            rw [Bool.eq_false_iff]
            intro hc
            have hm : j ∈ U.filter fun j => ((reach ops).getD i 0).testBit j := by simpa using hc
            have hr := (List.mem_filter.1 hm).2
            obtain ⟨_, o2, ho2, hall2⟩ := mem_ready.1 hi
            have h6 := hcl.dep (reach_sound ops i j hr) (fun oj2 hoj2 => by rw [ho2] at hoj2; injection hoj2 with hoj2; subst hoj2; exact hall2)
            rw [<- hget j hlt, hun'] at h6
            cases h6
          rw [h2, h5, Bool.false_and, Bool.or_false] at h3
          rw [Array.getD_eq_getD_getElem?, Array.getElem?_eq_getElem (by rw [setAll_size]; omega)] at h3 ⊢
          exact h3
        · rw [hd]
          exact hnext i hiD hi o d ho hd hdd v w (Le.refl _) hphi (fun k hk => absurd hk (hfeet k))
def planM (ops : Array Oper) (P0 U R : List Nat) (dep : Nat -> List Nat) : Bool :=
  P0.length + (U.length + R.length) == ops.size && Region.noSelect ops && planP ops P0 (Array.replicate ops.size false) && freeB3 ops U dep (setAll (Array.replicate ops.size false) P0) && planB ops R (setAll (setAll (Array.replicate ops.size false) P0) U)
def Free3 (P : Program) (ops : Array Oper) (Q : Exit -> Act -> World -> Prop) (n : Nat) (U R : List Nat) (dep : Nat -> List Nat) (env : Env) (w : World) : Prop :=
  (U.all fun i => (look env (dstOf ops i)).isNone && Nat.blt (dstOf ops i) n) = true /\ ∃ Φ : Nat -> Value -> World -> Prop, (∀ i ∈ U, ∀ v w w', Φ i v w -> Le w w' -> Φ i v w') /\ (∀ i ∈ U, Step3 P ops dep Φ env n w i) /\
    ∀ (f : Nat -> Value) (w' : World), Le w w' -> (∀ i ∈ U, Φ i (f i) w') -> (∀ i ∈ U, ∀ k, feet (f i) k -> w.heap.size <= k /\ k < w'.heap.size) -> (∀ i ∈ U, ∀ j ∈ U, i ≠ j -> ∀ k, feet (f i) k -> ¬ feet (f j) k) -> G P ops Q n R (U.map (fun i => (dstOf ops i, f i)) ++ env) w'
theorem E.free3 {U R : List Nat} {dep : Nat -> List Nat} {env : Env} {w : World} (h : Free3 P ops Q n U R dep env w) : E (fun _ a w => ∃ env, Rep a n env /\ Free3 P ops Q n U R dep env w) n .normal env w := fun _ ha => ⟨env, ha, h⟩
theorem WC.drawM {env : Env} {w : World} {id : Nat} (P0 U R : List Nat) (dep : Nat -> List Nat) (hm : P.follows .mixedOrders = true) (hp : planM ops P0 U R dep = true)
    (h : ∀ w', Le w w' -> G P ops (fun _ a w => ∃ env, Rep a n env /\ Free3 P ops Q n U R dep env w) n P0 env w') : WC P Q n (.region id ops true) env w := fun a ha => by
  simp only [planM, Bool.and_eq_true, beq_iff_eq] at hp
  obtain ⟨⟨⟨⟨hl, hs⟩, hp0⟩, hpU⟩, hpR⟩ := hp
  have hn : U.Nodup := by
    simp only [freeB3, Bool.and_eq_true, decide_eq_true_eq] at hpU
    exact List.Pairwise.of_map (dstOf ops) (fun a b h e => h (by rw [e])) hpU.1.2
  have hz : (setAll (Array.replicate ops.size false) P0).size = ops.size := by rw [setAll_size]; simp
  have := planP_main (Q := Q) (r := U.length + R.length) (w := { w with drawn := w.drawn + 1 }) (K := fun a w => ∃ env, Rep a n env /\ Free3 P ops Q n U R dep env w) hs (fun a' ⟨env', hr, hlook, Φ, h1, h2, h3⟩ hcl => by
    refine free_main3 hs hz hpU hpR hlook h1 h2 h3 U.length U _ (fun _ => undef) a' _ rfl hn (fun i hi => hi) hz (fun k => ?_) hcl ⟨hr, fun i hi hd => absurd hi hd, Le.refl _, fun i hi hd => absurd hi hd, fun i hi hd => absurd hi hd, fun i hi hd => absurd hi hd⟩
    cases U.contains k <;> simp) P0 _ a (Cl.none _) hp0 rfl (h _ (Le.drew w) a ha)
  rw [hl] at this
  refine wp_mono (wp_region_any hm (wpAny_of_C _ _ _ _ this)) ?_
  rintro e a w ⟨rfl, hq⟩
  exact hq
end
end Go.Sx

namespace Go.Sx
open Go Go.RowKit
section
variable {P : Program} {ops : Array Oper} {Q : Exit -> Act -> World -> Prop} {n : Nat} {S : World -> Prop}
theorem GS.anyg {env : Env} {w : World} {i : Nat} {o : Oper} {plan : List Nat} {v : Value} {d j dj : Nat} {b want : Bool} (ho : ops[i]? = some o) (hk : kd o.op = 0) (hr : Any P env n o v) (hg : o.guard = some (j, want))
    (hj : (ops[j]?).bind (·.dst) = some dj) (hv : look env dj = some (.bool b)) (hb : b = want) (hd : o.dst = some d)
    (hn : Nat.blt d n = true) (h : GS P ops Q n S plan ((d, v) :: env) w) : GS P ops Q n S (i :: plan) env w := fun a ha =>
  ⟨o, ho, by
    rw [if_neg (by rw [hk]; decide)]
    refine ⟨v, .inl ⟨by rw [wanted_of ha hg hj hv, hb]; simp, fun w' _ => hr a ha w'⟩, ?_⟩
    rw [hd]
    exact h _ (ha.put hn v)⟩
theorem GS.rdg {env : Env} {w : World} {i : Nat} {o : Oper} {plan : List Nat} {v : Value} {d j dj : Nat} {b want : Bool} (ho : ops[i]? = some o) (hk : kd o.op = 1) (hr : ∀ w', S w' -> Rd P w' env n o v) (hg : o.guard = some (j, want))
    (hj : (ops[j]?).bind (·.dst) = some dj) (hv : look env dj = some (.bool b)) (hb : b = want) (hd : o.dst = some d)
    (hn : Nat.blt d n = true) (h : GS P ops Q n S plan ((d, v) :: env) w) : GS P ops Q n S (i :: plan) env w := fun a ha =>
  ⟨o, ho, by
    rw [if_neg (by rw [hk]; decide)]
    refine ⟨v, .inl ⟨by rw [wanted_of ha hg hj hv, hb]; simp, fun w' hw => hr w' (hw hk) a ha w' (Le.refl w')⟩, ?_⟩
    rw [hd]
    exact h _ (ha.put hn v)⟩
theorem GS.efg {env : Env} {w : World} {i : Nat} {o : Oper} {plan : List Nat} {d j dj : Nat} {b want : Bool} (ho : ops[i]? = some o) (hk : kd o.op = 2) (hg : o.guard = some (j, want))
    (hj : (ops[j]?).bind (·.dst) = some dj) (hv : look env dj = some (.bool b)) (hb : b = want) (hd : o.dst = some d) (hn : Nat.blt d n = true)
    (h : Ef P env n o w fun v w' => S w' /\ GS P ops Q n S plan ((d, v) :: env) w') : GS P ops Q n S (i :: plan) env w := fun a ha =>
  ⟨o, ho, by
    rw [if_pos hk]
    unfold wpOp
    simp only [ho]
    rw [if_pos (by rw [wanted_of ha hg hj hv, hb]; simp)]
    left
    exact Oper.wp_mono (fun a' w' ⟨v, h1, h2, h3⟩ => ⟨h2, by subst h1; rw [hd]; exact h3 _ (ha.put hn v)⟩) (h a ha)⟩
end
end Go.Sx

