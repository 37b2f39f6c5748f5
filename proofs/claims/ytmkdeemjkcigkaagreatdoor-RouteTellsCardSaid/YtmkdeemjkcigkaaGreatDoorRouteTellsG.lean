/- RouteTells: for every input the law answers true and leaves its arguments as they were. -/
import Derived.Test.YtmkdeemjkcigkaaGreatDoorRouteTellsF
import Derived.Lib.AppendZerosOnto
set_option linter.unusedVariables false
set_option linter.unusedSimpArgs false
namespace Go.Sx
open Go Go.RowKit
section
variable {P : Program} {env : Env} {n : Nat} {d : Option Nat} {T : TypeId} {p : String} {af : Array Edge} {g : Option (Nat × Bool)} {w : World} {K : Value → World → Prop}
def Fat (P : Program) (t i off : Nat) : Prop := ∃ fs f s, P.underlying t = some (.struct fs) ∧ fs[i]? = some f ∧ f.offset = off ∧ Sz P f.type s ∧ 0 < s
theorem Any.fieldAddr {t i off : Nat} {x : Operand} {gb o : Nat} (hf : Fat P t i off) (hx : ev env x = some (.pointer (some ⟨gb, o, none⟩))) : Any P env n ⟨d, .fieldAddr t x i, T, p, af, g⟩ (.pointer (some ⟨gb, o + off, none⟩)) := fun a ha w => by
  obtain ⟨fs, f, s, h1, h2, h3, h4, h5⟩ := hf
  have h6 : ¬ s = 0 := by omega
  simp [execOp, ha.eval hx, Instr.fieldAt, run_underlying h1, h2, Instr.sureAddr, fieldPlace, h4.run, h6, h3, add_lit]
theorem Any.field0 {t off : Nat} {x : Operand} {gb i : Nat} (hf : Fat P t i off) (hx : ev env x = some (.pointer (some ⟨gb, 0, none⟩))) : Any P env n ⟨d, .fieldAddr t x i, T, p, af, g⟩ (.pointer (some ⟨gb, off, none⟩)) := by
  have := Any.fieldAddr (n := n) (d := d) (T := T) (p := p) (af := af) (g := g) hf hx
  rwa [Nat.zero_add] at this
def Pls (P : Program) (t : Nat) (pl : List (Nat × Nat)) : Prop := ∃ fs : Array Field, P.underlying t = some (.struct fs) ∧ ∀ w : World, (fs.mapM (m := Sem) fun f => do pure (f.offset, ← sizeOf f.type)).run P w = .ok pl.toArray w
theorem Any.buildF {t : Nat} {z : Value} {pl : List (Nat × Nat)} {parts : Array (Nat × Operand)} {vs : List (Nat × Value)} {cells : Array Value} (hu : Pls P t pl) (hz : Zr P t z) (hp : evp env parts.toList = some vs)
    (hf : Instr.fill (pl.toArray[·]?) z.cells vs = some cells) : Any P env n ⟨d, .build t parts, T, p, af, g⟩ (.agg cells) := fun a ha w => by
  obtain ⟨fs, h1, h2⟩ := hu
  have hparts : parts.map (fun (i, x) => (i, a.eval x)) = vs.toArray := by rw [← ha.evparts hp]; apply Array.ext'; simp
  simp only [execOp, Instr.build, Sem.run_bind, hz.run, Result.andThen_ok, run_underlying h1, h2, hparts]
  rw [hf]
  simp
def Rws (w : World) (k : Nat) (A : Option Addr) (m : Nat) (rows : List (List Value)) : Prop := rows.length = m ∧ (∀ r ∈ rows, r.length = k) ∧ Sl w k A m rows.flatten
theorem Rws.le {w w' : World} {k : Nat} {A : Option Addr} {m : Nat} {rows : List (List Value)} (h : Rws w k A m rows) (hl : Le w w') : Rws w' k A m rows := ⟨h.1, h.2.1, h.2.2.le hl⟩
theorem Rws.nil (w : World) (k : Nat) (A : Option Addr) : Rws w k A 0 [] := ⟨rfl, (fun r hr => by cases hr), ⟨by simp, fun j u hu => by simp at hu⟩⟩
theorem flat_at {k : Nat} : ∀ (rows : List (List Value)), (∀ r ∈ rows, r.length = k) → ∀ (j : Nat) (r : List Value), rows[j]? = some r → ∀ (i : Nat) (u : Value), r[i]? = some u → rows.flatten[j * k + i]? = some u
  | [], _, j, r, hr, _, _, _ => by simp at hr
  | q :: rows, hk, 0, r, hr, i, u, hu => by
    simp at hr
    subst hr
    simp only [List.flatten_cons, Nat.zero_mul, Nat.zero_add]
    rw [List.getElem?_append_left (List.getElem?_eq_some_iff.1 hu).1]
    exact hu
  | q :: rows, hk, j + 1, r, hr, i, u, hu => by
    have hq : q.length = k := hk q (by simp)
    have ih := flat_at rows (fun q hq => hk q (by simp [hq])) j r (by simpa using hr) i u hu
    simp only [List.flatten_cons]
    rw [List.getElem?_append_right (by rw [hq, Nat.succ_mul]; omega), hq, show (j + 1) * k + i - k = j * k + i by rw [Nat.succ_mul]; omega]
    exact ih
theorem flat_length {k : Nat} : ∀ (rows : List (List Value)), (∀ r ∈ rows, r.length = k) → rows.flatten.length = rows.length * k
  | [], _ => by simp
  | r :: rows, h => by
    rw [List.flatten_cons, List.length_append, flat_length rows (fun q hq => h q (by simp [hq])), h r (by simp), List.length_cons, Nat.succ_mul, Nat.add_comm]
theorem Rws.isSome {k : Nat} {A : Option Addr} {m : Nat} {rows : List (List Value)} (h : Rws w k A m rows) (hm : 0 < m) (hk : 0 < k) : A.isSome = true := h.2.2.isSome (j := 0) hm hk
theorem Rd.loadR {t : TypeId} {x : Operand} {k : Nat} {A : Option Addr} {m j : Nat} {rows : List (List Value)} {r : List Value} (hu : IsAgg P t k) (hx : ev env x = some (ptr A (j * k))) (hR : Rws w k A m rows) (hr : rows[j]? = some r) (hp : 0 < k) :
    Rd P w env n ⟨d, .load t x, T, p, af, g⟩ (.agg r.toArray) := by
  have hl : r.length = k := hR.2.1 r (List.mem_of_getElem? hr)
  exact Rd.loadSm r (by rw [hl]; exact hu) hx hR.2.2 (fun i u hi => flat_at rows hR.2.1 j r hr i u hi) (by omega)
theorem Own.rws {base e k : Nat} {A : Option Addr} {m c : Nat} {rows : List (List Value)} (h : Own w base e k A m c rows.flatten) (hl : rows.length = m) (hk : ∀ r ∈ rows, r.length = k) : Rws w k A m rows := ⟨hl, hk, h.sl⟩
theorem Blk.srcA {gb : Nat} {e t e' s : TypeId} {vs : Array Value} (h : Blk w gb e vs) (ht : P.underlying t = some (.slice e')) (hs : vs.size = s) (hp : 0 < s) (h1 : ∀ u ∈ vs.toList, u.oneCell' = true) : Src P s t (.slice (some ⟨gb, 0, none⟩) 1 1) 1 vs.toList w :=
  (h.sl (s := s) (n := 1) (by omega)).src ht hp 1 h1
theorem Own.nil (w : World) (base e s : Nat) (A : Option Addr) : Own w base e s A 0 0 [] := ⟨by simp, .inl ⟨rfl, rfl⟩⟩
theorem Rd.cap {t e : TypeId} {x : Operand} {A : Option Addr} {l c : Nat} {ats : Array TypeId} (ht : P.underlying t = some (.slice e)) (ha : ats = #[t]) (hx : ev env x = some (.slice A l c)) :
    Rd P w env n ⟨d, .call ⟨.builtin .cap, #[x], ats⟩, T, p, af, g⟩ (.int .i64 (c : Int)) := fun a hr w' _ => by
  subst ha
  simp [execOp, resolve, invoke, builtin, hr.eval hx, Builtin.cap_, run_underlying ht, goInt]
end
end Go.Sx

namespace Go.Sx
open Go Go.RowKit
section
variable {P : Program} {ops : Array Oper} {Q : Exit → Act → World → Prop} {n : Nat} {S : World → Prop}
def wpGS (P : Program) (ops : Array Oper) (Q : Exit → Act → World → Prop) (S : World → Prop) : List Nat → Act → World → Prop
  | [], a, w => Q .normal a w
  | i :: rest, a, w => ∃ o, ops[i]? = some o ∧
    if kd o.op = 2 then wpOp P ops noQ i (fun a' w' => S w' ∧ wpGS P ops Q S rest a' w') a w
    else ∃ v, YieldsIf P ops (fun w' => kd o.op = 1 → S w') o v a ∧ wpGS P ops Q S rest (a.put o.dst v) w
def planS (ops : Array Oper) : List Nat → Array Bool → Bool
  | [], listed => (Region.ready .any ops listed).isEmpty
  | i :: rest, listed =>
    (if k2 ops i then (Region.ready .any ops listed == [i])
     else (Region.ready .any ops listed).contains i && Region.free .any ops listed i) && planS ops rest (listed.setIfInBounds i true)
def planSOK (ops : Array Oper) (plan : List Nat) : Bool := plan.length == ops.size && Region.noSelect ops && planS ops plan (Array.replicate ops.size false)
theorem planS_main (hs : Region.noSelect ops = true) : ∀ (L : List Nat) (listed : Array Bool) (a : Act) (w : World),
    S w → Cl ops listed → planS ops L listed = true → wpGS P ops Q S L a w → wpAnyC P ops (onlyN Q) S L.length listed a w := by
  intro L
  induction L with
  | nil =>
    intro listed a w _ _ hp h
    refine ⟨by simpa [planS] using hp, rfl, h⟩
  | cons i rest ih =>
    intro listed a w hS hcl hp h
    obtain ⟨o, ho, h⟩ := h
    simp only [planS, Bool.and_eq_true] at hp
    obtain ⟨hp1, hp2⟩ := hp
    by_cases hk : kd o.op = 2
    · rw [if_pos hk] at h
      have hk2 : k2 ops i = true := by unfold k2; rw [ho]; simpa using hk
      rw [if_pos hk2, beq_iff_eq] at hp1
      refine ⟨fun h0 => (by rw [hp1] at h0; cases h0), fun j hj => ?_⟩
      rw [hp1] at hj
      obtain rfl : j = i := by simpa using hj
      refine wpOp_mono (fun a' w' h' => ⟨?_, ?_⟩) (wpOp_noQ h)
      · unfold Ob; rw [if_pos hk2]; exact fun _ => h'.1
      · exact ih (listed.setIfInBounds j true) a' w' h'.1 (hcl.set (by rw [hp1]; simp)) hp2 h'.2
    · rw [if_neg hk] at h
      obtain ⟨v, hy, h⟩ := h
      have hk2 : ¬ k2 ops i = true := by unfold k2; rw [ho]; simpa using hk
      rw [if_neg hk2] at hp1
      simp only [Bool.and_eq_true] at hp1
      exact wpAnyC_first ho (Region.noSelect_spec hs) (fun _ _ _ hf => by cases hf.1) hk _ listed a w hcl (Region.free_spec ho hp1.2) (by simpa using hp1.1) hy (fun _ => hS) (ih _ _ _ hS (hcl.set (by simpa using hp1.1)) hp2 h)
def GS (P : Program) (ops : Array Oper) (Q : Exit → Act → World → Prop) (n : Nat) (S : World → Prop) (plan : List Nat) (env : Env) (w : World) : Prop := ∀ a, Rep a n env → wpGS P ops Q S plan a w
theorem GS.nil {env : Env} {w : World} (h : E Q n .normal env w) : GS P ops Q n S [] env w := fun a ha => h a ha
theorem GS.any {env : Env} {w : World} {i : Nat} {o : Oper} {plan : List Nat} {v : Value} {d : Nat} (ho : ops[i]? = some o) (hk : kd o.op = 0) (hr : Any P env n o v) (hg : o.guard = none) (hd : o.dst = some d)
    (hn : Nat.blt d n = true) (h : GS P ops Q n S plan ((d, v) :: env) w) : GS P ops Q n S (i :: plan) env w := fun a ha =>
  ⟨o, ho, by
    rw [if_neg (by rw [hk]; decide)]
    refine ⟨v, .inl ⟨by unfold Region.wanted; rw [hg], fun w' _ => hr a ha w'⟩, ?_⟩
    rw [hd]
    exact h _ (ha.put hn v)⟩
theorem GS.rd {env : Env} {w : World} {i : Nat} {o : Oper} {plan : List Nat} {v : Value} {d : Nat} (ho : ops[i]? = some o) (hk : kd o.op = 1) (hr : ∀ w', S w' → Rd P w' env n o v) (hg : o.guard = none) (hd : o.dst = some d)
    (hn : Nat.blt d n = true) (h : GS P ops Q n S plan ((d, v) :: env) w) : GS P ops Q n S (i :: plan) env w := fun a ha =>
  ⟨o, ho, by
    rw [if_neg (by rw [hk]; decide)]
    refine ⟨v, .inl ⟨by unfold Region.wanted; rw [hg], fun w' hw => hr w' (hw hk) a ha w' (Le.refl w')⟩, ?_⟩
    rw [hd]
    exact h _ (ha.put hn v)⟩
theorem GS.ef {env : Env} {w : World} {i : Nat} {o : Oper} {plan : List Nat} {d : Nat} (ho : ops[i]? = some o) (hk : kd o.op = 2) (hg : o.guard = none) (hd : o.dst = some d) (hn : Nat.blt d n = true)
    (h : Ef P env n o w fun v w' => S w' ∧ GS P ops Q n S plan ((d, v) :: env) w') : GS P ops Q n S (i :: plan) env w := fun a ha =>
  ⟨o, ho, by
    rw [if_pos hk]
    unfold wpOp
    simp only [ho]
    rw [if_pos (by unfold Region.wanted; rw [hg])]
    left
    exact Oper.wp_mono (fun a' w' ⟨v, h1, h2, h3⟩ => ⟨h2, by subst h1; rw [hd]; exact h3 _ (ha.put hn v)⟩) (h a ha)⟩
theorem GS.ef0 {env : Env} {w : World} {i : Nat} {o : Oper} {plan : List Nat} (ho : ops[i]? = some o) (hk : kd o.op = 2) (hg : o.guard = none) (hd : o.dst = none)
    (h : Ef P env n o w fun _ w' => S w' ∧ GS P ops Q n S plan env w') : GS P ops Q n S (i :: plan) env w := fun a ha =>
  ⟨o, ho, by
    rw [if_pos hk]
    unfold wpOp
    simp only [ho]
    rw [if_pos (by unfold Region.wanted; rw [hg])]
    left
    exact Oper.wp_mono (fun a' w' ⟨v, h1, h2, h3⟩ => ⟨h2, by subst h1; rw [hd]; exact h3 _ ha⟩) (h a ha)⟩
theorem WC.drawS {env : Env} {w : World} {id : Nat} (S : World → World → Prop) (plan : List Nat) (hm : P.follows .mixedOrders = true) (hp : planSOK ops plan = true)
    (h : ∀ w', Le w w' → S w' w' ∧ GS P ops Q n (S w') plan env w') : WC P Q n (.region id ops true) env w := fun a ha => by
  simp only [planSOK, Bool.and_eq_true, beq_iff_eq] at hp
  obtain ⟨⟨hl, hs⟩, hp⟩ := hp
  obtain ⟨h1, h2⟩ := h _ (Le.drew w)
  have := planS_main hs plan _ a _ h1 (Cl.none _) hp (h2 a ha)
  rw [hl] at this
  refine wp_mono (wp_region_any hm (wpAny_of_C _ _ _ _ this)) ?_
  rintro e a w ⟨rfl, hq⟩
  exact hq
end
end Go.Sx

namespace Go.Sx
open Go Go.RowKit
section
variable {P : Program} {ops : Array Oper} {Q : Exit → Act → World → Prop} {n : Nat} {S : World → Prop}
def k1 (ops : Array Oper) (j : Nat) : Bool := match ops[j]? with | some o => kd o.op == 1 | none => false
def needR (ops : Array Oper) (l : List Nat) : Bool := l.any fun j => nS ops j || k1 ops j
def wpGR (P : Program) (ops : Array Oper) (Q : Exit → Act → World → Prop) (S : World → Prop) : List Nat → Act → World → Prop
  | [], a, w => Q .normal a w
  | i :: rest, a, w => ∃ o, ops[i]? = some o ∧
    if kd o.op = 2 then wpOp P ops noQ i (fun a' w' => ((nS ops i || needR ops rest) = true → S w') ∧ wpGR P ops Q S rest a' w') a w
    else ∃ v, YieldsIf P ops (fun w' => kd o.op = 1 → S w') o v a ∧ wpGR P ops Q S rest (a.put o.dst v) w
theorem planR_main (hs : Region.noSelect ops = true) : ∀ (L : List Nat) (listed : Array Bool) (a : Act) (w : World),
    (needR ops L = true → S w) → Cl ops listed → planS ops L listed = true → wpGR P ops Q S L a w → wpAnyC P ops (onlyN Q) S L.length listed a w := by
  intro L
  induction L with
  | nil =>
    intro listed a w _ _ hp h
    refine ⟨by simpa [planS] using hp, rfl, h⟩
  | cons i rest ih =>
    intro listed a w hS hcl hp h
    obtain ⟨o, ho, h⟩ := h
    simp only [planS, Bool.and_eq_true] at hp
    obtain ⟨hp1, hp2⟩ := hp
    by_cases hk : kd o.op = 2
    · rw [if_pos hk] at h
      have hk2 : k2 ops i = true := by unfold k2; rw [ho]; simpa using hk
      rw [if_pos hk2, beq_iff_eq] at hp1
      refine ⟨fun h0 => (by rw [hp1] at h0; cases h0), fun j hj => ?_⟩
      rw [hp1] at hj
      obtain rfl : j = i := by simpa using hj
      refine wpOp_mono (fun a' w' h' => ⟨?_, ?_⟩) (wpOp_noQ h)
      · unfold Ob; rw [if_pos hk2]; exact fun hn => h'.1 (by rw [hn, Bool.true_or])
      · exact ih (listed.setIfInBounds j true) a' w' (fun hn => h'.1 (by rw [hn, Bool.or_true])) (hcl.set (by rw [hp1]; simp)) hp2 h'.2
    · rw [if_neg hk] at h
      obtain ⟨v, hy, h⟩ := h
      have hk2 : ¬ k2 ops i = true := by unfold k2; rw [ho]; simpa using hk
      rw [if_neg hk2] at hp1
      simp only [Bool.and_eq_true] at hp1
      have hS1 : kd o.op = 1 → S w := fun h1 => hS (by unfold needR; rw [List.any_cons]; have : k1 ops i = true := by unfold k1; rw [ho]; simpa using h1
                                                       rw [this, Bool.or_true, Bool.true_or])
      exact wpAnyC_first ho (Region.noSelect_spec hs) (fun _ _ _ hf => by cases hf.1) hk _ listed a w hcl (Region.free_spec ho hp1.2) (by simpa using hp1.1) hy hS1 (ih _ _ _ (fun hn => hS (by unfold needR at hn ⊢; rw [List.any_cons, hn, Bool.or_true])) (hcl.set (by simpa using hp1.1)) hp2 h)
def GR (P : Program) (ops : Array Oper) (Q : Exit → Act → World → Prop) (n : Nat) (S : World → Prop) (plan : List Nat) (env : Env) (w : World) : Prop := ∀ a, Rep a n env → wpGR P ops Q S plan a w
theorem GR.nil {env : Env} {w : World} (h : E Q n .normal env w) : GR P ops Q n S [] env w := fun a ha => h a ha
theorem GR.any {env : Env} {w : World} {i : Nat} {o : Oper} {plan : List Nat} {v : Value} {d : Nat} (ho : ops[i]? = some o) (hk : kd o.op = 0) (hr : Any P env n o v) (hg : o.guard = none) (hd : o.dst = some d)
    (hn : Nat.blt d n = true) (h : GR P ops Q n S plan ((d, v) :: env) w) : GR P ops Q n S (i :: plan) env w := fun a ha =>
  ⟨o, ho, by
    rw [if_neg (by rw [hk]; decide)]
    refine ⟨v, .inl ⟨by unfold Region.wanted; rw [hg], fun w' _ => hr a ha w'⟩, ?_⟩
    rw [hd]
    exact h _ (ha.put hn v)⟩
theorem GR.rd {env : Env} {w : World} {i : Nat} {o : Oper} {plan : List Nat} {v : Value} {d : Nat} (ho : ops[i]? = some o) (hk : kd o.op = 1) (hr : ∀ w', S w' → Rd P w' env n o v) (hg : o.guard = none) (hd : o.dst = some d)
    (hn : Nat.blt d n = true) (h : GR P ops Q n S plan ((d, v) :: env) w) : GR P ops Q n S (i :: plan) env w := fun a ha =>
  ⟨o, ho, by
    rw [if_neg (by rw [hk]; decide)]
    refine ⟨v, .inl ⟨by unfold Region.wanted; rw [hg], fun w' hw => hr w' (hw hk) a ha w' (Le.refl w')⟩, ?_⟩
    rw [hd]
    exact h _ (ha.put hn v)⟩
theorem GR.ef {env : Env} {w : World} {i : Nat} {o : Oper} {plan : List Nat} {d : Nat} (ho : ops[i]? = some o) (hk : kd o.op = 2) (hg : o.guard = none) (hd : o.dst = some d) (hn : Nat.blt d n = true)
    (h : Ef P env n o w fun v w' => ((nS ops i || needR ops plan) = true → S w') ∧ GR P ops Q n S plan ((d, v) :: env) w') : GR P ops Q n S (i :: plan) env w := fun a ha =>
  ⟨o, ho, by
    rw [if_pos hk]
    unfold wpOp
    simp only [ho]
    rw [if_pos (by unfold Region.wanted; rw [hg])]
    left
    exact Oper.wp_mono (fun a' w' ⟨v, h1, h2, h3⟩ => ⟨h2, by subst h1; rw [hd]; exact h3 _ (ha.put hn v)⟩) (h a ha)⟩
theorem GR.ef0 {env : Env} {w : World} {i : Nat} {o : Oper} {plan : List Nat} (ho : ops[i]? = some o) (hk : kd o.op = 2) (hg : o.guard = none) (hd : o.dst = none)
    (h : Ef P env n o w fun _ w' => ((nS ops i || needR ops plan) = true → S w') ∧ GR P ops Q n S plan env w') : GR P ops Q n S (i :: plan) env w := fun a ha =>
  ⟨o, ho, by
    rw [if_pos hk]
    unfold wpOp
    simp only [ho]
    rw [if_pos (by unfold Region.wanted; rw [hg])]
    left
    exact Oper.wp_mono (fun a' w' ⟨v, h1, h2, h3⟩ => ⟨h2, by subst h1; rw [hd]; exact h3 _ ha⟩) (h a ha)⟩
theorem GR.anyg {env : Env} {w : World} {i : Nat} {o : Oper} {plan : List Nat} {v : Value} {d j dj : Nat} {b want : Bool} (ho : ops[i]? = some o) (hk : kd o.op = 0) (hr : Any P env n o v) (hg : o.guard = some (j, want))
    (hj : (ops[j]?).bind (·.dst) = some dj) (hv : look env dj = some (.bool b)) (hb : b = want) (hd : o.dst = some d)
    (hn : Nat.blt d n = true) (h : GR P ops Q n S plan ((d, v) :: env) w) : GR P ops Q n S (i :: plan) env w := fun a ha =>
  ⟨o, ho, by
    rw [if_neg (by rw [hk]; decide)]
    refine ⟨v, .inl ⟨by rw [wanted_of ha hg hj hv, hb]; simp, fun w' _ => hr a ha w'⟩, ?_⟩
    rw [hd]
    exact h _ (ha.put hn v)⟩
theorem GR.rdg {env : Env} {w : World} {i : Nat} {o : Oper} {plan : List Nat} {v : Value} {d j dj : Nat} {b want : Bool} (ho : ops[i]? = some o) (hk : kd o.op = 1) (hr : ∀ w', S w' → Rd P w' env n o v) (hg : o.guard = some (j, want))
    (hj : (ops[j]?).bind (·.dst) = some dj) (hv : look env dj = some (.bool b)) (hb : b = want) (hd : o.dst = some d)
    (hn : Nat.blt d n = true) (h : GR P ops Q n S plan ((d, v) :: env) w) : GR P ops Q n S (i :: plan) env w := fun a ha =>
  ⟨o, ho, by
    rw [if_neg (by rw [hk]; decide)]
    refine ⟨v, .inl ⟨by rw [wanted_of ha hg hj hv, hb]; simp, fun w' hw => hr w' (hw hk) a ha w' (Le.refl w')⟩, ?_⟩
    rw [hd]
    exact h _ (ha.put hn v)⟩
theorem GR.efg {env : Env} {w : World} {i : Nat} {o : Oper} {plan : List Nat} {d j dj : Nat} {b want : Bool} (ho : ops[i]? = some o) (hk : kd o.op = 2) (hg : o.guard = some (j, want))
    (hj : (ops[j]?).bind (·.dst) = some dj) (hv : look env dj = some (.bool b)) (hb : b = want) (hd : o.dst = some d) (hn : Nat.blt d n = true)
    (h : Ef P env n o w fun v w' => ((nS ops i || needR ops plan) = true → S w') ∧ GR P ops Q n S plan ((d, v) :: env) w') : GR P ops Q n S (i :: plan) env w := fun a ha =>
  ⟨o, ho, by
    rw [if_pos hk]
    unfold wpOp
    simp only [ho]
    rw [if_pos (by rw [wanted_of ha hg hj hv, hb]; simp)]
    left
    exact Oper.wp_mono (fun a' w' ⟨v, h1, h2, h3⟩ => ⟨h2, by subst h1; rw [hd]; exact h3 _ (ha.put hn v)⟩) (h a ha)⟩
theorem WC.drawR {env : Env} {w : World} {id : Nat} (S : World → World → Prop) (plan : List Nat) (hm : P.follows .mixedOrders = true) (hp : planSOK ops plan = true)
    (h : ∀ w', Le w w' → S w' w' ∧ GR P ops Q n (S w') plan env w') : WC P Q n (.region id ops true) env w := fun a ha => by
  simp only [planSOK, Bool.and_eq_true, beq_iff_eq] at hp
  obtain ⟨⟨hl, hs⟩, hp⟩ := hp
  obtain ⟨h1, h2⟩ := h _ (Le.drew w)
  have := planR_main hs plan _ a _ (fun _ => h1) (Cl.none _) hp (h2 a ha)
  rw [hl] at this
  refine wp_mono (wp_region_any hm (wpAny_of_C _ _ _ _ this)) ?_
  rintro e a w ⟨rfl, hq⟩
  exact hq
end
end Go.Sx

namespace Go.Sx
open Go Go.RowKit
section
variable {P : Program} {ops : Array Oper} {Q : Exit → Act → World → Prop} {n : Nat} {S : World → Prop}
theorem GS.anyg {env : Env} {w : World} {i : Nat} {o : Oper} {plan : List Nat} {v : Value} {d j dj : Nat} {b want : Bool} (ho : ops[i]? = some o) (hk : kd o.op = 0) (hr : Any P env n o v) (hg : o.guard = some (j, want))
    (hj : (ops[j]?).bind (·.dst) = some dj) (hv : look env dj = some (.bool b)) (hb : b = want) (hd : o.dst = some d)
    (hn : Nat.blt d n = true) (h : GS P ops Q n S plan ((d, v) :: env) w) : GS P ops Q n S (i :: plan) env w := fun a ha =>
  ⟨o, ho, by
    rw [if_neg (by rw [hk]; decide)]
    refine ⟨v, .inl ⟨by rw [wanted_of ha hg hj hv, hb]; simp, fun w' _ => hr a ha w'⟩, ?_⟩
    rw [hd]
    exact h _ (ha.put hn v)⟩
theorem GS.rdg {env : Env} {w : World} {i : Nat} {o : Oper} {plan : List Nat} {v : Value} {d j dj : Nat} {b want : Bool} (ho : ops[i]? = some o) (hk : kd o.op = 1) (hr : ∀ w', S w' → Rd P w' env n o v) (hg : o.guard = some (j, want))
    (hj : (ops[j]?).bind (·.dst) = some dj) (hv : look env dj = some (.bool b)) (hb : b = want) (hd : o.dst = some d)
    (hn : Nat.blt d n = true) (h : GS P ops Q n S plan ((d, v) :: env) w) : GS P ops Q n S (i :: plan) env w := fun a ha =>
  ⟨o, ho, by
    rw [if_neg (by rw [hk]; decide)]
    refine ⟨v, .inl ⟨by rw [wanted_of ha hg hj hv, hb]; simp, fun w' hw => hr w' (hw hk) a ha w' (Le.refl w')⟩, ?_⟩
    rw [hd]
    exact h _ (ha.put hn v)⟩
theorem GS.efg {env : Env} {w : World} {i : Nat} {o : Oper} {plan : List Nat} {d j dj : Nat} {b want : Bool} (ho : ops[i]? = some o) (hk : kd o.op = 2) (hg : o.guard = some (j, want))
    (hj : (ops[j]?).bind (·.dst) = some dj) (hv : look env dj = some (.bool b)) (hb : b = want) (hd : o.dst = some d) (hn : Nat.blt d n = true)
    (h : Ef P env n o w fun v w' => S w' ∧ GS P ops Q n S plan ((d, v) :: env) w') : GS P ops Q n S (i :: plan) env w := fun a ha =>
  ⟨o, ho, by
    rw [if_pos hk]
    unfold wpOp
    simp only [ho]
    rw [if_pos (by rw [wanted_of ha hg hj hv, hb]; simp)]
    left
    exact Oper.wp_mono (fun a' w' ⟨v, h1, h2, h3⟩ => ⟨h2, by subst h1; rw [hd]; exact h3 _ (ha.put hn v)⟩) (h a ha)⟩
end
end Go.Sx

