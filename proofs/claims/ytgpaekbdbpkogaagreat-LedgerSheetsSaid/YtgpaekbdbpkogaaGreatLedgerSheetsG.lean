/- LedgerSheets: for every input the law answers true and leaves its arguments as they were. -/
import Derived.Test.YtgpaekbdbpkogaaGreatLedgerSheetsF
import Derived.Laws.StructEq
set_option linter.unusedVariables false
set_option linter.unusedSimpArgs false
namespace Go.Sx
open Go Go.RowKit
section
variable {P : Program} {w : World}
def Apart (A : Option Addr) (c : Nat) (B : Option Addr) (d : Nat) : Prop := ∀ g, rowOf A c = some g -> rowOf B d ≠ some g
theorem Apart.symm {A B : Option Addr} {c d : Nat} (h : Apart A c B d) : Apart B d A c := fun g h1 h2 => h g h2 h1
theorem Apart.zero (A B : Option Addr) (d : Nat) : Apart A 0 B d := fun g h => by rw [rowOf_zero] at h; cases h
theorem Apart.step {A A' B : Option Addr} {c c' d : Nat} (h : Apart A c B d) (ht : At w A c A' c') (hb : ∀ g, rowOf B d = some g -> g < w.heap.size) : Apart A' c' B d := fun g h1 h2 => by
  rcases ht g h1 with h3 | h3
  · exact h g h3 h2
  · have := hb g h2; omega
theorem Apart.new {A B : Option Addr} {c d g : Nat} (hA : A = some ⟨g, 0, none⟩) (hg : w.heap.size <= g) (hb : ∀ g, rowOf B d = some g -> g < w.heap.size) : Apart A c B d := fun g' h1 h2 => by
  subst hA
  have := rowOf_lit h1
  have := hb g' h2
  omega
def eqAll (xs ys : List Value) : List (IntKind × Nat) -> Bool
  | [] => true
  | (_, o) :: fs => (match xs[o]?, ys[o]? with | some (.int _ a), some (.int _ b) => decide (a = b) | _, _ => false) && eqAll xs ys fs
def FieldsOk (P : Program) (xs ys : List Value) : List Field -> List (IntKind × Nat) -> Prop
  | [], [] => True
  | f :: fs, (k, o) :: ks => f.name ≠ "_" /\ f.offset = o /\ P.underlying f.type = some (.int k) /\ (∃ a b : Int, xs[o]? = some (.int k a) /\ ys[o]? = some (.int k b)) /\ FieldsOk P xs ys fs ks
  | _, _ => False
theorem run_eqFields (d : Nat) (xs ys : List Value) : ∀ (fs : List Field) (ks : List (IntKind × Nat)), FieldsOk P xs ys fs ks -> ∀ w : World, (Op.eqFields (d + 1) xs.toArray ys.toArray fs).run P w = .ok (eqAll xs ys ks) w
  | [], [], _, w => by simp [Op.eqFields, eqAll]
  | f :: fs, (k, o) :: ks, h, w => by
    obtain ⟨h1, h2, h3, ⟨a, b, ha, hb⟩, h4⟩ := h
    have ih := run_eqFields d xs ys fs ks h4 w
    have p1 := run_part1 (P := P) (e := f.type) (xs := xs.toArray) (o := o) (v := .int k a) ⟨_, h3, rfl⟩ (by simpa using ha) w
    have p2 := run_part1 (P := P) (e := f.type) (xs := ys.toArray) (o := o) (v := .int k b) ⟨_, h3, rfl⟩ (by simpa using hb) w
    have p3 := run_equalIn_int (P := P) w d f.type k k a b h3
    simp only [Op.eqFields, eqAll, ha, hb]
    rw [if_pos h1, h2]
    simp only [Sem.run_bind, p1, p2, p3, Result.andThen_ok]
    by_cases hab : a = b
    · subst hab; simp [ih]
    · have : (a == b) = false := by simpa using hab
      simp [this, hab]
  | [], _ :: _, h, _ => h.elim
  | _ :: _, [], h, _ => h.elim
theorem Eqv.ints {d t : Nat} (xs ys : List Value) (ks : List (IntKind × Nat)) (ht : P.underlying t = some (.struct (P.fieldsOf t))) (hp : P.stoodInHeld t = false) (hf : FieldsOk P xs ys (P.fieldsOf t).toList ks) : Eqv P (d + 2) t (.agg xs.toArray) (.agg ys.toArray) (eqAll xs ys ks) := fun w => by
  rw [run_equalIn_struct w (d + 1) t _ _ ht hp]
  exact run_eqFields d xs ys _ ks hf w
end
end Go.Sx

namespace Go.Sx
open Go Go.RowKit
section
variable {P : Program} {env : Env} {n : Nat} {d : Option Nat} {T : TypeId} {p : String} {af : Array Edge} {g : Option (Nat × Bool)} {w w' : World} {K : Value -> World -> Prop} {α : Type}
structure RowF (f : α -> List Value) (s : Nat) : Prop where
  len : ∀ x, (f x).length = s
  one : ∀ x, ∀ v ∈ f x, v.oneCell' = true
  pos : 0 < s
theorem getS {α : Type} (xs : List α) (z : α) {k : Nat} (h : k < xs.length) : xs[k]? = some (xs.getD k z) := by simp [h, List.getD]
theorem ext_getD {α : Type} {xs ys : List α} {z : α} (hl : xs.length = ys.length) (h : ∀ j, j < xs.length -> xs.getD j z = ys.getD j z) : xs = ys := by
  apply List.ext_getElem hl
  intro i h1 h2
  have := h i h1
  simpa [List.getD, h1, h2] using this
theorem cells_at {f : α -> List Value} {s : Nat} (hf : RowF f s) (xs : List α) {j o : Nat} {x : α} {v : Value} (hx : xs[j]? = some x) (hv : (f x)[o]? = some v) : (xs.map f).flatten[j * s + o]? = some v :=
  flat_at (xs.map f) (fun r hr => by obtain ⟨y, _, rfl⟩ := List.mem_map.1 hr; exact hf.len y) j (f x) (by simp [hx]) o v hv
theorem cells_len {f : α -> List Value} {s : Nat} (hf : RowF f s) (xs : List α) : (xs.map f).flatten.length = xs.length * s := by
  rw [flat_length (k := s) _ (fun r hr => by obtain ⟨y, _, rfl⟩ := List.mem_map.1 hr; exact hf.len y), List.length_map]
theorem rows_one {f : α -> List Value} {s : Nat} (hf : RowF f s) (xs : List α) : ∀ v ∈ (xs.map f).flatten, v.oneCell' = true := fun v hv => by
  obtain ⟨r, hr, hv⟩ := List.mem_flatten.1 hv
  obtain ⟨y, _, rfl⟩ := List.mem_map.1 hr
  exact hf.one y v hv
def Vec (w : World) (f : α -> List Value) (s : Nat) (A : Option Addr) (m : Nat) (xs : List α) : Prop := xs.length = m /\ Sl w s A m (xs.map f).flatten
def OVec (w : World) (base e : Nat) (f : α -> List Value) (s : Nat) (A : Option Addr) (m c : Nat) (xs : List α) : Prop := xs.length = m /\ Own w base e s A m c (xs.map f).flatten
variable {f : α -> List Value} {s : Nat} {A : Option Addr} {m c : Nat} {xs : List α} {base e : Nat}
theorem Vec.le (h : Vec w f s A m xs) (hl : Le w w') : Vec w' f s A m xs := ⟨h.1, h.2.le hl⟩
theorem Vec.isSome (h : Vec w f s A m xs) (hf : RowF f s) (hm : 0 < m) : A.isSome = true := h.2.isSome (j := 0) hm hf.pos
theorem Vec.nil (w : World) (f : α -> List Value) (s : Nat) (A : Option Addr) : Vec w f s A 0 [] := ⟨rfl, Sl.nil _ _ _⟩
theorem Vec.rws (h : Vec w f s A m xs) (hf : RowF f s) : Rws w s A m (xs.map f) := ⟨by simp [h.1], fun r hr => by obtain ⟨y, _, rfl⟩ := List.mem_map.1 hr; exact hf.len y, h.2⟩
theorem Rws.vec (h : Rws w s A m (xs.map f)) : Vec w f s A m xs := ⟨by simpa using h.1, h.2.2⟩
theorem flat_sing {g1 : α -> Value} : ∀ xs : List α, (xs.map fun x => [g1 x]).flatten = xs.map g1
  | [] => rfl
  | x :: xs => by simp [flat_sing xs]
theorem Vec.sl {g1 : α -> Value} (h : Vec w (fun x => [g1 x]) 1 A m xs) : Sl w 1 A m (xs.map g1) := by rw [<- flat_sing]; exact h.2
theorem Sl.vec {g1 : α -> Value} (h : Sl w 1 A m (xs.map g1)) : Vec w (fun x => [g1 x]) 1 A m xs := ⟨by have := h.1; simpa using this, by rw [flat_sing]; exact h⟩
theorem Vec.cast {m' : Nat} {ys : List α} (h : Vec w f s A m xs) (hm : m = m') (hx : xs = ys) : Vec w f s A m' ys := by subst hm hx; exact h
theorem OVec.vec (h : OVec w base e f s A m c xs) : Vec w f s A m xs := ⟨h.1, h.2.sl⟩
theorem OVec.le (h : OVec w base e f s A m c xs) (hl : Le w w') : OVec w' base e f s A m c xs := ⟨h.1, h.2.le hl⟩
theorem OVec.ch {r : Option Nat} (h : OVec w base e f s A m c xs) (hc : Ch w w' r) (hne : ∀ g, r = some g -> rowOf A c ≠ some g) : OVec w' base e f s A m c xs := ⟨h.1, h.2.ch hc hne⟩
theorem OVec.row (h : OVec w base e f s A m c xs) {g : Nat} (hg : rowOf A c = some g) : base <= g /\ g < w.heap.size := h.2.row hg
theorem OVec.cap (h : OVec w base e f s A m c xs) : m <= c /\ c <= maxLen := h.2.cap
theorem OVec.mono {base' : Nat} (h : OVec w base e f s A m c xs) (hb : base' <= base) : OVec w base' e f s A m c xs := ⟨h.1, h.2.mono hb⟩
theorem OVec.nil (w : World) (base e : Nat) (f : α -> List Value) (s : Nat) (A : Option Addr) : OVec w base e f s A 0 0 [] := ⟨rfl, Own.nil _ _ _ _ _⟩
theorem OVec.cast {m' : Nat} {ys : List α} (h : OVec w base e f s A m c xs) (hm : m = m') (hx : xs = ys) : OVec w base e f s A m' c ys := by subst hm hx; exact h
theorem OVec.own {g1 : α -> Value} (h : OVec w base e (fun x => [g1 x]) 1 A m c xs) : Own w base e 1 A m c (xs.map g1) := by rw [<- flat_sing]; exact h.2
theorem Own.ovec {g1 : α -> Value} (h : Own w base e 1 A m c (xs.map g1)) : OVec w base e (fun x => [g1 x]) 1 A m c xs := ⟨by have := h.1; simpa using this, by rw [flat_sing]; exact h⟩
theorem Rd.vload {t j : Nat} {x : Operand} {a : α} (hu : IsAgg P t s) (hx : ev env x = some (ptr A (j * s))) (hV : Vec w f s A m xs) (hf : RowF f s) (hj : xs[j]? = some a) : Rd P w env n ⟨d, .load t x, T, p, af, g⟩ (.agg (f a).toArray) :=
  Rd.loadR hu hx (hV.rws hf) (by simp [hj]) hf.pos
theorem Rd.vcell {t j o : Nat} {x : Operand} {a : α} {v : Value} (hu : NotAgg P t) (hx : ev env x = some (ptr A (j * s + o))) (hV : Vec w f s A m xs) (hf : RowF f s) (hj : xs[j]? = some a) (ho : (f a)[o]? = some v) : Rd P w env n ⟨d, .load t x, T, p, af, g⟩ v :=
  Rd.loadS hu hx hV.2 (cells_at hf xs hj ho)
theorem Rd.vone {t j : Nat} {x : Operand} {a : α} {v : Value} (hu : NotAgg P t) (hx : ev env x = some (ptr A (j * s))) (hV : Vec w f s A m xs) (hf : RowF f s) (hj : xs[j]? = some a) (ho : (f a)[0]? = some v) : Rd P w env n ⟨d, .load t x, T, p, af, g⟩ v :=
  Rd.loadS hu hx hV.2 (by have := cells_at hf xs hj ho; simpa using this)
theorem part_at {cs fx : List Value} {o k : Nat} (hc : (fx.drop o).take k = cs) : ∀ i u, cs[i]? = some u -> fx[o + i]? = some u := fun i u hu => by
  rw [<- hc, List.getElem?_take] at hu
  split at hu
  · rwa [List.getElem?_drop] at hu
  · cases hu
theorem Rd.bpart {t o k gb : Nat} {tb : TypeId} {x : Operand} {cells : Array Value} (cs : List Value) (hu : IsAgg P t k) (hk : cs.length = k) (hp : 0 < k) (hx : ev env x = some (.pointer (some ⟨gb, o, none⟩))) (hB : Blk w gb tb cells) (hc : (cells.toList.drop o).take k = cs) :
    Rd P w env n ⟨d, .load t x, T, p, af, g⟩ (.agg cs.toArray) := by
  have hS := hB.sl (s := 1) (n := cells.size) (by omega)
  refine Rd.loadSm (A := some ⟨gb, 0, none⟩) (j := o) cs (by rw [hk]; exact hu) (by rw [hx]; simp [ptr, add_lit]) hS (fun i u hi => part_at hc i u hi) (by omega)
theorem Any.vfield {t i off : Nat} {x : Operand} {j : Nat} (hf : Fat P t i off) (hA : A.isSome = true) (hx : ev env x = some (ptr A j)) : Any P env n ⟨d, .fieldAddr t x i, T, p, af, g⟩ (ptr A (j + off)) := fun a ha w => by
  obtain ⟨fs, f, s, h1, h2, h3, h4, h5⟩ := hf
  obtain ⟨ad, rfl⟩ := Option.isSome_iff_exists.1 hA
  have h6 : ¬ s = 0 := by omega
  simp [execOp, ha.eval hx, Instr.fieldAt, run_underlying h1, h2, Instr.sureAddr, fieldPlace, h4.run, h6, h3, ptr, add_add]
theorem Any.field2 {t i off : Nat} {x : Operand} {gb o : Nat} (hf : Fat P t i off) (hx : ev env x = some (.pointer (some ⟨gb, o, none⟩))) : Any P env n ⟨d, .fieldAddr t x i, T, p, af, g⟩ (.pointer (some ⟨gb, o + off, none⟩)) := Any.fieldAddr hf hx
theorem Vec.cut (h : Vec w f s A m xs) (cap l k : Nat) (hl : l <= k) (hm : k <= m) (hc : m <= cap) (hf : RowF f s) : Vec w f s (cutA A cap l s) (k - l) ((xs.drop l).take (k - l)) := by
  refine ⟨by have := h.1; simp; omega, ?_⟩
  have h2 := h.2.cut cap l k hl hm hc
  have e : (((xs.map f).flatten.drop (l * s)).take ((k - l) * s)) = (((xs.drop l).take (k - l)).map f).flatten := by
    have hd : ∀ (ys : List α) (q : Nat), (ys.map f).flatten.drop (q * s) = ((ys.drop q).map f).flatten := by
      intro ys
      induction ys with
      | nil => intro q; simp
      | cons y ys ih =>
        intro q
        cases q with
        | zero => simp
        | succ q =>
          rw [List.map_cons, List.flatten_cons, List.drop_succ_cons, Nat.succ_mul, Nat.add_comm, <- List.drop_drop, List.drop_left' (hf.len y), ih]
    have ht : ∀ (ys : List α) (q : Nat), (ys.map f).flatten.take (q * s) = ((ys.take q).map f).flatten := by
      intro ys
      induction ys with
      | nil => intro q; simp
      | cons y ys ih =>
        intro q
        cases q with
        | zero => simp
        | succ q =>
          rw [List.map_cons, List.flatten_cons, List.take_succ_cons, List.map_cons, List.flatten_cons, Nat.succ_mul, Nat.add_comm, List.take_add, List.take_left' (hf.len y), List.drop_left' (hf.len y), ih]
    rw [hd, ht]
  rw [e] at h2
  exact h2
theorem Vec.cutL (h : Vec w f s A m xs) (cap l : Nat) (hl : l <= m) (hc : m <= cap) (hf : RowF f s) : Vec w f s (cutA A cap l s) (m - l) (xs.drop l) := by
  have := h.cut cap l m hl (Nat.le_refl _) hc hf
  rwa [List.take_of_length_le (by have := h.1; simp; omega)] at this
theorem Vec.cutH (h : Vec w f s A m xs) (k : Nat) (hk : k <= m) (hf : RowF f s) : Vec w f s A k (xs.take k) := by
  have := h.cut m 0 k (Nat.zero_le _) hk (Nat.le_refl _) hf
  rwa [cutA_zero, Nat.sub_zero, List.drop_zero] at this
theorem Blk.ovec {gb : Nat} {cs : Array Value} (h : Blk w gb e cs) (hb : base <= gb) (hf : RowF f s) (hc : cs.toList = (xs.map f).flatten) (hl : xs.length = m) (hm : m <= maxLen) : OVec w base e f s (some ⟨gb, 0, none⟩) m m xs := by
  refine ⟨hl, ?_⟩
  rw [<- hc]
  exact h.own hb (by rw [<- Array.length_toList, hc, cells_len hf, hl]) hm
theorem Ef.vpush {t tx b : Nat} {z : Value} {x y : Operand} {gb : Nat} {e2 : TypeId} {a : α} (ht : P.underlying t = some (.slice e)) (hel : El P e s b z) (htx : P.underlying tx = some (.slice e2)) (hf : RowF f s) (hx : ev env x = some (.slice A m c)) (hO : OVec w base e f s A m c xs)
    (hy : ev env y = some (.slice (some ⟨gb, 0, none⟩) 1 1)) (hB : Blk w gb e2 (f a).toArray) (hb : (m + 1) * b <= 140737488355328) (hl : m + 1 <= maxLen) (hbase : base <= w.heap.size)
    (h : ∀ A' c' w', OVec w' base e f s A' (m + 1) c' (xs ++ [a]) -> Ch w w' (rowOf A c) -> At w A c A' c' -> K (.slice A' (m + 1) c') w') :
    Ef P env n ⟨d, .call ⟨.builtin .append, #[x, y], #[t, tx]⟩, T, p, af, g⟩ w K :=
  Ef.append ht hel hx hO.2 hy (hB.srcA htx (by simpa using hf.len a) hf.pos (by simpa using hf.one a)) hb hl hbase (fun A' c' w' h1 h2 h3 => h A' c' w' ⟨by simp [hO.1], by simpa using h1⟩ h2 h3)
theorem Ef.vcat {t tx b : Nat} {z : Value} {x y : Operand} {e2 : TypeId} {B : Option Addr} {k c2 : Nat} {ys : List α} (ht : P.underlying t = some (.slice e)) (hel : El P e s b z) (htx : P.underlying tx = some (.slice e2)) (hf : RowF f s) (hx : ev env x = some (.slice A m c)) (hO : OVec w base e f s A m c xs)
    (hy : ev env y = some (.slice B k c2)) (hB : Vec w f s B k ys) (hb : (m + k) * b <= 140737488355328) (hl : m + k <= maxLen) (hbase : base <= w.heap.size)
    (h : ∀ A' c' w', OVec w' base e f s A' (m + k) c' (xs ++ ys) -> Ch w w' (rowOf A c) -> At w A c A' c' -> K (.slice A' (m + k) c') w') :
    Ef P env n ⟨d, .call ⟨.builtin .append, #[x, y], #[t, tx]⟩, T, p, af, g⟩ w K :=
  Ef.append ht hel hx hO.2 hy (hB.2.src htx hf.pos c2 (rows_one hf ys)) hb hl hbase (fun A' c' w' h1 h2 h3 => h A' c' w' ⟨by simp [hO.1, hB.1], by simpa using h1⟩ h2 h3)
theorem made_rows (z : α) (hf : RowF f s) (cs : Array Value) (hz : cs.toList = f z) : ∀ k : Nat, (madeCells cs (k * s)).toList = ((List.replicate k z).map f).flatten := by
  intro k
  have hlen : (madeCells cs (k * s)).toList.length = ((List.replicate k z).map f).flatten.length := by rw [cells_len hf, List.length_replicate]; simp [madeCells]
  apply List.ext_getElem? 
  intro i
  by_cases hi : i < k * s
  · have hsz : cs.size = s := by rw [<- Array.length_toList, hz, hf.len]
    have hm : i % s < s := Nat.mod_lt _ hf.pos
    have hx : (List.replicate k z)[i / s]? = some z := by
      have : i / s < k := by rw [Nat.div_lt_iff_lt_mul hf.pos]; exact hi
      simp [List.getElem?_replicate, this]
    have hv : (f z)[i % s]? = some ((f z)[i % s]'(by rw [hf.len]; exact hm)) := List.getElem?_eq_getElem _
    have h1 := cells_at hf (List.replicate k z) hx hv
    rw [Nat.mul_comm, Nat.div_add_mod] at h1
    rw [h1]
    have h2 : cs.size ≠ 0 := by have := hf.pos; omega
    have : (madeCells cs (k * s)).toList[i]? = cs[i % cs.size]? := by
      simp [madeCells, hi]
      rw [Array.getElem?_eq_getElem (by rw [hsz]; exact hm)]
      simp [Array.getElem!_eq_getD, Array.getD_eq_getD_getElem?, Array.getElem?_eq_getElem (show i % cs.size < cs.size by rw [hsz]; exact hm)]
    rw [this, hsz, <- Array.getElem?_toList, hz]
    exact hv
  · rw [List.getElem?_eq_none (by simp [madeCells]; omega), List.getElem?_eq_none (by rw [<- hlen]; simp [madeCells]; omega)]
theorem Ef.vmake {t b : Nat} {zv : Value} {x y : Operand} {k k' : IntKind} {i i' : Int} (z : α) (m : Nat) (ht : P.underlying t = some (.slice e)) (hel : El P e s b zv) (hf : RowF f s) (hz : zv.cells.toList = f z) (hx : ev env x = some (.int k i)) (hi : i = (m : Int)) (hy : ev env y = some (.int k' i')) (hi' : i' = (m : Int))
    (hb : m * b <= 140737488355328) (hc : m <= maxLen) (h : ∀ gb w', w.heap.size <= gb -> OVec w' w.heap.size e f s (some ⟨gb, 0, none⟩) m m (List.replicate m z) -> Le w w' -> K (.slice (some ⟨gb, 0, none⟩) m m) w') :
    Ef P env n ⟨d, .makeSlice t x y, T, p, af, g⟩ w K :=
  Ef.makeSlice m m ht hel hx hi hy hi' (Nat.le_refl _) hb hc (fun gb w' h1 h2 h3 => h gb w' h1 (h2.ovec h1 hf (made_rows z hf _ hz m) (by simp) hc) h3)
theorem flat_set {s : Nat} {f : α -> List Value} (hf : RowF f s) : ∀ (xs : List α) (j o : Nat) (a b : α) (v : Value), xs[j]? = some a -> o < s -> f b = (f a).set o v -> ((xs.set j b).map f).flatten = (xs.map f).flatten.set (j * s + o) v
  | [], j, o, a, b, v, h, _, _ => by simp at h
  | x :: xs, 0, o, a, b, v, h, ho, hb => by
    simp at h
    subst h
    simp only [List.set_cons_zero, List.map_cons, List.flatten_cons, Nat.zero_mul, Nat.zero_add]
    rw [List.set_append_left _ _ (by rw [hf.len]; exact ho), hb]
  | x :: xs, j + 1, o, a, b, v, h, ho, hb => by
    simp only [List.set_cons_succ, List.map_cons, List.flatten_cons]
    rw [flat_set hf xs j o a b v (by simpa using h) ho hb, List.set_append_right _ _ (by rw [hf.len, Nat.succ_mul]; omega), hf.len]
    congr 2
    rw [Nat.succ_mul]; omega
theorem Own.setA {e : Nat} {gb k c : Nat} {ys : List Value} (h : Own w base e s (some ⟨gb, 0, none⟩) k c ys) (hk : 0 < k) (j : Nat) (hj : j < k * s) (u : Value) : Own (w.setCell ⟨gb, j, none⟩ u) base e s (some ⟨gb, 0, none⟩) k c (ys.set j u) := by
  rcases h.2 with ⟨rfl, _⟩ | ⟨g', cur, hv, hb, hg, hnc, hcm, hcs, htake⟩
  · omega
  · injection hv with hA
    injection hA with hA
    subst hA
    refine ⟨by simpa using h.1, .inr ⟨gb, cur.setIfInBounds j u, rfl, hb, heap_setCell_same w gb j cur e u hg, hnc, hcm, by simpa using hcs, ?_⟩⟩
    rw [Array.toList_setIfInBounds, List.take_set, htake]
theorem Ef.vset {t j o q : Nat} {x y : Operand} {a : α} {v : Value} (b : α) (hs : Sz P t 1) (hx : ev env x = some (ptr A q)) (hq : q = j * s + o) (hy : ev env y = some v) (hO : OVec w base e f s A m c xs) (hf : RowF f s) (hj : xs[j]? = some a) (ho : o < s) (hb : f b = (f a).set o v) (hv : v.oneCell' = true)
    (h : ∀ w', OVec w' base e f s A m c (xs.set j b) -> Ch w w' (rowOf A c) -> K undef w') : Ef P env n ⟨d, .store t x y, T, p, af, g⟩ w K := by
  subst hq
  have hjl : j < m := by rw [<- hO.1]; exact (List.getElem?_eq_some_iff.1 hj).1
  obtain ⟨gb, rfl, hbg, hlt, hrow⟩ := hO.2.lit (by omega)
  obtain ⟨cur, hB, hcs, _⟩ := hO.2.block (by omega)
  have hcap := hO.2.cap
  have hjs : j * s + o < m * s := by
    have : (j + 1) * s <= m * s := Nat.mul_le_mul_right _ hjl
    rw [Nat.succ_mul] at this
    omega
  have hin : j * s + o < cur.size := by rw [hcs]; exact Nat.lt_of_lt_of_le hjs (Nat.mul_le_mul_right _ hcap.1)
  have hr := run_storeVar1 (P := P) hs hB (j := j * s + o) hin hv
  refine .of_runU (w' := w.setCell ⟨gb, j * s + o, none⟩ v) (fun a' ha => by simp [execOp, ha.eval hx, ha.eval hy, ptr, add_lit, Instr.storeAt, Instr.sureAddr, hr]) (h _ ⟨by simp [hO.1], ?_⟩ (by rw [hrow]; exact Ch.setCell w gb (j * s + o) v))
  rw [flat_set hf xs j o a b v hj ho hb]
  exact hO.2.setA (by omega) _ hjs v
theorem flat_put {s : Nat} {f : α -> List Value} (hf : RowF f s) : ∀ (xs : List α) (j : Nat) (b : α), j < xs.length -> ((xs.set j b).map f).flatten = (xs.map f).flatten.take (j * s) ++ f b ++ (xs.map f).flatten.drop (j * s + (f b).length)
  | [], j, b, h => by simp at h
  | x :: xs, 0, b, h => by
    simp only [List.set_cons_zero, List.map_cons, List.flatten_cons, Nat.zero_mul, Nat.zero_add, List.take_zero, List.nil_append]
    rw [List.drop_left' (by rw [hf.len, hf.len])]
  | x :: xs, j + 1, b, h => by
    simp only [List.set_cons_succ, List.map_cons, List.flatten_cons]
    rw [flat_put hf xs j b (by simpa using h), Nat.succ_mul, Nat.add_comm (j * s) s, List.take_add, List.take_left' (hf.len x), List.drop_left' (hf.len x), Nat.add_assoc, <- List.drop_drop (l := f x ++ _), List.drop_left' (hf.len x)]
    simp
theorem Ef.vput {t j q : Nat} {x y : Operand} (b : α) (hs : Sz P t s) (hx : ev env x = some (ptr A q)) (hq : q = j * s) (hy : ev env y = some (.agg (f b).toArray)) (hO : OVec w base e f s A m c xs) (hf : RowF f s) (hj : j < m)
    (h : ∀ w', OVec w' base e f s A m c (xs.set j b) -> Ch w w' (rowOf A c) -> K undef w') : Ef P env n ⟨d, .store t x y, T, p, af, g⟩ w K := by
  subst hq
  obtain ⟨gb, rfl, hbg, hlt, hrow⟩ := hO.2.lit (by omega)
  obtain ⟨cur, hB, hcs, htake⟩ := hO.2.block (by omega)
  have hcap := hO.2.cap
  have hlb : (f b).length = s := hf.len b
  have hjs : j * s + s <= m * s := by rw [<- Nat.succ_mul]; exact Nat.mul_le_mul_right _ hj
  have hms : m * s <= cur.size := by rw [hcs]; exact Nat.mul_le_mul_right _ hcap.1
  have hst := run_storeCells_at P gb (j * s) e (f b) 0 cur w hB (by simp; omega) (hf.one b)
  simp only [Nat.add_zero] at hst
  refine .of_runU (w' := w.setRow gb (cur.toList.take (j * s) ++ f b ++ cur.toList.drop (j * s + (f b).length)).toArray) (fun a' ha => by
    simp [execOp, ha.eval hx, ha.eval hy, ptr, add_lit, Instr.storeAt, Instr.sureAddr, storeVar, hs.run, Value.cells, hlb]
    simp only [hlb] at hst
    simp [hst]) (h _ ⟨by simp [hO.1], ?_⟩ (by rw [hrow]; exact ⟨rfl, rfl, rfl, by simp, fun k _ hk => setRow_other w gb k _ (fun e => hk (by simp [e]))⟩))
  refine ⟨by rw [cells_len hf]; simp [hO.1], .inr ⟨gb, _, rfl, hbg, setRow_heap w gb cur _ e (0, 0) hB, hcap.1, hcap.2, ?_, ?_⟩⟩
  · simp; omega
  · rw [flat_put hf xs j b (by rw [hO.1]; exact hj), <- htake]
    simp only [List.take_take, Nat.min_eq_left (show j * s <= m * s by omega)]
    rw [List.take_append, List.length_append, List.length_take, Array.length_toList, Nat.min_eq_left (by omega), hlb, List.take_of_length_le (by simp; omega), List.drop_take]
def puts (pl : List (Nat × Nat)) : List Value -> List (Nat × Value) -> Option (List Value)
  | zs, [] => some zs
  | zs, (i, v) :: rest => match pl[i]? with
    | none => none
    | some (off, size) => match Nat.beq v.cells.toList.length size && Nat.ble (off + size) zs.length with
      | true => puts pl (zs.take off ++ v.cells.toList ++ zs.drop (off + size)) rest
      | false => none
theorem fill_puts (pl : List (Nat × Nat)) : ∀ (vs : List (Nat × Value)) (zs cs : List Value), puts pl zs vs = some cs -> Instr.fill (pl.toArray[·]?) zs.toArray vs = some cs.toArray
  | [], zs, cs, h => by simp [puts] at h; subst h; rfl
  | (i, v) :: rest, zs, cs, h => by
    rw [puts] at h
    split at h
    · cases h
    · rename_i off size hpl
      split at h
      · rename_i hb
        rw [Bool.and_eq_true] at hb
        have h1 : v.cells.toList.length = size := Nat.eq_of_beq_eq_true hb.1
        have h2 : off + size <= zs.length := Nat.le_of_ble_eq_true hb.2
        have ih := fill_puts pl rest _ cs h
        have hs : v.cells.size = size := by simpa using h1
        rw [Instr.fill]
        have hpl' : pl.toArray[i]? = some (off, size) := by simpa using hpl
        simp only [hpl']
        rw [if_neg (by simp [hs]; omega)]
        have hf := foldl_cells v.cells.toList 0 off (zs.take off) (zs.drop off) (by simp; omega) (by simp; omega)
        rw [List.take_append_drop] at hf
        have hf' : Array.foldl (fun cs x => match x with | (c, j) => cs.setIfInBounds (off + j) c) zs.toArray v.cells.zipIdx = (zs.take off ++ v.cells.toList ++ (zs.drop off).drop v.cells.toList.length).toArray := by
          rw [<- hf, <- Array.foldl_toList]; simp
        rw [hf', List.drop_drop, h1]
        exact ih
      · cases h
theorem Any.buildP {t : Nat} {z : Value} {pl : List (Nat × Nat)} {parts : Array (Nat × Operand)} {vs : List (Nat × Value)} (cs : List Value) (hu : Pls P t pl) (hz : Zr P t z) (hp : evp env parts.toList = some vs) (hf : puts pl z.cells.toList vs = some cs) : Any P env n ⟨d, .build t parts, T, p, af, g⟩ (.agg cs.toArray) :=
  Any.buildF hu hz hp (by have := fill_puts pl vs _ cs hf; simpa using this)
def FieldsEq (P : Program) (d : Nat) (xs ys : Array Value) : List Field -> List (Nat × Value × Value × Bool) -> Prop
  | [], [] => True
  | f :: fs, (o, u, v, b) :: ks => f.name ≠ "_" /\ f.offset = o /\ (∀ w : World, (part f.type xs o).run P w = .ok u w) /\ (∀ w : World, (part f.type ys o).run P w = .ok v w) /\ Eqv P d f.type u v b /\ FieldsEq P d xs ys fs ks
  | _, _ => False
theorem run_eqFields2 (d : Nat) (xs ys : Array Value) : ∀ (fs : List Field) (ks : List (Nat × Value × Value × Bool)), FieldsEq P d xs ys fs ks -> ∀ w : World, (Op.eqFields d xs ys fs).run P w = .ok (ks.all fun k => k.2.2.2) w
  | [], [], _, w => by simp [Op.eqFields]
  | f :: fs, (o, u, v, b) :: ks, h, w => by
    obtain ⟨h1, h2, h3, h4, h5, h6⟩ := h
    have ih := run_eqFields2 d xs ys fs ks h6 w
    simp only [Op.eqFields]
    rw [if_pos h1, h2]
    simp only [Sem.run_bind, h3, h4, Result.andThen_ok, h5 w]
    cases b <;> simp [ih]
  | [], _ :: _, h, _ => h.elim
  | _ :: _, [], h, _ => h.elim
theorem Eqv.struct {d t : Nat} (xs ys : Array Value) (ks : List (Nat × Value × Value × Bool)) (ht : P.underlying t = some (.struct (P.fieldsOf t))) (hp : P.stoodInHeld t = false) (hf : FieldsEq P d xs ys (P.fieldsOf t).toList ks) : Eqv P (d + 1) t (.agg xs) (.agg ys) (ks.all fun k => k.2.2.2) := fun w => by
  rw [run_equalIn_struct w d t _ _ ht hp]
  exact run_eqFields2 d xs ys _ ks hf w
theorem Rd.max2 {t T0 : TypeId} {x y : Operand} {a b : Int} (hx : ev env x = some (.int .i64 a)) (hy : ev env y = some (.int .i64 b)) : Rd P w env n ⟨d, .call ⟨.builtin .max, #[x, y], #[t, T0]⟩, T, p, af, g⟩ (.int .i64 (max a b)) := fun ac ha w' _ => by
  simp [execOp, resolve, invoke, builtin, Builtin.max_, Builtin.max2, ha.eval hx, ha.eval hy]
  split <;> omega
def ResIs (P : Program) (w : World) (env : Env) : ResultVar -> Value -> Prop
  | .tmp t, v => look env t = some v
  | .cell t ty, v => ∃ ad, look env t = some (.pointer (some ad)) /\ (loadVar ty ad).run P w = .ok v w
theorem resA {t ty sz gb : Nat} {tb : TypeId} {cs : Array Value} (hv : look env t = some (.pointer (some ⟨gb, 0, none⟩))) (hB : Blk w gb tb cs) (hu : IsAgg P ty sz) (hs : cs.size = sz) : ResIs P w env (.cell t ty) (.agg cs) := by
  subst hs
  obtain ⟨dd, h1, h2, h3⟩ := hu
  exact ⟨_, hv, run_loadVar_row (P := P) w gb tb ty cs (0, 0) dd hB h1 (by cases dd <;> simp_all) h3⟩
def resOne (tmps : Array Value) : ResultVar -> Sem Value
  | .tmp t => pure (tmps.getD t undef)
  | .cell a t => do loadVar t (<- asAddr (tmps.getD a undef))
theorem ResIs.run {r : ResultVar} {v : Value} {a : Act} (h : ResIs P w env r v) (ha : Rep a n env) : (resOne a.tmps r).run P w = .ok v w := by
  cases r with
  | tmp t => simp [resOne, ha.2.2 t v h]
  | cell t ty => obtain ⟨ad, h1, h2⟩ := h; simp [resOne, ha.2.2 t _ h1, asAddr, h2]
theorem results_one (fn : Func) (tmps : Array Value) : results fn tmps = (do let vs <- fn.results.mapM (resOne tmps); pure (if h : vs.size = 1 then vs[0] else .tuple vs)) := by
  unfold results
  congr 1
theorem E.retG1 {fn : Func} {R : Ending -> World -> Prop} {r1 : ResultVar} {v1 : Value} (hr : fn.results = #[r1]) (h1 : ResIs P w env r1 v1) (h : R (.returned v1) w) : E (bodyPost P fn R) n .ret env w := fun a ha =>
  bodyPost_ret (v := v1) (by rw [results_one, hr]; simp [h1.run ha]) ha.1 h
theorem E.retG2 {fn : Func} {R : Ending -> World -> Prop} {r1 r2 : ResultVar} {v1 v2 : Value} (hr : fn.results = #[r1, r2]) (h1 : ResIs P w env r1 v1) (h2 : ResIs P w env r2 v2) (h : R (.returned (.tuple #[v1, v2])) w) : E (bodyPost P fn R) n .ret env w := fun a ha =>
  bodyPost_ret (v := .tuple #[v1, v2]) (by rw [results_one, hr]; simp [h1.run ha, h2.run ha]) ha.1 h
theorem E.retG3 {fn : Func} {R : Ending -> World -> Prop} {r1 r2 r3 : ResultVar} {v1 v2 v3 : Value} (hr : fn.results = #[r1, r2, r3]) (h1 : ResIs P w env r1 v1) (h2 : ResIs P w env r2 v2) (h3 : ResIs P w env r3 v3) (h : R (.returned (.tuple #[v1, v2, v3])) w) : E (bodyPost P fn R) n .ret env w := fun a ha =>
  bodyPost_ret (v := .tuple #[v1, v2, v3]) (by rw [results_one, hr]; simp [h1.run ha, h2.run ha, h3.run ha]) ha.1 h
variable {Q : Exit -> Act -> World -> Prop}
theorem WC.condY {cnd : Operand} {x y : Code} {b : Bool} (hc : ev env cnd = some (.bool b)) (hb : b = true) (ht : WC P Q n x env w) : WC P Q n (.cond cnd x y) env w := .condT (by rw [hc, hb]) ht
theorem WC.condN {cnd : Operand} {x y : Code} {b : Bool} (hc : ev env cnd = some (.bool b)) (hb : b = false) (hf : WC P Q n y env w) : WC P Q n (.cond cnd x y) env w := .condF (by rw [hc, hb]) hf
end
end Go.Sx

namespace Go.Proofs.YtgpaekbdbpkogaaGreat
open Go Go.Sx
def iv (x : Int) : List Value := [.int .i64 x]
theorem iv_row : RowF iv 1 := ⟨fun _ => rfl, fun x v hv => by simp [iv] at hv; subst hv; rfl, by decide⟩
def pv (k : Nat) : Value := .int .u64 (k : Nat)
def pv1 (x : Nat) : List Value := [pv x]
theorem pv1_row : RowF pv1 1 := ⟨fun _ => rfl, fun x v hv => by simp [pv1] at hv; subst hv; rfl, by decide⟩
def byteV (b : BitVec 8) : List Value := [u8v b]
theorem byteV_row : RowF byteV 1 := ⟨fun _ => rfl, fun x v hv => by simp [byteV] at hv; subst hv; rfl, by decide⟩
theorem byte_flat (l : List (BitVec 8)) : (l.map byteV).flatten = l.map u8v := by
  induction l with
  | nil => rfl
  | cons a l ih => simp [byteV, ih]
theorem byte_ovec {w : World} {base e : Nat} {A : Option Addr} {n c : Nat} {xs : List (BitVec 8)} (h : Sx.Own w base e 1 A n c (xs.map u8v)) : OVec w base e byteV 1 A n c xs := ⟨by have := h.1; simpa using this, by rw [byte_flat]; exact h⟩
theorem byte_sb {w : World} {A : Option Addr} {n : Nat} {xs : List (BitVec 8)} (h : Vec w byteV 1 A n xs) : Sb w A n xs := by
  have := h.2
  rw [byte_flat] at this
  exact this
end Go.Proofs.YtgpaekbdbpkogaaGreat

namespace Go.Sx
open Go Go.RowKit
section
variable {P : Program} {env : Env} {n : Nat} {d : Option Nat} {T : TypeId} {p : String} {af : Array Edge} {g : Option (Nat × Bool)} {w w' : World} {K : Value -> World -> Prop} {α : Type}
theorem flat_takeF {f : α -> List Value} {s : Nat} (hf : RowF f s) : ∀ (l : List α) (j : Nat), ((l.take j).map f).flatten = (l.map f).flatten.take (j * s)
  | [], j => by simp
  | a :: l, 0 => by simp
  | a :: l, j + 1 => by
    have hl := hf.len a
    simp only [List.take_succ_cons, List.map_cons, List.flatten_cons, flat_takeF hf l j]
    have h1 : (f a).length <= (j + 1) * s := by rw [hl, Nat.succ_mul]; omega
    rw [List.take_append, List.take_of_length_le h1, hl, Nat.succ_mul, Nat.add_sub_cancel]
theorem OVec.front {e m c base s : Nat} {A : Option Addr} {xs : List α} {f : α -> List Value} (h : OVec w base e f s A m c xs) (l : Nat) (hl : l <= m) (hf : RowF f s) : OVec w base e f s A l c (xs.take l) := by
  refine ⟨by have := h.1; simp; omega, ?_⟩
  rw [flat_takeF hf]; exact h.2.front l hl
end
end Go.Sx

namespace Go.Sx
open Go Go.RowKit
section
variable {P : Program} {env : Env} {n : Nat} {d : Option Nat} {T : TypeId} {p : String} {af : Array Edge} {g : Option (Nat × Bool)} {w w' : World} {K : Value -> World -> Prop}
theorem Ef.storePart {t sz : TypeId} {x y : Operand} {gb o : Nat} {tb : TypeId} {cs : Array Value} {vs : Array Value} (cs2 : List Value) (hs : Sz P t sz) (hsz : vs.size = sz) (hx : ev env x = some (.pointer (some ⟨gb, o, none⟩))) (hy : ev env y = some (.agg vs)) (hB : Blk w gb tb cs) (hl : o + vs.size <= cs.size)
    (hv : ∀ v ∈ vs.toList, v.oneCell' = true) (hc : cs.toList.take o ++ vs.toList ++ cs.toList.drop (o + vs.size) = cs2) (h : ∀ w', Blk w' gb tb cs2.toArray -> Ch w w' (some gb) -> K undef w') : Ef P env n ⟨d, .store t x y, T, p, af, g⟩ w K :=
  .of_runU (w' := w.setRow gb cs2.toArray) (fun a ha => by
    subst hsz
    have hst := run_storeCells_at P gb o tb vs.toList 0 cs w hB (by simpa using hl) hv
    have e1 : (cs.toList.take (o + 0) ++ vs.toList ++ cs.toList.drop (o + 0 + vs.toList.length)).toArray = cs2.toArray := by
      rw [Nat.add_zero, Array.length_toList, hc]
    rw [e1] at hst
    simp [execOp, ha.eval hx, ha.eval hy, Instr.storeAt, Instr.sureAddr, storeVar, hs.run, Value.cells, hst])
    (h _ (setRow_heap w gb cs cs2.toArray tb (0, 0) hB) ⟨rfl, rfl, rfl, by simp, fun k _ hk => setRow_other w gb k cs2.toArray (fun e => hk (by simp [e]))⟩)
end
end Go.Sx

