/- Equality of composite values; converted slices; closures; further operations. No program in sight. -/
import Derived.Test.YtfgakofjkldcjaaSxd
namespace Go.Sx
open Go Go.RowKit
section
variable {P : Program}

/-- Two values of a type are compared, in whatever world. -/
def Eqv (P : Program) (d : Nat) (t : TypeId) (x y : Value) (b : Bool) : Prop := ∀ w : World, (Op.equalIn d t x y).run P w = .ok b w
theorem Eqv.int {d : Nat} {t : TypeId} {k : IntKind} (a b : Int) (h : P.underlying t = some (.int k)) : Eqv P (d + 1) t (.int k a) (.int k b) (decide (a = b)) := fun w => by
  rw [run_equalIn_int w d t k k a b h]; rfl
theorem Eqv.bool {d : Nat} {t : TypeId} (a b : Bool) (h : P.underlying t = some .bool) : Eqv P (d + 1) t (.bool a) (.bool b) (a == b) := fun w => run_equalIn_bool w d t a b h
theorem Eqv.u8 {d : Nat} {t : TypeId} (a b : BitVec 8) (h : P.underlying t = some (.int .u8)) : Eqv P (d + 1) t (u8v a) (u8v b) (decide (a = b)) := fun w => by
  have := Eqv.int (d := d) (a.toNat : Int) (b.toNat : Int) h w
  rw [show decide ((a.toNat : Int) = (b.toNat : Int)) = decide (a = b) from decide_eq_decide.2 ⟨fun h => BitVec.eq_of_toNat_eq (by omega), fun h => by rw [h]⟩] at this
  exact this

theorem run_loop_all (body : Nat → Sem Bool) (r : Nat → Bool) : ∀ (l : List Nat) (w : World), (∀ i ∈ l, ∀ w, (body i).run P w = .ok (r i) w) →
    (forIn (m := Sem) l ((none, ()) : Option Bool × Unit) fun i _ => do
      let q ← body i
      if (!q) = true then pure (ForInStep.done (some false, ())) else pure (ForInStep.yield (none, ()))).run P w = .ok (if l.all r then (none, ()) else (some false, ())) w
  | [], w, _ => by simp
  | i :: l, w, h => by
    have ih := run_loop_all body r l w (fun j hj => h j (by simp [hj]))
    simp only [List.forIn_cons, Sem.run_bind, h i (by simp) w, Result.andThen_ok]
    cases hr : r i
    · simp [hr]
    · simp only [Bool.not_true, Bool.false_eq_true, if_false, Sem.run_pure, Result.andThen_ok, List.all_cons, hr, Bool.true_and]
      exact ih

theorem Eqv.arr {d t e len s : Nat} {xs ys : Array Value} (r : Nat → Bool) (a b : Nat → Value) (hu : P.underlying t = some (.array len e)) (hs : Sz P e s) (ha : ∀ i, i < len → ∀ w, (part e xs (i * s)).run P w = .ok (a i) w)
    (hb : ∀ i, i < len → ∀ w, (part e ys (i * s)).run P w = .ok (b i) w) (hr : ∀ i, i < len → Eqv P d e (a i) (b i) (r i)) : Eqv P (d + 1) t (.agg xs) (.agg ys) ((List.range len).all r) := fun w => by
  simp only [Op.equalIn, Sem.run_bind, run_underlying hu, Result.andThen_ok, hs.run, Std.Legacy.Range.forIn_eq_forIn_range']
  have h := run_loop_all (P := P) (fun i => do let x ← part e xs (i * s); let y ← part e ys (i * s); Op.equalIn d e x y) r (List.range len) w (fun i hi w => by
    have hi' : i < len := by simpa using hi
    simp [ha i hi' w, hb i hi' w, hr i hi' w])
  have e1 : List.range' ([:len] : Std.Legacy.Range).start ([:len] : Std.Legacy.Range).size ([:len] : Std.Legacy.Range).step = List.range len := by
    simp [Std.Legacy.Range.size, List.range_eq_range']
  rw [e1]
  have h' : (forIn (m := Sem) (List.range len) ((none, ()) : Option Bool × Unit) fun i _ => do
      let x ← part e xs (i * s)
      let y ← part e ys (i * s)
      let q ← Op.equalIn d e x y
      if (!q) = true then pure (ForInStep.done (some false, ())) else pure (ForInStep.yield (none, ()))).run P w = .ok (if (List.range len).all r then (none, ()) else (some false, ())) w := by
    rw [← h]
    congr 2
    funext i _
    simp only [bind_assoc]
  rw [h']
  cases (List.range len).all r <;> simp
theorem run_part1 {e : Nat} {xs : Array Value} {o : Nat} {v : Value} (he : NotAgg P e) (hv : xs[o]? = some v) (w : World) : (part e xs o).run P w = .ok v w := by simp [part, he.run, hv]
theorem all_range_eq (xs ys : List (BitVec 8)) (len : Nat) (hx : xs.length = len) (hy : ys.length = len) : ((List.range len).all fun i => decide (xs.getD i 0 = ys.getD i 0)) = decide (xs = ys) := by
  rw [Bool.eq_iff_iff]
  simp only [List.all_eq_true, List.mem_range, decide_eq_true_eq]
  constructor
  · intro h
    apply List.ext_getElem (by omega)
    intro i h1 h2
    have := h i (by omega)
    simpa [List.getD, h1, h2] using this
  · rintro rfl i _; rfl
theorem Eqv.bytes {d t e len : Nat} (xs ys : List (BitVec 8)) (hu : P.underlying t = some (.array len e)) (hs : Sz P e 1) (he : P.underlying e = some (.int .u8)) (hx : xs.length = len) (hy : ys.length = len) :
    Eqv P (d + 2) t (.agg (xs.map u8v).toArray) (.agg (ys.map u8v).toArray) (decide (xs = ys)) := by
  rw [← all_range_eq xs ys len hx hy]
  have hna : NotAgg P e := ⟨_, he, rfl⟩
  exact Eqv.arr _ (fun i => u8v (xs.getD i 0)) (fun i => u8v (ys.getD i 0)) hu hs (fun i hi w => run_part1 hna (by rw [Nat.mul_one]; exact getbA xs (by omega)) w) (fun i hi w => run_part1 hna (by rw [Nat.mul_one]; exact getbA ys (by omega)) w)
    (fun i _ => Eqv.u8 _ _ he)

variable {env : Env} {n : Nat} {d : Option Nat} {T : TypeId} {p : String} {af : Array Edge} {g : Option (Nat × Bool)} {w : World} {K : Value → World → Prop}
theorem Any.eqA {t ty : TypeId} {x y : Operand} {xs ys : Array Value} {b : Bool} (hm : P.eqGuardType P.depth t = false) (hx : ev env x = some (.agg xs)) (hy : ev env y = some (.agg ys)) (hb : Eqv P 10000 t (.agg xs) (.agg ys) b) :
    Any P env n ⟨d, .binOp .eql t x y ty, T, p, af, g⟩ (.bool b) := .bin hx hy (fun w => run_eqGuard_agg w .eql t x y xs ys hm) fun w => by rw [run_eql_struct, hb w]; rfl
theorem Any.neA {t ty : TypeId} {x y : Operand} {xs ys : Array Value} {b : Bool} (hm : P.eqGuardType P.depth t = false) (hx : ev env x = some (.agg xs)) (hy : ev env y = some (.agg ys)) (hb : Eqv P 10000 t (.agg xs) (.agg ys) b) :
    Any P env n ⟨d, .binOp .neq t x y ty, T, p, af, g⟩ (.bool (!b)) := .bin hx hy (fun w => run_eqGuard_agg w .neq t x y xs ys hm) fun w => by rw [run_neq_struct, hb w]; rfl

/-- A test whose outcome is known. -/
theorem Any.dec {o : Oper} {b v : Bool} (h : Any P env n o (.bool b)) (hb : b = v) : Any P env n o (.bool v) := hb ▸ h
theorem Rd.dec {o : Oper} {b v : Bool} (h : Rd P w env n o (.bool b)) (hb : b = v) : Rd P w env n o (.bool v) := hb ▸ h
theorem ptr_zero (A : Option Addr) : ptr A 0 = .pointer A := by cases A <;> simp [ptr, Addr.add]
theorem Any.arrPtr {t e k : Nat} {x : Operand} {A : Option Addr} {len cap : Nat} (hu : P.underlying t = some (.array k e)) (hx : ev env x = some (.slice A len cap)) (hk : k ≤ len) : Any P env n ⟨d, .sliceToArrayPointer t x, T, p, af, g⟩ (ptr A 0) := fun a ha w => by
  rw [ptr_zero]
  have : ¬ len < k := by omega
  simp [execOp, ha.eval hx, Instr.arrayAt, run_underlying hu, this]
/-- A whole array of bytes out of the head of a slice. -/
theorem Rd.loadSb {t : TypeId} {x : Operand} {A : Option Addr} {m k : Nat} {ys : List (BitVec 8)} (hu : IsAgg P t k) (hx : ev env x = some (ptr A 0)) (hS : Sb w A m ys) (hk : k ≤ m) (hp : 0 < k) :
    Rd P w env n ⟨d, .load t x, T, p, af, g⟩ (.agg ((ys.take k).map u8v).toArray) := by
  have hl : ((ys.take k).map u8v).length = k := by rw [List.length_map, List.length_take, hS.len]; omega
  refine Rd.loadSm ((ys.take k).map u8v) (by rw [hl]; exact hu) hx hS (fun i u hu => ?_) (by omega)
  rw [Nat.zero_add]
  rw [List.map_take, List.getElem?_take] at hu
  split at hu
  · exact hu
  · cases hu
theorem Ef.buildSliceN {t e b len : Nat} {z : Value} {parts : Array (Nat × Operand)} (vs : List Value) (ht : P.underlying t = some (.slice e)) (hel : El P e 1 b z) (hp : evp env parts.toList = some (enumV 0 vs)) (h1 : ∀ v ∈ vs, v.oneCell' = true) (hl : vs.length = len) (hlen : len ≤ 16777216) (hpos : 0 < len)
    (h : ∀ gb w', w.heap.size ≤ gb → Blk w' gb e vs.toArray → Le w w' → K (.slice (some ⟨gb, 0, none⟩) len len) w') : Ef P env n ⟨d, .buildSlice t len parts, T, p, af, g⟩ w K := by
  have hzs : ∃ z0, z.cells = #[z0] := by
    obtain ⟨i, _, _, _, _, hz, _⟩ := hel
    exact Array.size_eq_one_iff.1 hz
  obtain ⟨z0, hz0⟩ := hzs
  have hf := fill_go (fun i => some (i * 1, 1)) vs 0 [] (List.replicate len z0) (by simpa using cont_arr 1 vs 0 (fun v hv => cells_one (h1 v hv))) (by rw [flatV_one vs h1]; simp [hl])
  rw [flatV_one vs h1] at hf
  have hd : (List.replicate len z0).drop vs.length = [] := List.drop_of_length_le (by simp [hl])
  rw [hd, List.append_nil, List.nil_append, List.nil_append] at hf
  have hz : ((Array.range (len * 1)).map (fun x => (#[z0] : Array Value)[x % 1]!)) = (List.replicate len z0).toArray := by
    apply Array.ext'
    apply List.ext_getElem (by simp)
    intro i h1 h2
    simp [Nat.mod_one]
  refine .of_run (v := .slice (some ⟨w.heap.size, 0, none⟩) len len) (w' := w.alloc (.cells vs.toArray e)) (fun a ha => ?_) (h _ _ (Nat.le_refl _) (Blk.new w e _) (Le.alloc w _))
  have hparts : parts.map (fun (i, x) => (i, a.eval x)) = (enumV 0 vs).toArray := by rw [← ha.evparts hp]; apply Array.ext'; simp
  have hn0 : ¬ (len * 1 = 0) := by omega
  have hbig : ¬ (len * 1 > 2 ^ 24) := by omega
  simp only [execOp, Instr.buildSlice, Sem.run_bind, run_underlying ht, Result.andThen_ok, hel.sz.run, hparts, newRow]
  rw [if_neg hbig, if_neg hn0]
  simp only [Sem.run_bind, Sem.run_pure, Result.andThen_ok, hel.zr.run, hz0]
  rw [show (#[z0] : Array Value).size = 1 from rfl, hz, hf]
  simp
/-- A call of a function literal, its captured variables behind the arguments. -/
theorem Ef.callC {f : Operand} {fid : FuncId} {caps : Array Value} {args : Array Operand} {ats : Array TypeId} {vs : List Value} {all : Array Value} {R : Ending → World → Prop} (hgo : IsGo P fid) (hf : ev env f = some (.func (.func fid) #[] caps)) (ha : evs env args.toList = some vs) (hcat : vs.toArray ++ caps = all)
    (hc : Calls P fid all w R) (h : ∀ e w', R e w' → ∃ v, e = .returned v ∧ K v w') : Ef P env n ⟨d, .call ⟨.value f, args, ats⟩, T, p, af, g⟩ w K := by
  subst hcat
  exact Ef.callc hgo hf ha hc h
theorem Any.cutArrN {t e s len : Nat} {x : Operand} {gb : Nat} (l : Nat) {lo : Operand} {k : IntKind} {i : Int} (ht : P.underlying t = some (.array len e)) (hs : Sz P e s) (hx : ev env x = some (.pointer (some ⟨gb, 0, none⟩)))
    (hlo : ev env lo = some (.int k i)) (hl : i = (l : Int)) (h2 : l < len) : Any P env n ⟨d, .slice t x (some lo) none none, T, p, af, g⟩ (.slice (some ⟨gb, l * s, none⟩) (len - l) (len - l)) := by
  have := Any.cutArrL (P := P) (n := n) (d := d) (T := T) (p := p) (af := af) (g := g) l ht hs hx hlo hl (Nat.le_of_lt h2)
  rw [show cutA (some ⟨gb, 0, none⟩) len l s = some ⟨gb, l * s, none⟩ by unfold cutA; rw [if_neg (by omega)]; simp [add_lit]] at this
  exact this
/-- copy into a block that is known whole. -/
theorem Ef.copy {t tx e s : Nat} {x y : Operand} {gb o dl dc : Nat} {tb : TypeId} {cs : Array Value} {v : Value} {m : Nat} {news : List Value} (ht : P.underlying t = some (.slice e)) (hs : Sz P e s) (hx : ev env x = some (.slice (some ⟨gb, o, none⟩) dl dc)) (hB : Blk w gb tb cs)
    (hy : ev env y = some v) (hS : Src P s tx v m news w) (hm : m ≤ dl) (hfit : o + news.length ≤ cs.size)
    (h : ∀ w', Blk w' gb tb (cs.toList.take o ++ news ++ cs.toList.drop (o + news.length)).toArray → Ch w w' (some gb) → K (.int .i64 (m : Int)) w') :
    Ef P env n ⟨d, .call ⟨.builtin .copy, #[x, y], #[t, tx]⟩, T, p, af, g⟩ w K := by
  have hst := run_storeCells_at P gb o tb news 0 cs w hB (by simpa using hfit) hS.one
  simp only [Nat.add_zero] at hst
  refine .of_run (w' := w.setRow gb (cs.toList.take o ++ news ++ cs.toList.drop (o + news.length)).toArray) (fun a ha => ?_) (h _ (setRow_heap w gb cs _ tb (0, 0) hB) ⟨rfl, rfl, rfl, by simp, fun k _ hk => setRow_other w gb k _ (fun e => hk (by simp [e]))⟩)
  have hmin : Nat.min m dl = m := Nat.min_eq_left hm
  simp [execOp, resolve, invoke, builtin, ha.eval hx, ha.eval hy, Builtin.copy_, run_underlying ht, hs.run, hS.len, hmin, hS.cells, hst, goInt]
/-- A list of rows of k bytes. -/
def Ks (w : World) (k : Nat) (A : Option Addr) (m : Nat) (keys : List (List (BitVec 8))) : Prop := keys.length = m ∧ (∀ q ∈ keys, q.length = k) ∧ Sl w k A m (keys.map fun q => q.map u8v).flatten
theorem Ks.le {w w' : World} {k : Nat} {A : Option Addr} {m : Nat} {keys : List (List (BitVec 8))} (h : Ks w k A m keys) (hl : Le w w') : Ks w' k A m keys := ⟨h.1, h.2.1, h.2.2.le hl⟩
theorem flatten_at {k : Nat} : ∀ (keys : List (List (BitVec 8))), (∀ q ∈ keys, q.length = k) → ∀ (j : Nat) (q : List (BitVec 8)), keys[j]? = some q → ∀ (i : Nat) (u : Value), (q.map u8v)[i]? = some u → ((keys.map fun q => q.map u8v).flatten)[j * k + i]? = some u
  | [], _, j, q, hq, _, _, _ => by simp at hq
  | r :: keys, hk, 0, q, hq, i, u, hu => by
    simp at hq
    subst hq
    simp only [List.map_cons, List.flatten_cons, Nat.zero_mul, Nat.zero_add]
    rw [List.getElem?_append_left (List.getElem?_eq_some_iff.1 hu).1]
    exact hu
  | r :: keys, hk, j + 1, q, hq, i, u, hu => by
    have hr : r.length = k := hk r (by simp)
    have ih := flatten_at keys (fun q hq => hk q (by simp [hq])) j q (by simpa using hq) i u hu
    simp only [List.map_cons, List.flatten_cons]
    rw [List.getElem?_append_right (by rw [List.length_map, hr, Nat.succ_mul]; omega), List.length_map, hr, show (j + 1) * k + i - k = j * k + i by rw [Nat.succ_mul]; omega]
    exact ih
/-- One of the rows. -/
theorem Rd.loadK {t : TypeId} {x : Operand} {k : Nat} {A : Option Addr} {m j : Nat} {keys : List (List (BitVec 8))} {q : List (BitVec 8)} (hu : IsAgg P t k) (hx : ev env x = some (ptr A (j * k))) (hK : Ks w k A m keys) (hq : keys[j]? = some q) (hp : 0 < k) :
    Rd P w env n ⟨d, .load t x, T, p, af, g⟩ (.agg (q.map u8v).toArray) := by
  have hl : (q.map u8v).length = k := by rw [List.length_map]; exact hK.2.1 q (List.mem_of_getElem? hq)
  exact Rd.loadSm (q.map u8v) (by rw [hl]; exact hu) hx hK.2.2 (fun i u hi => flatten_at keys hK.2.1 j q hq i u hi) (by omega)
/-- A slice literal of composite elements. -/
theorem Ef.buildSliceV {t e b s len : Nat} {z : Value} {parts : Array (Nat × Operand)} (vs : List Value) (ht : P.underlying t = some (.slice e)) (hel : El P e s b z) (hp : evp env parts.toList = some (enumV 0 vs)) (h1 : ∀ v ∈ vs, v.cells.size = s) (hl : vs.length = len) (hlen : len * s ≤ 16777216) (hpos : 0 < len)
    (h : ∀ gb w', w.heap.size ≤ gb → Blk w' gb e (flatV vs).toArray → Le w w' → K (.slice (some ⟨gb, 0, none⟩) len len) w') : Ef P env n ⟨d, .buildSlice t len parts, T, p, af, g⟩ w K := by
  have hs0 : 0 < s := by obtain ⟨i, _, _, _, _, _, h0⟩ := hel; exact h0
  have hfl : (flatV vs).length = len * s := by rw [flatV_length s vs h1, hl]
  have hmap : ((Array.range (len * s)).map (fun x => z.cells[x % z.cells.size]!)).size = len * s := by simp
  obtain ⟨zl, hzl⟩ : ∃ zl : List Value, ((Array.range (len * s)).map (fun x => z.cells[x % z.cells.size]!)) = zl.toArray := ⟨_, (Array.toArray_toList).symm⟩
  have hzlen : zl.length = len * s := by rw [hzl] at hmap; simpa using hmap
  have hf := fill_go (fun i => some (i * s, s)) vs 0 [] zl (by simpa using cont_arr s vs 0 h1) (by omega)
  have hd : zl.drop (flatV vs).length = [] := List.drop_of_length_le (by omega)
  rw [hd, List.append_nil, List.nil_append, List.nil_append] at hf
  refine .of_run (v := .slice (some ⟨w.heap.size, 0, none⟩) len len) (w' := w.alloc (.cells (flatV vs).toArray e)) (fun a ha => ?_) (h _ _ (Nat.le_refl _) (Blk.new w e _) (Le.alloc w _))
  have hparts : parts.map (fun (i, x) => (i, a.eval x)) = (enumV 0 vs).toArray := by rw [← ha.evparts hp]; apply Array.ext'; simp
  have hn0 : ¬ (len * s = 0) := by have := Nat.mul_pos hpos hs0; omega
  have hbig : ¬ (len * s > 2 ^ 24) := by omega
  simp only [execOp, Instr.buildSlice, Sem.run_bind, run_underlying ht, Result.andThen_ok, hel.sz.run, hparts, newRow]
  rw [if_neg hbig, if_neg hn0]
  simp only [Sem.run_bind, Sem.run_pure, Result.andThen_ok, hel.zr.run]
  rw [hzl, hf]
  simp
/-- '[]byte("..")' of a constant: the bytes lie in a new block, which bears a mark then. -/
theorem Ef.constBytes {t e : TypeId} {x : Operand} {gb k c : Nat} {tb : TypeId} {xs : List (BitVec 8)} (ht : P.underlying t = some (.slice e)) (he : P.underlying e = some (.int .u8)) (hx : ev env x = some (.slice (some ⟨gb, 0, none⟩) k c)) (hB : Blk w gb tb (xs.map u8v).toArray) (hk : xs.length = k)
    (h : ∀ w', Sb w' (some ⟨gb, 0, none⟩) k xs → Ch w w' (some gb) → K (.slice (some ⟨gb, 0, none⟩) k c) w') : Ef P env n ⟨d, .convert t t x, T, p, af, g⟩ w K := by
  have hsh : w.shape? gb = some (tb, xs.length) := by simp [World.shape?, show w.heap[gb]? = _ from hB]
  refine .of_run (v := .slice (some ⟨gb, 0, none⟩) k c) (w' := w.freeze ⟨gb, xs.length, none⟩ 1) (fun a ha => ?_) (h _ ?_ ?_)
  · have hrs : (shape gb).run P w = .ok (some (tb, xs.length)) w := by simp [shape, Sem.run, hsh]
    simp [execOp, ha.eval hx, convert, run_underlying ht, run_underlying he, markStringish, hrs, freeze, Sem.run]
  · have hs := hB.sb hk
    refine ⟨hs.1, fun j u hu => ?_⟩
    obtain ⟨ad, he', hc⟩ := hs.2 j u hu
    refine ⟨ad, he', ?_⟩
    injection he' with he'
    subst he'
    rw [add_lit] at hc ⊢
    rw [← hc]
    simp only [World.cell?, World.freeze]
    simp [Array.getElem?_modify, show w.heap[gb]? = _ from hB]
  · refine ⟨rfl, rfl, rfl, by simp [World.freeze], fun q _ hq => ?_⟩
    simp only [World.freeze]
    rw [if_neg (by decide)]
    simp only [Array.getElem?_modify]
    rw [if_neg (fun e => hq (by rw [e]))]
/-- 'string(b)': the bytes read. -/
def strOf (xs : List (BitVec 8)) : ByteArray := ⟨(xs.map fun b => UInt8.ofNat b.toNat).toArray⟩
theorem foldl_push : ∀ (ns : List Int) (r : ByteArray), ns.foldl (fun r n => r.push (UInt8.ofNat n.toNat)) r = ⟨r.data ++ (ns.map fun n => UInt8.ofNat n.toNat).toArray⟩
  | [], r => by simp
  | n :: ns, r => by
    rw [List.foldl_cons, foldl_push ns]
    simp [ByteArray.push]
theorem Rd.toStr {t e t' : TypeId} {x : Operand} {A : Option Addr} {m c : Nat} {xs : List (BitVec 8)} (ht : P.underlying t = some (.slice e)) (he : P.underlying e = some (.int .u8)) (hd : P.underlying t' = some .string) (hx : ev env x = some (.slice A m c)) (hS : Sb w A m xs) :
    Rd P w env n ⟨d, .convert t t' x, T, p, af, g⟩ (.string (strOf xs)) := fun a ha w' hl => by
  have hS' := hS.le hl
  have hr : (Conv.bytesToString (.slice A m c)).run P w' = .ok (.string (strOf xs)) w' := by
    cases A with
    | none =>
      have : xs = [] := by
        cases xs with
        | nil => rfl
        | cons y ys => exact absurd (hS'.isSome (by rw [← hS'.len]; simp)) (by simp)
      subst this
      simp [Conv.bytesToString, strOf]
      rfl
    | some ad =>
      have hload : (loadCells ad m).run P w' = .ok ((xs.map fun b => (b.toNat : Int)).map (Value.int .u8)).toArray w' := by
        have e : ((xs.map fun b => (b.toNat : Int)).map (Value.int .u8)) = xs.map u8v := by rw [List.map_map]; rfl
        rw [e]
        have := run_loadCells_list (P := P) w' ad (xs.map u8v) (fun j v hv => by obtain ⟨ad', he', hc⟩ := hS'.2 j v hv; injection he' with he'; subst he'; exact hc)
        rwa [List.length_map, hS'.len] at this
      rw [run_bytesToString w' ad m c _ hload, foldl_push]
      simp [strOf]
  simp only [execOp, ha.eval hx, Sem.run_bind, run_convert_bytes_string w' t t' e A m c ht he hd, hr, Result.andThen_ok, Sem.run_pure]
theorem Any.eqlStr {t ty : TypeId} {x y : Operand} {a b : ByteArray} (hx : ev env x = some (.string a)) (hy : ev env y = some (.string b)) : Any P env n ⟨d, .binOp .eql t x y ty, T, p, af, g⟩ (.bool (a.toList == b.toList)) :=
  .bin hx hy (fun w => rfl) fun w => by rw [binOp_string_eql]; rfl
theorem Any.neqStr {t ty : TypeId} {x y : Operand} {a b : ByteArray} (hx : ev env x = some (.string a)) (hy : ev env y = some (.string b)) : Any P env n ⟨d, .binOp .neq t x y ty, T, p, af, g⟩ (.bool !(a.toList == b.toList)) :=
  .bin hx hy (fun w => rfl) fun w => by rw [binOp_string_neq]; rfl
variable {Q : Exit → Act → World → Prop}
theorem WC.scope {c : Code} (h : WC P (Exit.noGoto Q) n c env w) : WC P Q n (.scope c) env w := fun a ha => wp_scope_straight (h a ha)
theorem E.scN (h : E Q n .normal env w) : E (Exit.noGoto Q) n .normal env w := h
theorem E.scR (h : E Q n .ret env w) : E (Exit.noGoto Q) n .ret env w := h
theorem E.scX {id : Nat} (h : E Q n (.exit id) env w) : E (Exit.noGoto Q) n (.exit id) env w := h
end
end Go.Sx
