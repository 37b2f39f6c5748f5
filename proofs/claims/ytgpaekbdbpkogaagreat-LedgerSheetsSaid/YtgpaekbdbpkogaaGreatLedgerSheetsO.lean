/- LedgerSheets: for every input the law answers true and leaves its arguments as they were. -/
import Derived.Test.YtgpaekbdbpkogaaGreatLedgerSheetsN
import Derived.Lib.Overlaps
import Derived.Laws.Externs
set_option linter.unusedVariables false
set_option linter.unusedSimpArgs false
namespace Go.Sx
open Go Go.RowKit
section
variable {P : Program} {env : Env} {n : Nat} {d : Option Nat} {T : TypeId} {p : String} {af : Array Edge} {g : Option (Nat × Bool)} {w w' : World} {K : Value -> World -> Prop} {α : Type}
variable {f : α -> List Value} {s e m c base : Nat} {A : Option Addr} {xs ys : List α}
theorem zc_flat {L : List Value} {k : Nat} (hs : 0 < L.length) : (Builtin.zeroCells L.toArray k).toList = (List.replicate k L).flatten := by
  apply List.ext_getElem?
  intro i
  by_cases hi : i < k * L.length
  · have hq : i / L.length < k := Nat.div_lt_of_lt_mul (by rwa [Nat.mul_comm])
    have hm := Nat.mod_lt i hs
    have h1 := flat_at (k := L.length) (List.replicate k L) (fun r hr => by rw [List.eq_of_mem_replicate hr]) (i / L.length) L (by simp [hq]) (i % L.length) (L[i % L.length]) (by simp [hm])
    rw [Nat.div_add_mod' i L.length] at h1
    rw [h1]
    simp [Builtin.zeroCells, hi, hm]
  · rw [List.getElem?_eq_none (by simp [Builtin.zeroCells]; omega), List.getElem?_eq_none (by rw [flat_length (k := L.length) _ (fun r hr => by rw [List.eq_of_mem_replicate hr])]; simp; omega)]
theorem zc_rows {b : α} {z : Value} (hf : RowF f s) (hz : z.cells = (f b).toArray) (k : Nat) : (Builtin.zeroCells z.cells k).toList = ((List.replicate k b).map f).flatten := by
  rw [hz, zc_flat (by rw [hf.len]; exact hf.pos), List.map_replicate]
theorem flat_dropS (hf : RowF f s) (l : List α) (j : Nat) : ((l.drop j).map f).flatten = (l.map f).flatten.drop (j * s) := by
  induction l generalizing j with
  | nil => simp
  | cons a l ih =>
    cases j with
    | zero => simp
    | succ j =>
      have hl := hf.len a
      simp only [List.drop_succ_cons, List.map_cons, List.flatten_cons, ih j]
      have h1 : (f a).drop ((j + 1) * s) = [] := List.drop_of_length_le (by rw [hl, Nat.succ_mul]; omega)
      rw [List.drop_append, h1, hl, Nat.succ_mul, Nat.add_sub_cancel, List.nil_append]
theorem OVec.put {gb j k m' : Nat} {cur : Array Value} {zs : List α} (hf : RowF f s) (hO : OVec w base e f s (some ⟨gb, 0, none⟩) m c xs) (hb : base <= gb) (hcs : cur.size = c * s) (htake : cur.toList.take (m * s) = (xs.map f).flatten)
    (hB : Blk w' gb e (cur.toList.take (j * s) ++ (ys.map f).flatten ++ cur.toList.drop (j * s + (ys.map f).flatten.length)).toArray) (hk : ys.length = k) (hj : j <= m) (hjk : j + k <= c) (hm : m' = max m (j + k)) (hz : zs = xs.take j ++ ys ++ xs.drop (j + k)) : OVec w' base e f s (some ⟨gb, 0, none⟩) m' c zs := by
  have hcap := hO.2.cap
  have hxl := hO.1
  have hnl : (ys.map f).flatten.length = k * s := by rw [cells_len hf, hk]
  have hjs : j * s <= c * s := Nat.mul_le_mul_right _ (by omega)
  have hjks : j * s + k * s <= c * s := by rw [<- Nat.add_mul]; exact Nat.mul_le_mul_right _ hjk
  have hcl : cur.toList.length = c * s := by rw [Array.length_toList, hcs]
  have hzl : zs.length = m' := by rw [hz]; simp; omega
  refine ⟨hzl, by rw [cells_len hf, hzl], .inr ⟨gb, _, rfl, hb, hB, by omega, hcap.2, ?_, ?_⟩⟩
  · rw [hnl]
    simp only [List.size_toArray, List.length_append, List.length_take, List.length_drop, hcl, hnl]
    omega
  · have e1 : ((xs.take j).map f).flatten = cur.toList.take (j * s) := by
      rw [flat_takeF hf, <- htake, List.take_take, Nat.min_eq_left (Nat.mul_le_mul_right _ hj)]
    have e2 : ((xs.drop (j + k)).map f).flatten = (cur.toList.take (m * s)).drop (j * s + k * s) := by rw [flat_dropS hf, <- htake, Nat.add_mul]
    have hzf : (zs.map f).flatten = cur.toList.take (j * s) ++ (ys.map f).flatten ++ (cur.toList.take (m * s)).drop (j * s + k * s) := by
      rw [hz, List.map_append, List.flatten_append, List.map_append, List.flatten_append, e1, e2]
    have hal : (cur.toList.take (j * s) ++ (ys.map f).flatten).length = j * s + k * s := by rw [List.length_append, List.length_take, hcl, hnl, Nat.min_eq_left hjs]
    rw [hzf, hnl]
    simp only
    rw [List.take_append, hal]
    rcases Nat.lt_or_ge (j + k) m with h | h
    · have hms : m' * s = m * s := by rw [hm, Nat.max_eq_left (by omega)]
      have hle : j * s + k * s <= m * s := by rw [<- Nat.add_mul]; exact Nat.mul_le_mul_right _ (by omega)
      rw [hms, List.take_of_length_le (by rw [hal]; exact hle), List.drop_take]
    · have hms : m' * s = j * s + k * s := by rw [hm, Nat.max_eq_right (by omega), Nat.add_mul]
      have hle : m * s <= j * s + k * s := by rw [<- Nat.add_mul]; exact Nat.mul_le_mul_right _ h
      rw [hms, List.take_of_length_le (by rw [hal]; exact Nat.le_refl _), Nat.sub_self, List.take_zero, List.drop_of_length_le (by rw [List.length_take]; omega)]
theorem cut_lit {gb c j s : Nat} (h : j ≠ c) : cutA (some ⟨gb, 0, none⟩) c j s = some ⟨gb, j * s, none⟩ := by
  unfold cutA
  rw [if_neg (fun q => h q.symm)]
  simp [add_lit]
theorem Ef.vclearS {t j bb : Nat} {x : Operand} (b : α) {z : Value} (ht : P.underlying t = some (.slice e)) (hel : El P e s bb z) (hz : z.cells = (f b).toArray)
    (hx : ev env x = some (.slice (cutA A c j s) (m - j) (c - j))) (hO : OVec w base e f s A m c xs) (hf : RowF f s) (hj : j <= m)
    (h : ∀ w', OVec w' base e f s A m c (xs.take j ++ List.replicate (m - j) b) -> Ch w w' (rowOf A c) -> K (.tuple #[]) w') : Ef P env n ⟨d, .call ⟨.builtin .clear, #[x], #[t]⟩, T, p, af, g⟩ w K := by
  rcases Nat.eq_zero_or_pos (m - j) with h0 | h0
  · rw [h0] at hx
    refine .of_run (w' := w) (fun a ha => ?_) (h w ?_ (Ch.refl _ _))
    · simp [execOp, resolve, invoke, builtin, ha.eval hx, Builtin.clear_, run_underlying ht]
      cases cutA A c j s <;> rfl
    · rw [h0, List.take_of_length_le (by have := hO.1; omega)]
      simpa using hO
  · obtain ⟨gb, rfl, hbg, hlt, hrow⟩ := hO.2.lit (by omega)
    obtain ⟨cur, hB, hcs, htake⟩ := hO.2.block (by omega)
    have hcap := hO.2.cap
    rw [cut_lit (by omega)] at hx
    have hzc := zc_rows (b := b) hf hz (m - j)
    have hnl : (((List.replicate (m - j) b).map f).flatten).length = (m - j) * s := by rw [cells_len hf, List.length_replicate]
    have hone := rows_one hf (List.replicate (m - j) b)
    have hput := fun (w' : World) (cur : Array Value) (hB : Blk w gb e cur) (hcs : cur.size = c * s) (htake : cur.toList.take (m * s) = (xs.map f).flatten) (hB' : Blk w' gb e (cur.toList.take (j * s) ++ ((List.replicate (m - j) b).map f).flatten ++ cur.toList.drop (j * s + (((List.replicate (m - j) b).map f).flatten).length)).toArray) => hO.put hf hbg hcs htake hB' (k := m - j) (m' := m) (zs := xs.take j ++ List.replicate (m - j) b) (by simp) hj (by omega) (by omega) (by rw [List.drop_of_length_le (by have := hO.1; omega), List.append_nil])
    obtain ⟨N, hN⟩ : ∃ N, N = ((List.replicate (m - j) b).map f).flatten := ⟨_, rfl⟩
    rw [<- hN] at hzc hnl hone
    have hjm : j * s + (m - j) * s = m * s := by rw [<- Nat.add_mul]; congr 1; omega
    have hst := run_storeCells_at P gb (j * s) e N 0 cur w hB (by rw [hnl, hcs, Nat.add_zero, hjm]; exact Nat.mul_le_mul_right _ hcap.1) hone
    simp only [Nat.add_zero] at hst
    refine .of_run (w' := w.setRow gb (cur.toList.take (j * s) ++ N ++ cur.toList.drop (j * s + N.length)).toArray) (fun a ha => ?_) (h _ ?_ (by rw [hrow]; exact ⟨rfl, rfl, rfl, by simp, fun k _ hk => setRow_other w gb k _ (fun e => hk (by simp [e]))⟩))
    · obtain ⟨q, hq⟩ : ∃ q, m - j = q + 1 := ⟨m - j - 1, by omega⟩
      rw [hq] at hx hzc
      simp [execOp, resolve, invoke, builtin, ha.eval hx, Builtin.clear_, run_underlying ht, hel.zr.run, hzc, hst]
    · exact hput _ cur hB hcs htake (by rw [<- hN]; exact setRow_heap w gb cur _ e (0, 0) hB)
theorem Ef.vcopyS {t tx e2 dl dc j k c2 : Nat} {B : Option Addr} {m' : Nat} {zs : List α} {x y : Operand} (ht : P.underlying t = some (.slice e)) (hs : Sz P e s) (htx : P.underlying tx = some (.slice e2))
    (hx : ev env x = some (.slice (cutA A c j s) dl dc)) (hO : OVec w base e f s A m c xs) (hf : RowF f s) (hy : ev env y = some (.slice B k c2)) (hB : Vec w f s B k ys) (hm0 : 0 < m) (hk0 : 0 < k) (hkd : k <= dl) (hj : j <= m) (hjk : j + k <= c) (hm' : m' = max m (j + k)) (hz : zs = xs.take j ++ ys ++ xs.drop (j + k))
    (h : ∀ w', OVec w' base e f s A m' c zs -> Ch w w' (rowOf A c) -> K (.int .i64 (k : Int)) w') : Ef P env n ⟨d, .call ⟨.builtin .copy, #[x, y], #[t, tx]⟩, T, p, af, g⟩ w K := by
  obtain ⟨gb, rfl, hbg, hlt, hrow⟩ := hO.2.lit hm0
  obtain ⟨cur, hBl, hcs, htake⟩ := hO.2.block hm0
  rw [cut_lit (by omega)] at hx
  have hnl : ((ys.map f).flatten).length = k * s := by rw [cells_len hf, hB.1]
  refine Ef.copy ht hs hx hBl hy (hB.2.src htx hf.pos c2 (rows_one hf ys)) hkd (by rw [hnl, hcs, <- Nat.add_mul]; exact Nat.mul_le_mul_right _ hjk) fun w' hB' hc => h w' (hO.put hf hbg hcs htake hB' hB.1 hj hjk hm' hz) (by rw [hrow]; exact hc)
theorem Ef.vcopyD {t tx e2 dl dc j c2 ml : Nat} {B : Option Addr} {m' : Nat} {zs : List α} {x y : Operand} (ht : P.underlying t = some (.slice e)) (hs : Sz P e s) (htx : P.underlying tx = some (.slice e2))
    (hx : ev env x = some (.slice (cutA A c j s) dl dc)) (hO : OVec w base e f s A m c xs) (hf : RowF f s) (hy : ev env y = some (.slice B ml c2)) (hB : Vec w f s B dl ys) (hml : dl <= ml) (hm0 : 0 < m) (hk0 : 0 < dl) (hj : j <= m) (hjk : j + dl <= c) (hm' : m' = max m (j + dl)) (hz : zs = xs.take j ++ ys ++ xs.drop (j + dl))
    (h : ∀ w', OVec w' base e f s A m' c zs -> Ch w w' (rowOf A c) -> K (.int .i64 (dl : Int)) w') : Ef P env n ⟨d, .call ⟨.builtin .copy, #[x, y], #[t, tx]⟩, T, p, af, g⟩ w K := by
  obtain ⟨gb, rfl, hbg, hlt, hrow⟩ := hO.2.lit hm0
  obtain ⟨cur, hBl, hcs, htake⟩ := hO.2.block hm0
  rw [cut_lit (by omega)] at hx
  have hnl : ((ys.map f).flatten).length = dl * s := by rw [cells_len hf, hB.1]
  have hS := hB.2.src htx hf.pos ml (rows_one hf ys) (P := P)
  obtain ⟨ad, rfl⟩ : ∃ ad, B = some ad := Option.isSome_iff_exists.1 (hB.isSome hf hk0)
  have hfc : (Builtin.firstCells s dl (.slice (some ad) ml c2)).run P w = .ok (ys.map f).flatten.toArray w := run_firstCells_some w s dl ad ml c2 _ hnl (fun q u hu => by obtain ⟨ad', he, hc⟩ := hB.2.2 q u hu; injection he with he; subst he; exact hc)
  have hst := run_storeCells_at P gb (j * s) e ((ys.map f).flatten) 0 cur w hBl (by rw [hnl, hcs, Nat.add_zero, <- Nat.add_mul]; exact Nat.mul_le_mul_right _ hjk) (rows_one hf _)
  simp only [Nat.add_zero] at hst
  refine .of_run (w' := w.setRow gb (cur.toList.take (j * s) ++ (ys.map f).flatten ++ cur.toList.drop (j * s + ((ys.map f).flatten).length)).toArray) (fun a ha => ?_) (h _ (hO.put hf hbg hcs htake (setRow_heap w gb cur _ e (0, 0) hBl) hB.1 hj hjk hm' hz) (by rw [hrow]; exact ⟨rfl, rfl, rfl, by simp, fun k _ hk => setRow_other w gb k _ (fun e => hk (by simp [e]))⟩))
  have hmin : Nat.min ml dl = dl := Nat.min_eq_right hml
  simp [execOp, resolve, invoke, builtin, ha.eval hx, ha.eval hy, Builtin.copy_, Builtin.lenOf, run_underlying ht, hs.run, hmin, hfc, hst, goInt]
theorem Ef.growZ {t tn bb k q : Nat} {x y : Operand} {kq kn : IntKind} {i : Int} (b : α) {z : Value} (ht : P.underlying t = some (.slice e)) (htn : P.underlying tn = some (.int kn)) (hel : El P e s bb z) (hz : z.cells = (f b).toArray) (hf : RowF f s) (hx : ev env x = some (.slice A k c)) (hO : OVec w base e f s A m c xs)
    (hk : k <= m) (hy : ev env y = some (.int kq i)) (hi : i = (q : Int)) (hq : 0 < q) (hg : c < k + q) (hb : (k + q) * bb <= 140737488355328) (hl : k + q <= maxLen)
    (h : ∀ A' c' w', OVec w' w.heap.size e f s A' (k + q) c' (xs.take k ++ List.replicate q b) -> Le w w' -> K (.slice A' (k + q) c') w') :
    Ef P env n ⟨d, .call ⟨.builtin .append, #[x, y], #[t, tn]⟩, T, p, af, g⟩ w K := by
  subst hi
  have hzc := zc_rows (b := b) hf hz
  obtain ⟨i, hi, hzr, hsz, hby, hzs, hpos⟩ := hel
  subst hby
  have hF := hO.front k hk hf
  have hlen : (((xs.take k ++ List.replicate q b).map f).flatten).length = (k + q) * s := by rw [cells_len hf, List.length_append, hF.1, List.length_replicate]
  have hm63 : k + q <= 9223372036854775807 := by simp only [maxLen] at hl; omega
  have hmb : q * i.bytes <= 281474976710656 := Nat.le_trans (Nat.mul_le_mul_right _ (by omega : q <= k + q)) (by omega)
  have hold : (Builtin.firstCells i.size k (.slice A k c)).run P w.drew = .ok (((xs.take k).map f).flatten).toArray w.drew := by
    have hSl : Sl w.drew i.size A k ((xs.take k).map f).flatten := by rw [hsz]; exact hF.2.sl.le (Le.drew w)
    cases A with
    | none =>
      have hx0 : ((xs.take k).map f).flatten = [] := by
        cases hh : ((xs.take k).map f).flatten with
        | nil => rfl
        | cons u us => rw [hh] at hSl; obtain ⟨_, he, _⟩ := hSl.2 0 u rfl; cases he
      rw [hx0]
      rcases Nat.eq_zero_or_pos k with h0 | h0
      · subst h0; simp [Builtin.firstCells]
      · have := hF.vec.isSome hf h0; cases this
    | some ad => exact run_firstCells_some w.drew i.size k ad k c _ (by rw [hF.2.1, hsz]) (fun j u hu => by obtain ⟨ad', he, hc⟩ := hSl.2 j u hu; injection he with he; subst he; exact hc)
  have hr := Go.Lib.run_append_grow_zeros (P := P) w t tn T e i z kq kn ht htn hi hzr A k c _ hold q hq (by rw [hsz]; exact hf.pos) hg (by omega) hmb (growslice_fits (by omega) hb)
  have hge := grownCap_ge w (k + q) c e
  have hcm : grownCap w (k + q) c e <= maxLen := grownCap_le_maxLen w (k + q) c e hl
  have key : ∃ A' c' w', (Builtin.append_ #[t, tn] T #[.slice A k c, .int kq (q : Int)]).run P w = .ok (.slice A' (k + q) c') w' /\ OVec w' w.heap.size e f s A' (k + q) c' (xs.take k ++ List.replicate q b) /\ Le w w' := by
    refine ⟨_, _, _, hr, ⟨by rw [List.length_append, hF.1, List.length_replicate], by rw [hlen], .inr ⟨w.heap.size, _, rfl, Nat.le_refl _, heap_alloc_new w.drew _, hge, hcm, ?_, ?_⟩⟩, (Le.drew w).trans (Le.alloc w.drew _)⟩
    · have := hF.2.1
      have h1 := size_zeroCells z.cells q
      have h2 := size_zeroCells z.cells (grownCap w (k + q) c e - (k + q))
      simp only [Array.size_append, List.size_toArray]
      rw [this, h1, h2, hzs, <- Nat.add_mul, <- Nat.add_mul]
      congr 1
      omega
    · simp only [Array.toList_append, hzc]
      rw [List.map_append, List.flatten_append]
      have hl1 : (((xs.take k).map f).flatten ++ ((List.replicate q b).map f).flatten).length = (k + q) * s := by rw [<- List.flatten_append, <- List.map_append]; exact hlen
      rw [<- hl1]
      exact List.take_left
  obtain ⟨A', c', w', hr', h1, h2⟩ := key
  refine .of_run (fun a ha => ?_) (h A' c' w' h1 h2)
  simp [execOp, resolve, invoke, builtin, ha.eval hx, ha.eval hy, hr']
theorem Blk.shape {gb t : Nat} {cs : Array Value} (h : Blk w gb t cs) : w.shape? gb = some (t, cs.size) := by
  unfold Blk at h
  simp [World.shape?, h]
theorem Blk.free {gb t o : Nat} {cs : Array Value} (h : Blk w gb t cs) : w.frozen? ⟨gb, o, none⟩ = false := by
  unfold Blk at h
  simp [World.frozen?, h]
theorem Ef.overlapsN {fi : FuncId} {fn : Func} {t tR e2 ta tb sz oa ob la ca lb cb ga gb : Nat} {csa csb : Array Value} {x y : Operand} {ats : Array TypeId} (hf : P.funcs[fi]? = some fn) (hname : (fn.name == "runtime.NumGoroutine") = false) (hb : fn.body.isNone = true) (hn : Extern.findNext fn = none) (he : Extern.find fn = some (Extern.SlicesOverlaps.overlaps #[t, t] #[tR]))
    (ht : P.underlying t = some (.slice e2)) (hs : Sz P e2 sz) (hx : ev env x = some (.slice (some ⟨ga, oa, none⟩) la ca)) (hy : ev env y = some (.slice (some ⟨gb, ob, none⟩) lb cb)) (hne : ga ≠ gb) (hA : Blk w ga ta csa) (hB : Blk w gb tb csb) (hz : csb.size ≠ 0)
    (h : K (.bool false) w) : Ef P env n ⟨d, .call ⟨.value (.func fi), #[x, y], ats⟩, T, p, af, g⟩ w K := by
  refine .of_run (v := .bool false) (w' := w) (fun a ha => ?_) h
  have hfo := ha.eval (show ev env (.func fi) = some (.func (.func fi) #[] #[]) from rfl)
  have hr := run_callFunc_extern hf hname hb hn he (args := #[.slice (some ⟨ga, oa, none⟩) la ca, .slice (some ⟨gb, ob, none⟩) lb cb]) (w := w)
  rw [Go.Lib.run_overlaps_apart w t tR e2 ht sz (fun w => hs.run w) ⟨ga, oa, none⟩ ⟨gb, ob, none⟩ la ca lb cb hne ta tb csa.size csb.size hA.shape hB.shape hz hA.free hA.free] at hr
  simp [execOp, resolve, Deferred.ofValue, invoke, ha.eval hx, ha.eval hy, hfo, hr]
theorem Ef.overlapsO {fi : FuncId} {fn : Func} {t tR e2 sz j lb cb gv cv b1 e1 s1 : Nat} {β : Type} {f1 : β -> List Value} {vs : List β} {x y : Operand} {ats : Array TypeId} (hf : P.funcs[fi]? = some fn) (hname : (fn.name == "runtime.NumGoroutine") = false) (hb : fn.body.isNone = true) (hn : Extern.findNext fn = none) (he : Extern.find fn = some (Extern.SlicesOverlaps.overlaps #[t, t] #[tR]))
    (ht : P.underlying t = some (.slice e2)) (hs : Sz P e2 sz) (hx : ev env x = some (.slice (some ⟨gv, 0, none⟩) 1 cv)) (hy : ev env y = some (.slice (cutA A c j s) lb cb)) (hV : OVec w b1 e1 f1 s1 (some ⟨gv, 0, none⟩) 1 cv vs) (hO : OVec w base e f s A m c xs) (hrf : RowF f s) (hm : 0 < m) (hj : j ≠ c) (hap : Apart A c (some ⟨gv, 0, none⟩) cv)
    (h : K (.bool false) w) : Ef P env n ⟨d, .call ⟨.value (.func fi), #[x, y], ats⟩, T, p, af, g⟩ w K := by
  obtain ⟨gb, rfl, hbg, hlt, hrow⟩ := hO.2.lit hm
  obtain ⟨cur, hB, hcs, _⟩ := hO.2.block hm
  obtain ⟨gv', hv1, _, _, hvr⟩ := hV.2.lit (by decide)
  obtain ⟨curv, hBv, _, _⟩ := hV.2.block (by decide)
  rw [cut_lit hj] at hy
  have hcap := hO.2.cap
  have hne : gv ≠ gb := fun q => by subst q; injection hv1 with hv1; injection hv1 with hv1; subst hv1; exact hap _ hrow hvr
  refine Ef.overlapsN hf hname hb hn he ht hs hx hy hne hBv hB ?_ h
  rw [hcs]
  exact Nat.mul_ne_zero (by omega) (by have := hrf.pos; omega)
end
end Go.Sx

