/- GraphAds: for every input the law answers true and leaves its arguments as they were. -/
import Derived.Test.YtgpdfkplkaojcaaGreatGraphAdsM
import Derived.OrdersHeld
import Derived.WalkKit
import Derived.Deep.AppendSrc
import Derived.Deep.MidRow
import Derived.Laws.OwnMore
import Derived.WalkSpells
import Derived.Lib.ConvBytes
import Derived.Lib.AppendZerosOnto
import Derived.Laws.StructEq
import Derived.Maps.RangeRun
import Derived.Laws.Pointers
import Derived.Test.YtgpdfkplkaojcaaGreatProg
import Derived.KernelRfl
import Derived.Lib.Mul64
import Derived.Shelf.SlSortCmp.NoneTotal
import Derived.Lib.QuietBelow
import Derived.Ground.SlsfProg
set_option linter.unusedSimpArgs false
set_option linter.unusedVariables false
set_option maxRecDepth 20000
namespace Go.Proofs
open Go.Shelf
def Tryz.sortF_ren : Go.Shelf.Ren := ⟨fun | 6 => 68 | 15 => 89 | 14 => 88 | 28 => 111 | 29 => 112 | 20 => 103 | 21 => 104 | 22 => 105 | 23 => 106 | 24 => 107 | 25 => 108 | 26 => 109 | 27 => 110 | 46 => 116 | 47 => 117 | 48 => 118 | 49 => 119 | 50 => 120 | 57 => 122 | n => n, fun | 22 => 22 | 24 => 40 | 25 => 122 | 3 => 3 | 39 => 130 | 0 => 0 | 53 => 103 | 55 => 27 | 4 => 4 | 46 => 156 | 45 => 155 | 50 => 94 | 5 => 5 | 9 => 9 | 66 => 165 | 70 => 169 | 76 => 171 | 77 => 172 | n => n, fun | n => n⟩
theorem Tryz.sortF : Go.Proofs.SlLaysF0.n6 Tryz.prog Tryz.sortF_ren := {
  mixed := by kernel_rfl
  f6 := ⟨Tryz.f68.name, by decide, Tryz.func68.trans (congrArg some (by kernel_rfl))⟩
  f14 := ⟨Tryz.f88.name, by decide, Tryz.func88.trans (congrArg some (by kernel_rfl))⟩
  f15 := Tryz.func89.trans (congrArg some (by kernel_rfl))
  f20 := ⟨Tryz.f103.name, by decide, Tryz.func103.trans (congrArg some (by kernel_rfl))⟩
  f21 := ⟨Tryz.f104.name, by decide, Tryz.func104.trans (congrArg some (by kernel_rfl))⟩
  f22 := ⟨Tryz.f105.name, by decide, Tryz.func105.trans (congrArg some (by kernel_rfl))⟩
  f23 := ⟨Tryz.f106.name, by decide, Tryz.func106.trans (congrArg some (by kernel_rfl))⟩
  f24 := ⟨Tryz.f107.name, by decide, Tryz.func107.trans (congrArg some (by kernel_rfl))⟩
  f25 := ⟨Tryz.f108.name, by decide, Tryz.func108.trans (congrArg some (by kernel_rfl))⟩
  f26 := ⟨Tryz.f109.name, by decide, Tryz.func109.trans (congrArg some (by kernel_rfl))⟩
  f27 := ⟨Tryz.f110.name, by decide, Tryz.func110.trans (congrArg some (by kernel_rfl))⟩
  f28 := Tryz.func111.trans (congrArg some (by kernel_rfl))
  f29 := Tryz.func112.trans (congrArg some (by kernel_rfl))
  f46 := ⟨Tryz.f116.name, by decide, Tryz.func116.trans (congrArg some (by kernel_rfl))⟩
  f47 := Tryz.func117.trans (congrArg some (by kernel_rfl))
  f48 := Tryz.func118.trans (congrArg some (by kernel_rfl))
  f49 := ⟨Tryz.f119.name, by decide, Tryz.func119.trans (congrArg some (by kernel_rfl))⟩
  f50 := ⟨Tryz.f120.name, by decide, Tryz.func120.trans (congrArg some (by kernel_rfl))⟩
  f57 := ⟨Tryz.f122.name, by decide, Tryz.func122.trans (congrArg some (by kernel_rfl))⟩
  t0 := Tryz.underlying0
  a0 := Tryz.isAgg0
  z0 := Tryz.sizeOf0
  v0 := Tryz.zeroValue0
  t3 := Tryz.underlying3
  a3 := Tryz.isAgg3
  z3 := Tryz.sizeOf3
  v3 := Tryz.zeroValue3
  t4 := Tryz.underlying4
  a4 := Tryz.isAgg4
  z4 := Tryz.sizeOf4
  v4 := Tryz.zeroValue4
  t5 := Tryz.underlying5
  a5 := Tryz.isAgg5
  z5 := Tryz.sizeOf5
  v5 := Tryz.zeroValue5
  t9 := Tryz.underlying9
  a9 := Tryz.isAgg9
  z9 := Tryz.sizeOf9
  v9 := Tryz.zeroValue9
  t22 := Tryz.underlying22
  a22 := Tryz.isAgg22
  z22 := Tryz.sizeOf22
  v22 := Tryz.zeroValue22
  t25 := Tryz.underlying122
  a25 := Tryz.isAgg122
  z25 := Tryz.sizeOf122
  v25 := Tryz.zeroValue122
  t39 := Tryz.underlying130
  a39 := Tryz.isAgg130
  z39 := Tryz.sizeOf130
  v39 := Tryz.zeroValue130
  t45 := Tryz.underlying155
  a45 := Tryz.isAgg155
  z45 := Tryz.sizeOf155
  v45 := Tryz.zeroValue155
  t46 := Tryz.underlying156
  a46 := Tryz.isAgg156
  z46 := Tryz.sizeOf156
  v46 := Tryz.zeroValue156
  t50 := Tryz.underlying94
  a50 := Tryz.isAgg94
  z50 := Tryz.sizeOf94
  v50 := Tryz.zeroValue94
  t53 := Tryz.underlying103
  a53 := Tryz.isAgg103
  z53 := Tryz.sizeOf103
  v53 := Tryz.zeroValue103
  t55 := Tryz.underlying27
  a55 := Tryz.isAgg27
  z55 := Tryz.sizeOf27
  v55 := Tryz.zeroValue27
  t66 := Tryz.underlying165
  a66 := Tryz.isAgg165
  z66 := Tryz.sizeOf165
  v66 := Tryz.zeroValue165
  t70 := Tryz.underlying169
  a70 := Tryz.isAgg169
  z70 := Tryz.sizeOf169
  v70 := Tryz.zeroValue169
  t76 := Tryz.underlying171
  a76 := Tryz.isAgg171
  z76 := Tryz.sizeOf171
  v76 := Tryz.zeroValue171
  t77 := Tryz.underlying172
  a77 := Tryz.isAgg172
  z77 := Tryz.sizeOf172
  v77 := Tryz.zeroValue172 }
end Go.Proofs
namespace Go.Sx
open Go Go.RowKit
section
variable {P : Program} {env : Env} {n : Nat} {d : Option Nat} {T : TypeId} {p : String} {af : Array Edge} {g : Option (Nat × Bool)} {w w' : World} {K : Value → World → Prop} {ops : Array Oper} {Q : Exit → Act → World → Prop}
theorem WC.drawD {id : Nat} (plan : List Nat) (hm : P.follows .mixedOrders = true) (hp : planOK ops plan = true)
    (h : ∀ w', Le w w' → w'.drawn = w.drawn + 1 → G P ops Q n plan env w') : WC P Q n (.region id ops true) env w := fun a ha => wp_draw plan hm hp (h _ (Le.drew w) rfl a ha)
theorem Ef.boxAD {t : TypeId} {x : Operand} {cs : Array Value} (hx : ev env x = some (.agg cs)) (h : ∀ gb w', w.heap.size ≤ gb → Blk w' gb t cs → Le w w' → w'.drawn = w.drawn → K (.pointer (some ⟨gb, 0, none⟩)) w') : Ef P env n ⟨d, .box t x, T, p, af, g⟩ w K :=
  .of_run (v := .pointer (some ⟨w.heap.size, 0, none⟩)) (w' := w.alloc (.cells cs t)) (fun a ha => by
    simp [execOp, Instr.box, ha.eval hx, newVar, newRow, Value.cells]) (h _ _ (Nat.le_refl _) (Blk.new w t _) (Le.alloc w _) rfl)
theorem Ef.buildSliceVD {t e b s len : Nat} {z : Value} {parts : Array (Nat × Operand)} (vs : List Value) (ht : P.underlying t = some (.slice e)) (hel : El P e s b z) (hp : evp env parts.toList = some (enumV 0 vs)) (h1 : ∀ v ∈ vs, v.cells.size = s) (hl : vs.length = len) (hlen : len * s ≤ 16777216) (hpos : 0 < len)
    (h : ∀ gb w', w.heap.size ≤ gb → Blk w' gb e (flatV vs).toArray → Le w w' → w'.drawn = w.drawn → K (.slice (some ⟨gb, 0, none⟩) len len) w') : Ef P env n ⟨d, .buildSlice t len parts, T, p, af, g⟩ w K := by
  have hs0 : 0 < s := by obtain ⟨i, _, _, _, _, _, h0⟩ := hel; exact h0
  have hfl : (flatV vs).length = len * s := by rw [flatV_length s vs h1, hl]
  have hmap : ((Array.range (len * s)).map (fun x => z.cells[x % z.cells.size]!)).size = len * s := by simp
  obtain ⟨zl, hzl⟩ : ∃ zl : List Value, ((Array.range (len * s)).map (fun x => z.cells[x % z.cells.size]!)) = zl.toArray := ⟨_, (Array.toArray_toList).symm⟩
  have hzlen : zl.length = len * s := by rw [hzl] at hmap; simpa using hmap
  have hf := fill_go (fun i => some (i * s, s)) vs 0 [] zl (by simpa using cont_arr s vs 0 h1) (by omega)
  have hd : zl.drop (flatV vs).length = [] := List.drop_of_length_le (by omega)
  rw [hd, List.append_nil, List.nil_append, List.nil_append] at hf
  refine .of_run (v := .slice (some ⟨w.heap.size, 0, none⟩) len len) (w' := w.alloc (.cells (flatV vs).toArray e)) (fun a ha => ?_) (h _ _ (Nat.le_refl _) (Blk.new w e _) (Le.alloc w _) rfl)
  have hparts : parts.map (fun (i, x) => (i, a.eval x)) = (enumV 0 vs).toArray := by rw [← ha.evparts hp]; apply Array.ext'; simp
  have hn0 : ¬ (len * s = 0) := by have := Nat.mul_pos hpos hs0; omega
  have hbig : ¬ (len * s > 2 ^ 24) := by omega
  simp only [execOp, Instr.buildSlice, Sem.run_bind, run_underlying ht, Result.andThen_ok, hel.sz.run, hparts, newRow]
  rw [if_neg hbig, if_neg hn0]
  simp only [Sem.run_bind, Sem.run_pure, Result.andThen_ok, hel.zr.run]
  rw [hzl, hf]
  simp
theorem Le.of_eq (e : w' = w) : Le w w' := by subst e; exact Le.refl _
/-- A world that only grew, and drew no less. -/
theorem grown_of_le (h : Le w w') (hd : w.drawn ≤ w'.drawn) : ∃ q os', w' = Go.Sort.grow (w.drewN q) os' := by
  obtain ⟨⟨k, os⟩, e⟩ := regrown_of_below h
  have e2 : w'.drawn = k := by rw [e]; rfl
  refine ⟨w'.drawn - w.drawn, os, ?_⟩
  have e3 : w.drewN (w'.drawn - w.drawn) = redrawn w k := by
    unfold World.drewN redrawn
    rw [show w.drawn + (w'.drawn - w.drawn) = k by omega]
  rw [e3]
  exact e
section
open Go.Sort Go.Proofs
variable {α : Type} [Inhabited α] {f : α → List Value} {s : Nat}
theorem flatK_at (hf : RowF f s) (xs : List α) {j : Nat} (hj : j < xs.length * s) : (xs.map f).flatten[j]? = some (flatK f s xs.toArray)[j]! := by
  have hs := hf.pos
  have hq : j / s < xs.length := Nat.div_lt_of_lt_mul (by rw [Nat.mul_comm]; exact hj)
  have hr : j % s < (f xs[j / s]).length := by rw [hf.len]; exact Nat.mod_lt _ hs
  have h1 := cells_at hf xs (j := j / s) (o := j % s) (List.getElem?_eq_getElem hq) (List.getElem?_eq_getElem hr)
  rw [show j / s * s + j % s = j by rw [Nat.mul_comm]; exact Nat.div_add_mod j s] at h1
  rw [h1, get_flatK f s xs.toArray j (by simpa using hj)]
  congr 1
  simp [hq]
  rw [List.getElem?_eq_getElem hr]
  rfl
theorem holdsK_of {base e m c gb : Nat} {xs : List α} (hf : RowF f s) (h : OVec w base e f s (Option.some ⟨gb, 0, none⟩) m c xs) (hm : 0 < m) : HoldsK f s w gb 0 xs.toArray := by
  obtain ⟨cur, hB, hsz, ht⟩ := Own.block h.2 hm
  intro j hj
  rw [size_flatK] at hj
  have hj2 : j < xs.length * s := by simpa using hj
  have hjm : j < m * s := by rw [← h.1]; exact hj2
  rw [Nat.zero_add]
  refine ⟨?_, hB.frozen j⟩
  rw [hB.cell j]
  have h2 := flatK_at hf xs hj2
  rw [← ht, List.getElem?_take, if_pos hjm] at h2
  simpa using h2
theorem ofSortK {base e m c gb : Nat} {xs : List α} (hf : RowF f s) (h : OVec w base e f s (Option.some ⟨gb, 0, none⟩) m c xs) (hm : 0 < m) {d' : Array α} {q : Nat} {os : Array Obj} (hd : d'.size = m) (hw : w' = sortWorldK f s w gb 0 q d' os) :
    OVec w' base e f s (Option.some ⟨gb, 0, none⟩) m c d'.toList ∧ Ch w w' (Option.some gb) := by
  obtain ⟨cur, hB, hsz, ht⟩ := Own.block h.2 hm
  have hlt := hB.lt
  have hcap := h.cap
  have hbase := (h.row (rowOf_some gb 0 c (by omega))).1
  have hheap : w'.heap = (w.heap.modify gb (onCells (putCells id 0 (flatK f s d')))) ++ os := by rw [hw]; rfl
  have hg : w'.heap[gb]? = some (.cells (putCells id 0 (flatK f s d') cur) e (0, 0)) := by
    rw [hheap, Array.getElem?_append_left (by simpa using hlt), Array.getElem?_modify, if_pos rfl, show w.heap[gb]? = _ from hB]
    rfl
  have hps : (putCells id 0 (flatK f s d') cur).size = c * s := by simp [putCells, hsz]
  refine ⟨⟨by simpa using hd, ?_, .inr ⟨gb, _, rfl, hbase, hg, hcap.1, hcap.2, hps, ?_⟩⟩, ?_⟩
  · rw [cells_len hf]; simp [hd]
  · apply List.ext_getElem?
    intro j
    rw [List.getElem?_take]
    by_cases hj : j < m * s
    · rw [if_pos hj, flatK_at hf d'.toList (by simpa [hd] using hj)]
      have hjc : j < cur.size := by rw [hsz]; exact Nat.lt_of_lt_of_le hj (Nat.mul_le_mul_right _ hcap.1)
      rw [Array.getElem?_toList]
      unfold putCells
      rw [Array.getElem?_mapIdx, Array.getElem?_eq_getElem hjc, Option.map_some, if_pos ⟨Nat.zero_le _, by rw [size_flatK, hd]; omega⟩]
      simp
    · rw [if_neg hj, List.getElem?_eq_none]
      rw [cells_len hf]
      simp [hd]
      omega
  · refine ⟨by rw [hw]; rfl, by rw [hw]; rfl, by rw [hw]; rfl, by rw [hheap]; simp, fun k hk hne => ?_⟩
    rw [hheap, Array.getElem?_append_left (by simpa using hk), Array.getElem?_modify, if_neg (fun e => hne (by rw [e]))]
end
end
end Go.Sx
namespace Go.Proofs.YtgpdfkplkaojcaaGreat
open Go Go.Sx Go.Hsp Go.Num Go.Osp Go.Gsp Go.Asp
theorem isNaN3_ok (a : Int) (w : World) : Calls Tryz.prog 90 #[.int .i64 (a)] w fun r w' => r = .returned (.bool false) ∧ w' = w := by
  refine enter Tryz.func90 rfl rfl ?_
  have L0 := Le.refl w
  refine WC.seq ?_
  refine WC.region ?_
  refine W.any (.assign rfl) rfl rfl rfl ?_
  refine W.nil ?_
  refine E.thenN ?_
  refine WC.seq ?_
  refine WC.region ?_
  refine W.any (.move rfl) rfl rfl rfl ?_
  refine W.any (.move rfl) rfl rfl rfl ?_
  refine W.any (.neq rfl rfl) rfl rfl rfl ?_
  refine W.any (.assign rfl) rfl rfl rfl ?_
  refine W.nil ?_
  refine E.thenN ?_
  refine WC.ret ?_
  refine E.retG1 rfl rfl ?_
  exact ⟨by simp, rfl⟩

theorem compare3_ok (a b : Int) (w : World) : Calls Tryz.prog 71 #[.int .i64 (a), .int .i64 (b)] w fun r w' => r = .returned (.int .i64 (cmpI a b)) ∧ w' = w := by
  refine enter Tryz.func71 rfl rfl ?_
  have L0 := Le.refl w
  refine WC.seq ?_
  refine WC.region ?_
  refine W.any (.assign rfl) rfl rfl rfl ?_
  refine W.nil ?_
  refine E.thenN ?_
  refine WC.seq ?_
  refine WC.region ?_
  refine W.any (.move rfl) rfl rfl rfl ?_
  refine W.ef rfl rfl rfl ?_
  refine Ef.call go90 rfl rfl (isNaN3_ok a w) ?_
  rintro _ w1_1 ⟨rfl, e1_1⟩; have h1_1 := Le.of_eq e1_1
  refine ⟨_, rfl, ?_⟩
  have L1 := L0.trans h1_1
  refine W.any (.assign rfl) rfl rfl rfl ?_
  refine W.nil ?_
  refine E.thenN ?_
  refine WC.seq ?_
  refine WC.region ?_
  refine W.any (.move rfl) rfl rfl rfl ?_
  refine W.ef rfl rfl rfl ?_
  refine Ef.call go90 rfl rfl (isNaN3_ok b w1_1) ?_
  rintro _ w2_1 ⟨rfl, e2_1⟩; have h2_1 := Le.of_eq e2_1
  refine ⟨_, rfl, ?_⟩
  have L2 := L1.trans h2_1
  refine W.any (.assign rfl) rfl rfl rfl ?_
  refine W.nil ?_
  refine E.thenN ?_
  refine WC.seq ?_
  refine WC.seq ?_
  refine WC.region ?_
  refine W.any (.move rfl) rfl rfl rfl ?_
  refine W.nil ?_
  refine E.thenN ?_
  refine WC.condF rfl ?_
  refine WC.skip ?_
  refine E.thenN ?_
  refine WC.seq ?_
  refine WC.seq ?_
  refine WC.region ?_
  refine W.any (.move rfl) rfl rfl rfl ?_
  refine W.nil ?_
  refine E.thenN ?_
  refine WC.condF rfl ?_
  refine WC.skip ?_
  refine E.thenN ?_
  refine WC.seq ?_
  refine WC.seq ?_
  refine WC.region ?_
  refine W.any (.move rfl) rfl rfl rfl ?_
  refine W.any (.move rfl) rfl rfl rfl ?_
  refine W.any (.lss rfl rfl) rfl rfl rfl ?_
  refine W.nil ?_
  refine E.thenN ?_
  by_cases c3 : a < b
  · refine WC.condY rfl (decide_eq_true c3) ?_
    refine WC.seq ?_
    refine WC.region ?_
    refine W.any (.assign rfl) rfl rfl rfl ?_
    refine W.nil ?_
    refine E.thenN ?_
    refine WC.ret ?_
    refine E.thenR ?_
    refine E.retG1 rfl rfl ?_
    exact ⟨(by first | rfl | (simp [cmpI, c3]; done) | (simp [cmpI, c3]; omega) | (simp [cmpI, c3]; split <;> first | (exfalso; omega) | (simp; done) | (simp; omega))), by subst_vars; rfl⟩
  · refine WC.condN rfl (decide_eq_false c3) ?_
    refine WC.skip ?_
    refine E.thenN ?_
    refine WC.seq ?_
    refine WC.seq ?_
    refine WC.region ?_
    refine W.any (.move rfl) rfl rfl rfl ?_
    refine W.any (.move rfl) rfl rfl rfl ?_
    refine W.any (.gtr rfl rfl) rfl rfl rfl ?_
    refine W.nil ?_
    refine E.thenN ?_
    by_cases c4 : b < a
    · refine WC.condY rfl (decide_eq_true c4) ?_
      refine WC.seq ?_
      refine WC.region ?_
      refine W.any (.assign rfl) rfl rfl rfl ?_
      refine W.nil ?_
      refine E.thenN ?_
      refine WC.ret ?_
      refine E.thenR ?_
      refine E.retG1 rfl rfl ?_
      exact ⟨(by first | rfl | (simp [cmpI, c3, c4]; done) | (simp [cmpI, c3, c4]; omega) | (simp [cmpI, c3, c4]; split <;> first | (exfalso; omega) | (simp; done) | (simp; omega))), by subst_vars; rfl⟩
    · refine WC.condN rfl (decide_eq_false c4) ?_
      refine WC.skip ?_
      refine E.thenN ?_
      refine WC.seq ?_
      refine WC.region ?_
      refine W.any (.assign rfl) rfl rfl rfl ?_
      refine W.nil ?_
      refine E.thenN ?_
      refine WC.ret ?_
      refine E.retG1 rfl rfl ?_
      exact ⟨(by first | rfl | (simp [cmpI, c3, c4]; done) | (simp [cmpI, c3, c4]; omega) | (simp [cmpI, c3, c4]; split <;> first | (exfalso; omega) | (simp; done) | (simp; omega))), by subst_vars; rfl⟩

theorem or3_ok {A : Option Addr} {n c : Nat} {xs : List Int} (w : World) (hV : Vec w iv 1 A n xs) (hn : n ≤ 1000000) : Calls Tryz.prog 70 #[.slice A n c] w fun r w' => r = .returned (.int .i64 (orL xs)) ∧ w' = w := by
  have hl := hV.1
  refine enter Tryz.func70 rfl rfl ?_
  have L0 := Le.refl w
  refine WC.seq ?_
  refine WC.region ?_
  refine W.any (.assign rfl) rfl rfl rfl ?_
  refine W.nil ?_
  refine E.thenN ?_
  refine WC.seq ?_
  refine WC.region ?_
  refine W.any (.assign rfl) rfl rfl rfl ?_
  refine W.nil ?_
  refine E.thenN ?_
  refine WC.seq ?_
  refine WC.seq ?_
  refine WC.region ?_
  refine W.any (.move rfl) rfl rfl rfl ?_
  refine W.rd (.len Tryz.underlying23 rfl) rfl rfl rfl ?_
  refine W.any (.move rfl) rfl rfl rfl ?_
  refine W.nil ?_
  refine E.thenN ?_
  refine WC.block ?_
  refine WC.loop (ι := Nat) (fun k => [(3, .int .i64 (0)), (6, .slice A n c), (7, .int .i64 (((n : Nat) : Int))), (8, .int .i64 (((k : Nat) : Int)))]) (fun k wl0 => (k ≤ n) ∧ (wl0 = w) ∧ (∀ j, j < k → xs.getD j 0 = 0) ∧ Le w wl0 ∧ w.heap.size ≤ wl0.heap.size) (fun k => n - k) 0 ?_ ?_ ?_
  · exact .cons rfl (.cons rfl (.cons rfl (.cons rfl (.nil _))))
  · exact ⟨Nat.zero_le _, rfl, fun j hj => absurd hj (Nat.not_lt_zero _), L0, Nat.le_refl _⟩
  · rintro k wl0 ⟨hk, hww, hz, Ll0, zl0⟩
    refine WC.seq ?_
    refine WC.region ?_
    refine W.any (.lss rfl rfl) rfl rfl rfl ?_
    refine W.nil ?_
    refine E.thenN ?_
    refine WC.seq ?_
    by_cases c0 : ((k : Nat) : Int) < ((n : Nat) : Int)
    · refine WC.condY rfl (decide_eq_true c0) ?_
      refine WC.skip ?_
      refine E.thenN ?_
      refine WC.seq ?_
      refine WC.block ?_
      refine WC.seq ?_
      refine WC.region ?_
      refine W.any (.idxS (k) Tryz.underlying23 sz3 rfl rfl (hV.isSome iv_row (by omega)) (rfl) (by omega)) rfl rfl rfl ?_
      refine W.rd (.vone (v := .int .i64 ((xs.getD k 0))) na3 rfl (hV.le Ll0) iv_row (getS xs 0 (by first | omega | (simp only [List.length_cons, List.length_nil]; omega))) rfl) rfl rfl rfl ?_
      refine W.any (.assign rfl) rfl rfl rfl ?_
      refine W.nil ?_
      refine E.thenN ?_
      refine WC.seq ?_
      refine WC.region ?_
      refine W.any (.move rfl) rfl rfl rfl ?_
      refine W.any (.move rfl) rfl rfl rfl ?_
      refine W.any (.neq rfl rfl) rfl rfl rfl ?_
      refine W.nil ?_
      refine E.thenN ?_
      by_cases c1 : (xs.getD k 0) ≠ 0
      · refine WC.condY rfl (decide_eq_true c1) ?_
        refine WC.seq ?_
        refine WC.region ?_
        refine W.any (.move rfl) rfl rfl rfl ?_
        refine W.any (.assign rfl) rfl rfl rfl ?_
        refine W.nil ?_
        refine E.thenN ?_
        refine WC.ret ?_
        refine E.blkR ?_
        refine E.thenR ?_
        refine E.thenR ?_
        refine E.blkR ?_
        refine E.thenR ?_
        refine E.retG1 rfl rfl ?_
        exact ⟨by rw [orL_skip xs k hz, List.drop_eq_getElem_cons (by omega), orL, if_pos (by simpa [List.getD, show k < xs.length by omega] using c1)]; simp [List.getD, show k < xs.length by omega], hww⟩
      · refine WC.condN rfl (decide_eq_false c1) ?_
        refine WC.skip ?_
        refine E.blkN ?_
        refine E.thenN ?_
        refine WC.region ?_
        refine W.any (.add rfl rfl (by omega)) rfl rfl rfl ?_
        refine W.any (.move rfl) rfl rfl rfl ?_
        refine W.nil ?_
        refine E.again (k + 1) (.cons rfl (.cons rfl (.cons rfl (.cons rfl (.nil _))))) ?_ ?_
        · exact ⟨by omega, hww, fun j hj => by rcases Nat.lt_or_ge j k with h | h; exact hz j h; rw [show j = k by omega]; exact Classical.not_not.1 c1, Ll0, by have := zl0; omega⟩
        · first | omega | (simp only []; omega)
    · refine WC.condN rfl (decide_eq_false c0) ?_
      refine WC.exit ?_
      refine E.thenX ?_
      refine E.thenX ?_
      refine E.blkH ?_
      refine E.thenN ?_
      refine WC.seq ?_
      refine WC.region ?_
      refine W.any (.move rfl) rfl rfl rfl ?_
      refine W.any (.assign rfl) rfl rfl rfl ?_
      refine W.nil ?_
      refine E.thenN ?_
      refine WC.ret ?_
      refine E.retG1 rfl rfl ?_
      exact ⟨by rw [orL_skip xs k hz, List.drop_of_length_le (by omega)]; rfl, hww⟩

def ordA (x y : Asp.Ad) : Int := orL [cmpI x.e.c y.e.c, cmpI x.e.f y.e.f]

theorem ads1_ok (x y : Asp.Ad) (w : World) : Calls Tryz.prog 69 #[.agg (adV x).toArray, .agg (adV y).toArray] w fun r w' => r = .returned (.int .i64 (ordA x y)) ∧ Le w w' ∧ w.drawn ≤ w'.drawn := by
  refine enter Tryz.func69 rfl rfl ?_
  have L0 := Le.refl w
  refine WC.seq ?_
  refine WC.region ?_
  refine W.ef rfl rfl rfl ?_
  refine Ef.boxAD rfl ?_
  intro g0_0 w0_0 hg0_0 b0_0 h0_0 ddw0_0
  have L1 := L0.trans h0_0
  have b0_0 : Blk w0_0 g0_0 40 (adV x).toArray := b0_0
  refine W.ef rfl rfl rfl ?_
  refine Ef.boxAD rfl ?_
  intro g0_1 w0_1 hg0_1 b0_1 h0_1 ddw0_1
  have L2 := L1.trans h0_1
  have b0_1 : Blk w0_1 g0_1 40 (adV y).toArray := b0_1
  refine W.any (.assign rfl) rfl rfl rfl ?_
  refine W.nil ?_
  refine E.thenN ?_
  refine WC.seq ?_
  refine WC.drawD [0, 1, 2, 3, 4, 5, 7, 8, 9, 10, 11, 12, 6, 13, 14, 15, 16] mixed (by kernel_rfl) ?_
  intro w1 d1 ddd1
  have L3 := L2.trans d1
  refine G.any rfl rfl (.field0 fa40_0 rfl) rfl rfl rfl ?_
  refine G.any rfl rfl (.field0 fa36_2 rfl) rfl rfl rfl ?_
  have f4 := (b0_0.le (h0_1.trans d1))
  refine G.rd rfl rfl (.loadB (v := .int .i64 (x.e.c)) na3 rfl f4 rfl) rfl rfl rfl ?_
  refine G.any rfl rfl (.field0 fa40_0 rfl) rfl rfl rfl ?_
  refine G.any rfl rfl (.field0 fa36_2 rfl) rfl rfl rfl ?_
  have f5 := (b0_1.le d1)
  refine G.rd rfl rfl (.loadB (v := .int .i64 (y.e.c)) na3 rfl f5 rfl) rfl rfl rfl ?_
  refine G.any rfl rfl (.field0 fa40_0 rfl) rfl rfl rfl ?_
  refine G.any rfl rfl (.field0 fa36_0 rfl) rfl rfl rfl ?_
  refine G.rd rfl rfl (.loadB (v := .int .i64 (x.e.f)) na3 rfl f4 rfl) rfl rfl rfl ?_
  refine G.any rfl rfl (.field0 fa40_0 rfl) rfl rfl rfl ?_
  refine G.any rfl rfl (.field0 fa36_0 rfl) rfl rfl rfl ?_
  refine G.rd rfl rfl (.loadB (v := .int .i64 (y.e.f)) na3 rfl f5 rfl) rfl rfl rfl ?_
  refine G.ef rfl rfl rfl rfl rfl ?_
  refine Ef.call go71 rfl rfl (compare3_ok x.e.c y.e.c w1) ?_
  rintro _ w1_6 ⟨rfl, e1_6⟩; have h1_6 := Le.of_eq e1_6; have dd1_6 := congrArg World.drawn e1_6
  refine ⟨_, rfl, ?_⟩
  refine ⟨fun _ => h1_6, ?_⟩
  have L6 := L3.trans h1_6
  refine G.ef rfl rfl rfl rfl rfl ?_
  refine Ef.call go71 rfl rfl (compare3_ok x.e.f y.e.f w1_6) ?_
  rintro _ w1_13 ⟨rfl, e1_13⟩; have h1_13 := Le.of_eq e1_13; have dd1_13 := congrArg World.drawn e1_13
  refine ⟨_, rfl, ?_⟩
  refine ⟨fun _ => h1_13, ?_⟩
  have L7 := L6.trans h1_13
  refine G.ef rfl rfl rfl rfl rfl ?_
  refine Ef.buildSliceVD (len := 2) [_, _] Tryz.underlying23 el3 rfl (by simp [Value.cells]) rfl (by decide) (by decide) ?_
  intro g1_14 w1_14 hg1_14 b1_14 h1_14 ddw1_14
  refine ⟨fun _ => h1_14, ?_⟩
  have L8 := L7.trans h1_14
  have b1_14 : Blk w1_14 g1_14 3 (([(cmpI x.e.c y.e.c), (cmpI x.e.f y.e.f)]).map iv).flatten.toArray := b1_14
  have o1_14 : OVec w1_14 w1_13.heap.size 3 iv 1 (some ⟨g1_14, 0, none⟩) 2 2 ([(cmpI x.e.c y.e.c), (cmpI x.e.f y.e.f)]) := b1_14.ovec hg1_14 iv_row rfl rfl (by decide)
  refine G.ef rfl rfl rfl rfl rfl ?_
  refine Ef.call go70 rfl rfl (or3_ok w1_14 o1_14.vec (by decide)) ?_
  rintro _ w1_15 ⟨rfl, e1_15⟩; have h1_15 := Le.of_eq e1_15; have dd1_15 := congrArg World.drawn e1_15
  refine ⟨_, rfl, ?_⟩
  refine ⟨fun _ => h1_15, ?_⟩
  have L9 := L8.trans h1_15
  refine G.any rfl rfl (.assign rfl) rfl rfl rfl ?_
  refine G.nil ?_
  refine E.thenN ?_
  refine WC.ret ?_
  refine E.retG1 rfl rfl ?_
  exact ⟨rfl, L9, by omega⟩

open Go.Sort Go.Bsp in
theorem ltA (x y : Asp.Ad) : ltOf ordA x y = true ↔ adLt x y := by
  unfold ltOf ordA adLt sdLt sdOf
  simp only [decide_eq_true_eq, cmpI, orL]
  by_cases h1 : x.e.c < y.e.c
  · simp [h1]
  · by_cases h2 : y.e.c < x.e.c
    · simp [h1, h2]; omega
    · have h3 : x.e.c = y.e.c := by omega
      by_cases h4 : x.e.f < y.e.f
      · simp [h3, h4]
      · by_cases h5 : y.e.f < x.e.f
        · simp [h3, h4, h5]
        · simp [h3, h4, h5]
open Go.Sort Go.Bsp in
theorem swoA : SWO (ltOf ordA) where
  irrefl x := by cases h : ltOf ordA x x; rfl; exact absurd ((ltA x x).1 h) (fun h => sdLt_irr h)
  trans x y z h1 h2 := by
    rw [ltA] at *
    unfold adLt sdLt at *
    omega
  ntrans x y z h1 h2 := by
    cases h : ltOf ordA x z
    · rfl
    · have n1 : ¬ adLt x y := fun hh => by rw [(ltA x y).2 hh] at h1; cases h1
      have n2 : ¬ adLt y z := fun hh => by rw [(ltA y z).2 hh] at h2; cases h2
      rw [ltA] at h
      unfold adLt sdLt at *
      omega
instance adInh : Inhabited Asp.Ad := ⟨noAd⟩
open Go.Sort Go.Bsp Go.Shelf in
theorem sortad_ok {base : Nat} {A : Option Addr} {n c : Nat} {xs : List Asp.Ad} (w : World) (hO : OVec w base 40 adV 13 A n c xs) (hn : n ≤ 1000000) : Calls Tryz.prog 68 #[.slice A n c, .func (.func 69) #[] #[]] w fun r w' => ∃ zs, r = .returned (.tuple #[]) ∧ zs.Perm xs ∧ zs.Pairwise (fun a b => ¬ adLt b a) ∧ OVec w' base 40 adV 13 A n c zs ∧ Ch w w' (rowOf A c) := by
  by_cases h0 : n = 0
  · subst h0
    have h := AnyF.slices_SortFunc_none Tryz.sortF A c (.func (.func 69) #[] #[]) w
    change Calls Tryz.prog 68 _ _ _ at h
    refine Calls.mono h ?_
    rintro r w' ⟨rfl, rfl⟩
    have hx : xs = [] := List.length_eq_zero_iff.1 hO.1
    subst hx
    exact ⟨[], rfl, List.Perm.refl _, List.Pairwise.nil, hO, Ch.refl _ _⟩
  · obtain ⟨g, rfl, hb, hlt, hrow⟩ := hO.2.lit (by omega)
    have hl : xs.toArray.size = n := by simpa using hO.1
    have hcmp : CmpLays Tryz.prog 69 #[] adV 13 ordA g 0 xs.toArray.size w := fun m os dk hs x y => by
      refine Calls.mono (ads1_ok x y _) ?_
      rintro r w' ⟨rfl, h1, h2⟩
      exact ⟨rfl, grown_of_le h1 h2⟩
    have eg : ∀ args w, (callFunc 69 args).run Tryz.prog w = .ok (.enter 69 args) w := enters_of Tryz.func69 (by kernel_rfl) rfl
    have h := AnyQ.slices_SortFunc Tryz.sortF 13 Tryz.isAgg40 Tryz.sizeOf40 adV (fun x => adV_row.len x) (fun x v hv => adV_row.one x v hv) ordA swoA 69 #[] g 0 c xs.toArray w eg hcmp (holdsK_of adV_row hO (by omega)) hlt (by rw [hl]; omega)
    change Calls Tryz.prog 68 _ _ _ at h
    rw [hl] at h
    refine Calls.mono h ?_
    rintro r w' ⟨rfl, d', q, os, hp, hs, hw⟩
    have hd : d'.size = n := by rw [hp.1, hl]
    obtain ⟨h1, h2⟩ := ofSortK adV_row hO (by omega) hd hw
    refine ⟨d'.toList, rfl, ?_, ?_, h1, by rw [hrow]; exact h2⟩
    · have := hp.2.2
      rw [show d'.extract 0 n = d' by rw [← hd]; simp, show xs.toArray.extract 0 n = xs.toArray by rw [← hl]; simp] at this
      simpa using this
    · rw [List.pairwise_iff_getElem]
      intro i j hi hj hij hh
      have hi2 : i < d'.size := by simpa using hi
      have hj2 : j < d'.size := by simpa using hj
      have := hs i j (Nat.zero_le _) hij (by omega)
      rw [getElem!_pos d' j hj2, getElem!_pos d' i hi2] at this
      rw [(ltA _ _).2 (by simpa using hh)] at this
      cases this
end Go.Proofs.YtgpdfkplkaojcaaGreat

namespace Go.Proofs.YtgpdfkplkaojcaaGreat
open Go Go.Sx Go.Hsp Go.Num Go.Osp Go.Gsp Go.Asp Go.Bsp
set_option maxRecDepth 20000
set_option linter.unusedSimpArgs false
set_option linter.unusedVariables false
def noSd : Sd := ⟨0, 0⟩
def Sdix (k : Sd) (j : Nat) : Int := if j = 0 then k.c else k.f
def sdV (k : Sd) : List Value := [.int .i64 k.c, .int .i64 k.f]
theorem sdV_row : RowF sdV 2 := ⟨fun _ => rfl, fun x v hv => by simp [sdV] at hv; rcases hv with rfl | rfl <;> rfl, by decide⟩
theorem sd_ixv (k : Sd) {j : Nat} (h : j < 2) : (sdV k).toArray[j]? = some (.int .i64 (Sdix k j)) := by
  have : j = 0 ∨ j = 1 := by omega
  rcases this with rfl | rfl <;> rfl
def sdf (k : Sd) : Value := .agg (sdV k).toArray
def adf (a : Asp.Ad) : Value := .agg (adV a).toArray
/-- When a side was heard: a slice that is never written again. -/
structure Wh where
  A : Option Addr
  n : Nat
  c : Nat
  xs : List Int
def noWh : Wh := ⟨none, 0, 0, []⟩
def whf (e : Wh) : Value := .slice e.A e.n e.c
def Wh.has (e : Wh) (k : Nat) : Prop := 0 < e.n ∧ blkOf e.A = some k
abbrev AM := List (Nat × Sd × Asp.Ad)
abbrev WM := List (Nat × Sd × Wh)
theorem eqv_sd {d : Nat} (a b : Sd) : Eqv Tryz.prog (d + 2) 82 (sdf a) (sdf b) (decide (a = b)) := by
  have h := Eqv.arr (P := Tryz.prog) (d := d + 1) (xs := (sdV a).toArray) (ys := (sdV b).toArray) (fun i => decide (Sdix a i = Sdix b i)) (fun i => .int .i64 (Sdix a i)) (fun i => .int .i64 (Sdix b i)) Tryz.underlying82 sz3 (fun i hi w => run_part1 na3 (by rw [Nat.mul_one]; exact sd_ixv a hi) w) (fun i hi w => run_part1 na3 (by rw [Nat.mul_one]; exact sd_ixv b hi) w) (fun i hi => Eqv.int (P := Tryz.prog) _ _ Tryz.underlying3)
  have e : ((List.range 2).all fun i => decide (Sdix a i = Sdix b i)) = decide (a = b) := by
    obtain ⟨a1, a2⟩ := a
    obtain ⟨b1, b2⟩ := b
    rw [Bool.eq_iff_iff]
    simp [List.range_succ, Sdix]
  rw [e] at h
  exact h
theorem check_sd (b : Bool) (k : Sd) (w : World) : ∀ m : Nat, (Instr.checkKey b (m + 2) 82 (sdf k)).run Tryz.prog w = .ok () w := by
  intro m
  have hi : ∀ (v : Int) (w : World), (Instr.checkKey b (m + 1) 3 (.int .i64 v)).run Tryz.prog w = .ok () w := fun v w => by unfold Instr.checkKey; simp [run_underlying Tryz.underlying3]
  have p0 : ∀ w : World, (part 3 (sdV k).toArray 0).run Tryz.prog w = .ok (.int .i64 k.c) w := run_part1 na3 rfl
  have p1 : ∀ w : World, (part 3 (sdV k).toArray 1).run Tryz.prog w = .ok (.int .i64 k.f) w := run_part1 na3 rfl
  have hs : ∀ w : World, (Go.sizeOf 3).run Tryz.prog w = .ok 1 w := sz3.run
  unfold Instr.checkKey
  simp only [Sem.run_bind, run_underlying Tryz.underlying82, Result.andThen_ok, sdf]
  simp [Std.Legacy.Range.forIn_eq_forIn_range', List.range', p0, p1, hi, hs]
theorem KeyG.arr {κ : Type} [DecidableEq κ] {P : Program} {kf : κ → Value} {kt len e : Nat} (hu : P.underlying kt = some (.array len e)) (hc : ∀ (b : Bool) (key : κ) (w : World), (Instr.checkKey b 10000 kt (kf key)).run P w = .ok () w) (ha : ∀ k, ∃ cs, kf k = .agg cs) (he : ∀ a b, Eqv P 10000 kt (kf a) (kf b) (decide (a = b))) : KeyG P kt kf := by
  refine ⟨hc, fun key l w => ?_⟩
  have hs : ∀ (l : List (Nat × κ × Value)) (i : Nat) (w : World), (Instr.findAsking kt (kf key) (l.map (entG kf id)) i).run P w = .ok (findG key l i) w := by
    intro l
    induction l with
    | nil => intro i w; simp [Instr.findAsking, findG]
    | cons x l ih =>
      intro i w
      simp only [List.map_cons, Instr.findAsking, Sem.run_bind, Op.equal, Op.maxDepth, entG, he key x.2.1 w, Result.andThen_ok, findG]
      by_cases hk : key = x.2.1
      · simp [hk]
      · simp only [hk, decide_false, Bool.false_eq_true, if_false]
        exact ih (i + 1) w
  cases l with
  | nil => simp [Instr.findKey, run_underlying hu, Instr.findNow, findG]
  | cons x l =>
    have := hs (x :: l) 0 w
    obtain ⟨cs, hk⟩ := ha key
    simp only [Instr.findKey, Sem.run_bind, run_underlying hu, Result.andThen_ok, List.map_cons, Instr.findNow, entG, Instr.sameNow]
    exact this
theorem ksd : KeyG Tryz.prog 82 sdf := KeyG.arr Tryz.underlying82 (fun b k w => check_sd b k w 9998) (fun k => ⟨_, rfl⟩) (fun a b => eqv_sd (d := 9998) a b)
theorem stay_sd {k : Sd} {P : Program} (w : World) : (Instr.keyThatStays (sdf k) (sdf k)).run P w = .ok (sdf k) w := by
  have : Instr.sameBits 10000 (sdf k) (sdf k) = true := by simp [sdf, sdV, Instr.sameBits]
  unfold Instr.keyThatStays
  rw [if_pos this]
  rfl
/-- A book that lies in memory. -/
structure BookL (w : World) (gp gn gw : Nat) (A : Option Addr) (c ca cw : Nat) (keys : List Nat) (la : AM) (lw : WM) (ht : Int) : Prop where
  hp : Blk w gp 75 #[.slice A keys.length c, .map (some gn), .map (some gw), .int .i64 ht]
  hK : OVec w 0 28 pv1 1 A keys.length c keys
  hN : MapG w sdf adf gn la ca
  hW : MapG w sdf whf gw lw cw
  hV : ∀ k v, getG k lw = some v → Vec w iv 1 v.A v.n v.xs
  pn : gp ≠ gn
  pw : gp ≠ gw
  nw : gn ≠ gw
  kp : rowOf A c ≠ some gp
  kn : rowOf A c ≠ some gn
  kw : rowOf A c ≠ some gw
  vp : ∀ k v, getG k lw = some v → ∀ q, v.has q → ¬ (q = gp ∨ q = gn ∨ q = gw)
def BF (gp gn gw : Nat) (A : Option Addr) (c : Nat) (lw : WM) (k : Nat) : Prop := k = gp ∨ k = gn ∨ k = gw ∨ rowOf A c = some k ∨ ∃ s v, getG s lw = some v ∧ v.has k
theorem getD_mem' {α : Type} {l : List α} {z : α} {k : Nat} (h : k < l.length) : l.getD k z ∈ l := by
  have : l.getD k z = l[k] := by simp [List.getD, h]
  rw [this]; exact List.getElem_mem h
theorem getG_of_mem {κ β : Type} [DecidableEq κ] {l : List (Nat × κ × β)} {ck : Nat} (hw : WfG l ck) {x : Nat × κ × β} (hx : x ∈ l) : getG x.2.1 l = some x.2.2 := by
  cases h : getG x.2.1 l with
  | none => exact absurd rfl (getG_none.1 h x hx)
  | some v =>
    obtain ⟨b, hb⟩ := getG_mem h
    have := nodup_inj (fun x : Nat × κ × β => x.2.1) l hw.keys hx hb rfl
    rw [this]
theorem getG_put1 {κ β : Type} [DecidableEq κ] {l : List (Nat × κ × β)} {key : κ} {u v : β} (h : getG key l = some v) (k : κ) : getG k (l.map fun y => if y.2.1 = key then (y.1, key, u) else y) = if k = key then some u else getG k l := getG_set ⟨v, h⟩
theorem getG_put0 {κ β : Type} [DecidableEq κ] {l : List (Nat × κ × β)} {key : κ} {u z : β} {b : Nat} (h : getG key l = none) (k : κ) : getG k ((l ++ [(b, key, z)]).map fun y => if y.2.1 = key then (y.1, key, u) else y) = if k = key then some u else getG k l := by
  rw [getG_set ⟨z, by rw [getG_push h, if_pos rfl]⟩]
  by_cases e : k = key
  · rw [if_pos e, if_pos e]
  · rw [if_neg e, if_neg e, getG_push h, if_neg e]
theorem delf2_ok {base n c : Nat} {A : Option Addr} {xs : List Int} {F : Nat} {caps : Array Value} (h : Int) (hgo : IsGo Tryz.prog F) (w : World) (hO : OVec w base 3 iv 1 A n c xs) (hn : n ≤ 1000000) (hf : ∀ (i : Int) (w1 : World), Ch w w1 (rowOf A c) → Calls Tryz.prog F (#[.int .i64 i] ++ caps) w1 fun r w2 => r = .returned (.bool (decide (i ≤ h - 100))) ∧ Le w1 w2) : Calls Tryz.prog 32 #[.slice A n c, .func (.func F) #[] caps] w fun r w' => r = .returned (.slice A (lateB xs h).length c) ∧ OVec w' base 3 iv 1 A (lateB xs h).length c (lateB xs h) ∧ Ch w w' (rowOf A c) := delf_ok (fun i => decide (i ≤ h - 100)) hgo w hO hn hf
def badX (e : Gsp.Edge) (x : Nat × Sd × Asp.Ad) : Bool := badB e x.2.1 x.2.2
def takeR (keys : List Nat) (la : AM) (lw : WM) (ht : Int) (a : Asp.Ad) (h : Int) : Int :=
  if mayA a.e a.no = false ∨ (keys.length : Int) ≤ a.e.f ∨ inB h ht 1048576 = false then 1
  else if verifyA (keys.getD a.e.f.toNat 0) a = false then 7
  else if la.any (badX a.e) = true then 4
  else if a.no ≤ noOf (getG (sdOf a) la) then 24
  else if 4 ≤ (lateB (((getG (sdOf a) lw).map (·.xs)).getD []) h).length then 20
  else 0
section
variable {w w' : World} {gp gn gw c ca cw ca' cw' : Nat} {A : Option Addr} {keys : List Nat} {la la' : AM} {lw lw' : WM} {ht ht' : Int}
theorem BookL.same (h : BookL w gp gn gw A c ca cw keys la lw ht) (hc : ChP w w' (fun k => k = gp ∨ k = gn ∨ k = gw)) (hp : Blk w' gp 75 #[.slice A keys.length c, .map (some gn), .map (some gw), .int .i64 ht]) (hN : MapG w' sdf adf gn la ca) (hW : MapG w' sdf whf gw lw cw) : BookL w' gp gn gw A c ca cw keys la lw ht :=
  ⟨hp, h.hK.chP hc (fun k hk hF => Or.elim hF (fun e => h.kp (e ▸ hk)) (fun hF => Or.elim hF (fun e => h.kn (e ▸ hk)) (fun e => h.kw (e ▸ hk)))), hN, hW, fun k v hv => (h.hV k v hv).chP hc (fun g hg hm _ => h.vp k v hv g ⟨hm, hg⟩), h.pn, h.pw, h.nw, h.kp, h.kn, h.kw, h.vp⟩
theorem rowOf_blk {A : Option Addr} {c q : Nat} (h : blkOf A = some q) (hc : 0 < c) : rowOf A c = some q := by
  unfold rowOf
  rw [if_neg (by omega)]
  exact h
theorem BookL.put (h : BookL w gp gn gw A c ca cw keys la lw ht) (hc : ChP w w' (fun k => k = gp ∨ k = gn ∨ k = gw)) (hp : Blk w' gp 75 #[.slice A keys.length c, .map (some gn), .map (some gw), .int .i64 ht']) (hN : MapG w' sdf adf gn la' ca') (hW : MapG w' sdf whf gw lw' cw') {v : Wh} {s : Sd}
    (hv : OVec w' w.heap.size 3 iv 1 v.A v.n v.c v.xs) (hg : ∀ k, getG k lw' = if k = s then some v else getG k lw) : BookL w' gp gn gw A c ca' cw' keys la' lw' ht' ∧ ∀ q, v.has q → w.heap.size ≤ q := by
  have hb : ∀ q, v.has q → w.heap.size ≤ q := fun q hq => (hv.row (rowOf_blk hq.2 (Nat.lt_of_lt_of_le hq.1 hv.cap.1))).1
  have l1 := h.hp.lt
  have l2 := h.hN.lt
  have l3 := h.hW.lt
  refine ⟨⟨hp, h.hK.chP hc (fun k hk hF => Or.elim hF (fun e => h.kp (e ▸ hk)) (fun hF => Or.elim hF (fun e => h.kn (e ▸ hk)) (fun e => h.kw (e ▸ hk)))), hN, hW, fun k u hu => ?_, h.pn, h.pw, h.nw, h.kp, h.kn, h.kw, fun k u hu q hq => ?_⟩, hb⟩
  · rw [hg] at hu
    split at hu
    · cases hu; exact hv.vec
    · exact (h.hV k u hu).chP hc (fun g hg hm _ => h.vp k u hu g ⟨hm, hg⟩)
  · rw [hg] at hu
    split at hu
    · cases hu
      have := hb q hq
      rintro (rfl | rfl | rfl) <;> omega
    · exact h.vp k u hu q hq
theorem BookL.chP {F : Nat → Prop} (h : BookL w gp gn gw A c ca cw keys la lw ht) (hc : ChP w w' F) (hne : ∀ k, BF gp gn gw A c lw k → ¬ F k) : BookL w' gp gn gw A c ca cw keys la lw ht :=
  ⟨h.hp.chP hc (hne _ (.inl rfl)), h.hK.chP hc (fun k hk => hne _ (.inr (.inr (.inr (.inl hk))))), h.hN.chP hc (hne _ (.inr (.inl rfl))), h.hW.chP hc (hne _ (.inr (.inr (.inl rfl)))), fun k v hv => (h.hV k v hv).chP hc (fun g hg hm _ => hne _ (.inr (.inr (.inr (.inr ⟨k, v, hv, hm, hg⟩))))), h.pn, h.pw, h.nw, h.kp, h.kn, h.kw, h.vp⟩
theorem BookL.lt (h : BookL w gp gn gw A c ca cw keys la lw ht) {k : Nat} (hk : BF gp gn gw A c lw k) : k < w.heap.size := by
  rcases hk with rfl | rfl | rfl | hk | ⟨s, v, hv, hk⟩
  · exact h.hp.lt
  · exact h.hN.lt
  · exact h.hW.lt
  · exact (h.hK.row hk).2
  · exact (h.hV s v hv).blk_lt iv_row hk.1 hk.2
end
theorem bnew_ok {Ak : Option Addr} {nk ck : Nat} {keys : List Nat} (w : World) (hV : Vec w pv1 1 Ak nk keys) : Calls Tryz.prog 6 #[.slice Ak nk ck] w fun r w' => (12 < nk ∧ r = .returned (.pointer none) ∧ Le w w') ∨ (nk ≤ 12 ∧ ∃ gp gn gw A c, r = .returned (.pointer (some ⟨gp, 0, none⟩)) ∧ BookL w' gp gn gw A c 0 0 keys [] [] 0 ∧ (∀ k, BF gp gn gw A c [] k → w.heap.size ≤ k) ∧ Le w w') := by
  refine enter Tryz.func6 rfl rfl ?_
  have L0 := Le.refl w
  refine WC.seq ?_
  refine WC.region ?_
  refine W.any (.assign rfl) rfl rfl rfl ?_
  refine W.nil ?_
  refine E.thenN ?_
  refine WC.seq ?_
  refine WC.seq ?_
  refine WC.region ?_
  refine W.any (.move rfl) rfl rfl rfl ?_
  refine W.rd (.len Tryz.underlying26 rfl) rfl rfl rfl ?_
  refine W.any (.gtr rfl rfl) rfl rfl rfl ?_
  refine W.nil ?_
  refine E.thenN ?_
  by_cases c0 : 12 < ((nk : Nat) : Int)
  · refine WC.condY rfl (decide_eq_true c0) ?_
    refine WC.seq ?_
    refine WC.region ?_
    refine W.any (.assign rfl) rfl rfl rfl ?_
    refine W.nil ?_
    refine E.thenN ?_
    refine WC.ret ?_
    refine E.thenR ?_
    refine E.retG1 rfl rfl ?_
    exact .inl ⟨by omega, rfl, L0⟩
  · refine WC.condN rfl (decide_eq_false c0) ?_
    refine WC.skip ?_
    refine E.thenN ?_
    refine WC.seq ?_
    refine WC.region ?_
    refine W.any (.move rfl) rfl rfl rfl ?_
    refine W.ef rfl rfl rfl ?_
    refine Ef.call go25 rfl rfl (gpclone_ok w (hV.le L0) (by omega)) ?_
    rintro _ w3_1 ⟨Ac3_1, cc3_1, rfl, oc3_1, h3_1⟩
    refine ⟨_, rfl, ?_⟩
    have L1 := L0.trans h3_1
    refine W.ef rfl rfl rfl ?_
    refine Ef.makeMapG sdf adf ?_
    intro g3_2 w3_2 hg3_2 b3_2 h3_2
    have L2 := L1.trans h3_2
    refine W.ef rfl rfl rfl ?_
    refine Ef.makeMapG sdf whf ?_
    intro g3_3 w3_3 hg3_3 b3_3 h3_3
    have L3 := L2.trans h3_3
    refine W.any (.buildP [.slice Ac3_1 nk cc3_1, .map (some g3_2), .map (some g3_3), .int .i64 (0)] pl75 z75 rfl rfl) rfl rfl rfl ?_
    refine W.ef rfl rfl rfl ?_
    refine Ef.boxA rfl ?_
    intro g3_5 w3_5 hg3_5 b3_5 h3_5
    have L4 := L3.trans h3_5
    have b3_5 : Blk w3_5 g3_5 75 #[.slice Ac3_1 nk cc3_1, .map (some g3_2), .map (some g3_3), .int .i64 (0)] := b3_5
    refine W.any (.assign rfl) rfl rfl rfl ?_
    refine W.nil ?_
    refine E.thenN ?_
    refine WC.ret ?_
    have f5 := (oc3_1.le (h3_2.trans (h3_3.trans h3_5)))
    have f6 := (b3_2.le (h3_3.trans h3_5))
    have f7 := (b3_3.le h3_5)
    refine E.retG1 rfl rfl ?_
    have hnl := hV.1; subst hnl; exact .inr ⟨by omega, _, _, _, _, _, rfl, ⟨b3_5, (f5.mono (Nat.zero_le _)), f6, f7, (fun k v hv => by cases hv), (show g3_5 ≠ g3_2 from by have := b3_2.lt; have := h3_3.size; omega), (show g3_5 ≠ g3_3 from by have := b3_3.lt; omega), (show g3_2 ≠ g3_3 from by have := b3_2.lt; omega), (fun he => by have := (oc3_1.row he).2; have := h3_2.size; have := h3_3.size; omega), (fun he => by have := (oc3_1.row he).2; omega), (fun he => by have := (oc3_1.row he).2; have := h3_2.size; omega), (fun k v hv => by cases hv)⟩, (fun k hk => Or.elim hk (fun e => e ▸ (Nat.le_trans L3.size hg3_5)) (fun hk => Or.elim hk (fun e => e ▸ (Nat.le_trans L1.size hg3_2)) (fun hk => Or.elim hk (fun e => e ▸ (Nat.le_trans L2.size hg3_3)) (fun hk => Or.elim hk (fun hk => ((f5.mono L0.size).row hk).1) (fun ⟨s, v, hv, hk⟩ => by cases hv))))), L4⟩



theorem bads_ok {gp gn gw c ca cw : Nat} {A : Option Addr} {keys : List Nat} {la : AM} {lw : WM} {ht : Int} (w : World) (hL : BookL w gp gn gw A c ca cw keys la lw ht) (hl : la.length ≤ 1000) : Calls Tryz.prog 35 #[.pointer (some ⟨gp, 0, none⟩)] w fun r w' => ∃ (A' : Option Addr) (c' : Nat) (zs : List Asp.Ad), r = .returned (.slice A' la.length c') ∧ zs.Perm (la.map fun x => x.2.2) ∧ zs.Pairwise (fun a b => ¬ adLt b a) ∧ OVec w' w.heap.size 40 adV 13 A' la.length c' zs ∧ Le w w' := by
  refine enter Tryz.func35 rfl rfl ?_
  have L0 := Le.refl w
  refine WC.seq ?_
  refine WC.region ?_
  refine W.any (.assign rfl) rfl rfl rfl ?_
  refine W.nil ?_
  refine E.thenN ?_
  refine WC.seq ?_
  refine WC.region ?_
  refine W.any (.assign rfl) rfl rfl rfl ?_
  refine W.nil ?_
  refine E.thenN ?_
  refine WC.seq ?_
  refine WC.seq ?_
  refine WC.region ?_
  refine W.any (.move rfl) rfl rfl rfl ?_
  refine W.any (.nilCheck rfl) rfl rfl rfl ?_
  refine W.any (.field0 fa75_1 rfl) rfl rfl rfl ?_
  refine W.rd (.loadB (v := .map (some gn)) na72 rfl (hL.hp.le L0) rfl) rfl rfl rfl ?_
  refine W.ef rfl rfl rfl ?_
  refine Ef.rangeG Tryz.underlying72 rfl (hL.hN.le L0) ?_
  intro r2_4 w2_4 hg2_4 b2_4 h2_4
  have L1 := L0.trans h2_4
  refine W.nil ?_
  refine E.thenN ?_
  refine WC.block ?_
  refine WC.loop (ι := (Array Nat) × Nat × (Option Addr) × Nat × (List Asp.Ad)) (fun ⟨seen, k, Ao, co, out⟩ => [(3, .slice Ao k co), (10, .pointer (some ⟨r2_4, 0, none⟩))]) (fun ⟨seen, k, Ao, co, out⟩ wl0 => (k + (unsG la seen).length = la.length) ∧ ((out ++ (unsG la seen).map (fun x => x.2.2)).Perm (la.map fun x => x.2.2)) ∧ Le w wl0 ∧ w2_4.heap.size ≤ wl0.heap.size ∧ OVec wl0 w2_4.heap.size 40 adV 13 Ao k co out ∧ ItG wl0 r2_4 gn ca seen) (fun ⟨seen, k, Ao, co, out⟩ => (unsG la seen).length) (#[], 0, none, 0, []) ?_ ?_ ?_
  · exact .cons rfl (.cons rfl (.nil _))
  · exact ⟨by rw [unsG_nil]; omega, by rw [unsG_nil]; exact List.Perm.refl _, L1, Nat.le_refl _, (OVec.nil w2_4 w2_4.heap.size 40 adV 13 none), b2_4⟩
  · rintro ⟨seen, k, Ao, co, out⟩ wl0 ⟨hkl, hpm, Ll0, zl0, f0_0, f0_1⟩
    have lb0_6 : w2_4.heap.size ≤ wl0.heap.size := by omega
    refine WC.seq ?_
    refine WC.region ?_
    refine W.ef rfl rfl rfl ?_
    refine Ef.nextG rfl (hL.hN.le Ll0) f0_1 ?_ ?_
    · intro hu3_0
      refine W.any (.extract (v := .bool false) rfl rfl) rfl rfl rfl ?_
      refine W.nil ?_
      refine E.thenN ?_
      refine WC.seq ?_
      refine WC.condF rfl ?_
      refine WC.exit ?_
      refine E.thenX ?_
      refine E.thenX ?_
      refine E.blkH ?_
      refine E.thenN ?_
      refine WC.seq ?_
      refine WC.region ?_
      refine W.any (.move rfl) rfl rfl rfl ?_
      refine W.ef rfl rfl rfl ?_
      refine Ef.call go68 rfl rfl (sortad_ok wl0 f0_0 (by omega)) ?_
      rintro _ w6_1 ⟨zs6_1, rfl, hz6_1, hw6_1, o6_1, h6_1⟩
      refine ⟨_, rfl, ?_⟩
      have L2 : Le w w6_1 := Ll0.then_ h6_1 (fun q hq => Nat.le_trans L1.size (f0_0.row hq).1)
      refine W.nil ?_
      refine E.thenN ?_
      refine WC.seq ?_
      refine WC.region ?_
      refine W.any (.move rfl) rfl rfl rfl ?_
      refine W.any (.assign rfl) rfl rfl rfl ?_
      refine W.nil ?_
      refine E.thenN ?_
      refine WC.ret ?_
      refine E.retG1 rfl rfl ?_
      have huz := hu3_0; rw [huz] at hpm hkl; simp only [List.map_nil, List.append_nil, List.length_nil, Nat.add_zero] at hpm hkl; exact ⟨_, _, _, by rw [← hkl], hz6_1.trans hpm, hw6_1, (o6_1.mono L1.size).cast hkl rfl, L2⟩
    · intro e3_0 w3_0 he3_0 b3_0 h3_0
      have L3 : Le w w3_0 := Ll0.then_ h3_0 (fun q hq => by cases hq; exact Nat.le_trans L0.size hg2_4)
      have hp3_0 := unsG_push (hL.hN.le Ll0).2 he3_0
      have hl3_0 := hp3_0.length_eq
      rw [List.length_cons] at hl3_0
      refine W.any (.extract (v := .bool true) rfl rfl) rfl rfl rfl ?_
      refine W.nil ?_
      refine E.thenN ?_
      refine WC.seq ?_
      refine WC.condT rfl ?_
      refine WC.skip ?_
      refine E.thenN ?_
      refine WC.block ?_
      refine WC.seq ?_
      refine WC.region ?_
      refine W.ef rfl rfl rfl ?_
      refine Ef.entryG (e := e3_0) rfl (hL.hN.le L3) b3_0 (unsG_mem he3_0) ?_
      refine W.any (.extract (v := .agg (adV e3_0.2.2).toArray) rfl rfl) rfl rfl rfl ?_
      refine W.ef rfl rfl rfl ?_
      refine Ef.allocA z40 ?_
      intro g4_2 w4_2 hg4_2 b4_2 h4_2
      have L4 := L3.trans h4_2
      have b4_2 : Blk w4_2 g4_2 40 (adV noAd).toArray := b4_2
      refine W.ef0 rfl rfl ?_
      refine Ef.storeAll sz40 (by rfl) rfl rfl b4_2 (by simp only [List.size_toArray, adV_row.len]) (adV_row.one e3_0.2.2) ?_
      intro w4_3 b4_3 h4_3
      have b4_3 : Blk w4_3 g4_2 40 (adV e3_0.2.2).toArray := b4_3
      have L5 : Le w w4_3 := L4.then_ h4_3 (fun q hq => by cases hq; exact Nat.le_trans L3.size hg4_2)
      refine W.nil ?_
      refine E.thenN ?_
      refine WC.region ?_
      refine W.any (.move rfl) rfl rfl rfl ?_
      refine W.rd (.loadAll ag40 (by rfl) rfl b4_3) rfl rfl rfl ?_
      refine W.ef rfl rfl rfl ?_
      refine Ef.buildSliceV (len := 1) [_] Tryz.underlying22 el40 rfl (by simp [Value.cells, adV_row.len]) rfl (by decide) (by decide) ?_
      intro g5_2 w5_2 hg5_2 b5_2 h5_2
      have L6 := L5.trans h5_2
      have b5_2 : Blk w5_2 g5_2 40 (([e3_0.2.2]).map adV).flatten.toArray := b5_2
      have o5_2 : OVec w5_2 w4_3.heap.size 40 adV 13 (some ⟨g5_2, 0, none⟩) 1 1 ([e3_0.2.2]) := b5_2.ovec hg5_2 adV_row rfl rfl (by decide)
      have f7 := ((((f0_0.ch h3_0 (fun q hq => by cases hq; exact (fun he => by have := (f0_0.row he).1; have := b2_4.lt; omega))).le h4_2).ch h4_3 (fun q hq => by cases hq; exact (fun he => by have := (f0_0.row he).2; have := h3_0.size; omega))).le h5_2)
      refine W.ef rfl rfl rfl ?_
      refine Ef.vpush (a := e3_0.2.2) Tryz.underlying22 el40 Tryz.underlying22 adV_row rfl f7 rfl b5_2 (by omega) (by unfold maxLen; omega) (by have := lb0_6; have := h3_0.size; have := h4_2.size; have := h4_3.size; have := h5_2.size; omega) ?_
      intro A5_3 c5_3 w5_3 o5_3 h5_3 at5_3
      have L8 : Le w w5_3 := L6.then_ h5_3 (fun q hq => Nat.le_trans L1.size (f7.row hq).1)
      refine W.any (.assign rfl) rfl rfl rfl ?_
      refine W.nil ?_
      refine E.blkN ?_
      have f9 := ((((b3_0.le h4_2).ch h4_3 (fun h => (show g4_2 ≠ r2_4 from by have := b3_0.lt; omega) (Option.some.inj h))).le h5_2).ch h5_3 (fun he => by have := (f7.row he).1; have := b2_4.lt; omega))
      refine E.again ((seen.push e3_0.1), k + 1, A5_3, c5_3, (out ++ [e3_0.2.2])) (.cons rfl (.cons rfl (.nil _))) ?_ ?_
      · exact ⟨by omega, by rw [List.append_assoc]; exact ((List.Perm.append_left out (by have hq := hp3_0.map (fun x => x.2.2); rw [List.map_cons] at hq; exact hq)).symm).trans hpm, L8, by have := zl0; have := h3_0.size; have := h4_2.size; have := h4_3.size; have := h5_2.size; have := h5_3.size; omega, o5_3, f9⟩
      · first | omega | (simp only []; omega)

theorem btake_ok {gp gn gw c ca cw : Nat} {A : Option Addr} {keys : List Nat} {la : AM} {lw : WM} {ht : Int} (a : Asp.Ad) (h : Int) (w : World) (hL : BookL w gp gn gw A c ca cw keys la lw ht) (hr : a.sg.r < 18446744073709551616) (hkb : ∀ k ∈ keys, k < 18446744073709551616) (hht : 0 ≤ ht) (hkl : keys.length ≤ 1000) (hw4 : ∀ k v, getG k lw = some v → v.xs.length ≤ 4) : Calls Tryz.prog 8 #[.pointer (some ⟨gp, 0, none⟩), .agg (adV a).toArray, .int .i64 (h)] w fun r w' => ChP w w' (fun k => k = gp ∨ k = gn ∨ k = gw) ∧ ((takeR keys la lw ht a h ≠ 0 ∧ r = .returned (.int .i64 (takeR keys la lw ht a h)) ∧ BookL w' gp gn gw A c ca cw keys la lw ht) ∨ (takeR keys la lw ht a h = 0 ∧ r = .returned (.int .i64 0) ∧ ∃ ca' cw' la' lw' v, BookL w' gp gn gw A c ca' cw' keys la' lw' h ∧ (∀ k, getG k la' = if k = sdOf a then some a else getG k la) ∧ v.xs = lateB (((getG (sdOf a) lw).map (·.xs)).getD []) h ++ [h] ∧ (∀ k, getG k lw' = if k = sdOf a then some v else getG k lw) ∧ ∀ q, v.has q → w.heap.size ≤ q)) := by
  have hp0 := hL.hp; have hK0 := hL.hK; have hN0 := hL.hN; have hW0 := hL.hW
  refine enter Tryz.func8 rfl rfl ?_
  have L0 := ChP.refl w (fun k => k = gp ∨ k = gn ∨ k = gw)
  refine WC.seq ?_
  refine WC.region ?_
  refine W.ef rfl rfl rfl ?_
  refine Ef.boxA rfl ?_
  intro g0_0 w0_0 hg0_0 b0_0 h0_0
  have L1 := L0.le h0_0
  have b0_0 : Blk w0_0 g0_0 40 (adV a).toArray := b0_0
  refine W.ef rfl rfl rfl ?_
  refine Ef.box rfl ?_
  intro g0_1 w0_1 hg0_1 b0_1 h0_1
  have L2 := L1.le h0_1
  have b0_1 : Blk w0_1 g0_1 3 #[.int .i64 (h)] := b0_1
  refine W.any (.assign rfl) rfl rfl rfl ?_
  refine W.nil ?_
  refine E.thenN ?_
  refine WC.seq ?_
  refine WC.seq ?_
  refine WC.draw [0, 1, 2, 3, 4, 5, 6, 7, 8, 9, 10, 11, 12, 13, 14, 15, 16, 17, 18, 19, 20, 21, 22, 23, 24, 25, 26] mixed (by kernel_rfl) ?_
  intro w1 d1
  have L3 := L2.le d1
  refine G.any rfl rfl (.field0 fa40_0 rfl) rfl rfl rfl ?_
  have f4 := (b0_0.le (h0_1.trans d1))
  refine G.rd rfl rfl (.bpart (edgeV a.e) ag36 rfl (by decide) rfl f4 rfl) rfl rfl rfl ?_
  refine G.any rfl rfl (.field0 fa40_1 rfl) rfl rfl rfl ?_
  refine G.rd rfl rfl (.loadB (v := .int .i64 (a.no)) na3 rfl f4 rfl) rfl rfl rfl ?_
  refine G.ef rfl rfl rfl rfl rfl ?_
  refine Ef.call go26 rfl rfl (amay_ok a.e a.no w1) ?_
  rintro _ w1_4 ⟨rfl, h1_4⟩
  refine ⟨_, rfl, ?_⟩
  refine ⟨fun _ => h1_4, ?_⟩
  have L5 := L3.le h1_4
  refine G.any rfl rfl (.not rfl) rfl rfl rfl ?_
  by_cases q1_6 : (mayA a.e a.no) = true
  · refine G.any rfl rfl (.dec (.move rfl) (congrArg not (q1_6))) rfl rfl rfl ?_
    refine G.anyg rfl rfl (.field0 fa40_0 rfl) rfl rfl rfl (rfl) rfl rfl ?_
    refine G.anyg rfl rfl (.field0 fa36_0 rfl) rfl rfl rfl (rfl) rfl rfl ?_
    have f6 := (f4.le h1_4)
    refine G.rdg rfl rfl (.loadB (v := .int .i64 (a.e.f)) na3 rfl f6 rfl) rfl rfl rfl (rfl) rfl rfl ?_
    refine G.anyg rfl rfl (.move rfl) rfl rfl rfl (rfl) rfl rfl ?_
    refine G.anyg rfl rfl (.nilCheck rfl) rfl rfl rfl (rfl) rfl rfl ?_
    refine G.anyg rfl rfl (.field0 fa75_0 rfl) rfl rfl rfl (rfl) rfl rfl ?_
    have f7 := (hp0.le (h0_0.trans (h0_1.trans (d1.trans h1_4))))
    refine G.rdg rfl rfl (.loadB (v := .slice A keys.length c) na26 rfl f7 rfl) rfl rfl rfl (rfl) rfl rfl ?_
    refine G.rdg rfl rfl (.len Tryz.underlying26 rfl) rfl rfl rfl (rfl) rfl rfl ?_
    refine G.anyg rfl rfl (.geq rfl rfl) rfl rfl rfl (rfl) rfl rfl ?_
    refine G.any rfl rfl (.pickF rfl rfl rfl) rfl rfl rfl ?_
    by_cases q1_17 : ((keys.length : Nat) : Int) ≤ a.e.f
    · refine G.any rfl rfl (.dec (.move rfl) (decide_eq_true q1_17)) rfl rfl rfl ?_
      refine G.skip rfl rfl rfl rfl (rfl) rfl rfl ?_
      refine G.skip rfl rfl rfl rfl (rfl) rfl rfl ?_
      refine G.skip rfl rfl rfl rfl (rfl) rfl rfl ?_
      refine G.skip rfl rfl rfl rfl (rfl) rfl rfl ?_
      refine G.skip rfl rfl rfl rfl (rfl) rfl rfl ?_
      refine G.skip rfl rfl rfl rfl (rfl) rfl rfl ?_
      refine G.skip rfl rfl rfl rfl (rfl) rfl rfl ?_
      refine G.skip rfl rfl rfl rfl (rfl) rfl rfl ?_
      refine G.any rfl rfl (.pickT rfl rfl rfl) rfl rfl rfl ?_
      refine G.nil ?_
      refine E.thenN ?_
      refine WC.condT rfl ?_
      have hbad : mayA a.e a.no = false ∨ (keys.length : Int) ≤ a.e.f ∨ inB h ht 1048576 = false := by first | (left; simpa using (by assumption : ¬ mayA a.e a.no = true)) | (right; left; assumption) | (right; right; simpa using (by assumption : ¬ inB h ht 1048576 = true))
      refine WC.seq ?_
      refine WC.region ?_
      refine W.any (.assign rfl) rfl rfl rfl ?_
      refine W.nil ?_
      refine E.thenN ?_
      refine WC.ret ?_
      refine E.thenR ?_
      have f8 := (hN0.le (h0_0.trans (h0_1.trans (d1.trans h1_4))))
      have f9 := (hW0.le (h0_0.trans (h0_1.trans (d1.trans h1_4))))
      refine E.retG1 rfl rfl ?_
      have e9 : takeR keys la lw ht a h = 1 := (by unfold takeR; rw [if_pos hbad]); exact ⟨L5, .inl ⟨by rw [e9]; decide, by rw [e9], hL.same L5 f7 f8 f9⟩⟩
    · refine G.any rfl rfl (.dec (.move rfl) (decide_eq_false q1_17)) rfl rfl rfl ?_
      refine G.anyg rfl rfl (.move rfl) rfl rfl rfl (rfl) rfl rfl ?_
      refine G.anyg rfl rfl (.nilCheck rfl) rfl rfl rfl (rfl) rfl rfl ?_
      refine G.anyg rfl rfl (.field0 fa75_3 rfl) rfl rfl rfl (rfl) rfl rfl ?_
      refine G.rdg rfl rfl (.loadB (v := .int .i64 (ht)) na3 rfl f7 rfl) rfl rfl rfl (rfl) rfl rfl ?_
      have f10 := (b0_1.le (d1.trans h1_4))
      refine G.rdg rfl rfl (.loadB (v := .int .i64 (h)) na3 rfl f10 rfl) rfl rfl rfl (rfl) rfl rfl ?_
      refine G.efg rfl rfl rfl rfl rfl (rfl) rfl rfl ?_
      refine Ef.buildSliceV (len := 1) [_] Tryz.underlying23 el3 rfl (by simp [Value.cells]) rfl (by decide) (by decide) ?_
      intro g1_23 w1_23 hg1_23 b1_23 h1_23
      refine ⟨fun _ => h1_23, ?_⟩
      have L11 := L5.le h1_23
      have b1_23 : Blk w1_23 g1_23 3 (([h]).map iv).flatten.toArray := b1_23
      have o1_23 : OVec w1_23 w1_4.heap.size 3 iv 1 (some ⟨g1_23, 0, none⟩) 1 1 ([h]) := b1_23.ovec hg1_23 iv_row rfl rfl (by decide)
      refine G.efg rfl rfl rfl rfl rfl (rfl) rfl rfl ?_
      refine Ef.call go29 rfl rfl (withinc1_ok ht 1048576 w1_23 o1_23.vec) ?_
      rintro _ w1_24 ⟨rfl, h1_24⟩
      refine ⟨_, rfl, ?_⟩
      refine ⟨fun _ => h1_24, ?_⟩
      have L12 := L11.le h1_24
      refine G.anyg rfl rfl (.not rfl) rfl rfl rfl (rfl) rfl rfl ?_
      refine G.any rfl rfl (.pickF rfl rfl rfl) rfl rfl rfl ?_
      refine G.nil ?_
      refine E.thenN ?_
      by_cases c0 : (inB h ht 1048576) = true
      · refine WC.condN rfl (congrArg not (c0)) ?_
        have hm : mayA a.e a.no = true := by assumption
        have hfl : ¬ (keys.length : Int) ≤ a.e.f := by assumption
        have hin : inB h ht 1048576 = true := by assumption
        have hea := edgeA_T (mayA_T hm).1
        have hh := inB_T.1 hin
        have hok : ¬ (mayA a.e a.no = false ∨ (keys.length : Int) ≤ a.e.f ∨ inB h ht 1048576 = false) := by rw [hm, hin]; simp; omega
        refine WC.skip ?_
        refine E.thenN ?_
        refine WC.seq ?_
        refine WC.seq ?_
        refine WC.draw [0, 1, 2, 3, 4, 5, 6, 7, 8, 9, 10, 11] mixed (by kernel_rfl) ?_
        intro w3 d3
        have L13 := L12.le d3
        refine G.any rfl rfl (.move rfl) rfl rfl rfl ?_
        refine G.any rfl rfl (.nilCheck rfl) rfl rfl rfl ?_
        refine G.any rfl rfl (.field0 fa75_0 rfl) rfl rfl rfl ?_
        have f14 := (f7.le (h1_23.trans (h1_24.trans d3)))
        refine G.rd rfl rfl (.loadB (v := .slice A keys.length c) na26 rfl f14 rfl) rfl rfl rfl ?_
        refine G.any rfl rfl (.field0 fa40_0 rfl) rfl rfl rfl ?_
        refine G.any rfl rfl (.field0 fa36_0 rfl) rfl rfl rfl ?_
        have f15 := (f6.le (h1_23.trans (h1_24.trans d3)))
        refine G.rd rfl rfl (.loadB (v := .int .i64 (a.e.f)) na3 rfl f15 rfl) rfl rfl rfl ?_
        refine G.any rfl rfl (.idxS (a.e.f.toNat) Tryz.underlying26 sz28 rfl rfl (hK0.vec.isSome pv1_row (by omega)) (by omega) (by omega)) rfl rfl rfl ?_
        have f16 := (hK0.le (h0_0.trans (h0_1.trans (d1.trans (h1_4.trans (h1_23.trans (h1_24.trans d3)))))))
        refine G.rd rfl rfl (.vone (v := .int .u64 ((((keys.getD a.e.f.toNat 0) : Nat) : Int))) na28 rfl f16.vec pv1_row (getS keys 0 (by first | omega | (simp only [List.length_cons, List.length_nil]; omega))) rfl) rfl rfl rfl ?_
        refine G.rd rfl rfl (.loadAll ag40 (by rfl) rfl f15) rfl rfl rfl ?_
        refine G.ef rfl rfl rfl rfl rfl ?_
        refine Ef.call go30 rfl rfl (averify_ok (keys.getD a.e.f.toNat 0) a (hkb _ (getD_mem' (by omega))) hr w3) ?_
        rintro _ w3_10 ⟨rfl, h3_10⟩
        refine ⟨_, rfl, ?_⟩
        refine ⟨fun _ => h3_10, ?_⟩
        have L17 := L13.le h3_10
        refine G.any rfl rfl (.not rfl) rfl rfl rfl ?_
        refine G.nil ?_
        refine E.thenN ?_
        by_cases c1 : (verifyA (keys.getD a.e.f.toNat 0) a) = true
        · refine WC.condN rfl (congrArg not (c1)) ?_
          refine WC.skip ?_
          refine E.thenN ?_
          refine WC.seq ?_
          refine WC.seq ?_
          refine WC.region ?_
          refine W.any (.move rfl) rfl rfl rfl ?_
          refine W.any (.nilCheck rfl) rfl rfl rfl ?_
          refine W.any (.field0 fa75_1 rfl) rfl rfl rfl ?_
          have f18 := (f14.le h3_10)
          refine W.rd (.loadB (v := .map (some gn)) na72 rfl f18 rfl) rfl rfl rfl ?_
          have f19 := (hN0.le (h0_0.trans (h0_1.trans (d1.trans (h1_4.trans (h1_23.trans (h1_24.trans (d3.trans h3_10))))))))
          refine W.ef rfl rfl rfl ?_
          refine Ef.rangeG Tryz.underlying72 rfl f19 ?_
          intro r5_4 w5_4 hg5_4 b5_4 h5_4
          have L20 := L17.le h5_4
          refine W.nil ?_
          refine E.thenN ?_
          refine WC.block ?_
          have f21 := (f18.le h5_4)
          have f22 := (f16.le (h3_10.trans h5_4))
          have f23 := (f19.le h5_4)
          have f24 := (hW0.le (h0_0.trans (h0_1.trans (d1.trans (h1_4.trans (h1_23.trans (h1_24.trans (d3.trans (h3_10.trans h5_4)))))))))
          have f25 := (f15.le (h3_10.trans h5_4))
          have f26 := (f10.le (h1_23.trans (h1_24.trans (d3.trans (h3_10.trans h5_4)))))
          refine WC.loop (ι := (Array Nat)) (fun seen => [(0, .pointer (some ⟨gp, 0, none⟩)), (4, .pointer (some ⟨g0_0, 0, none⟩)), (5, .pointer (some ⟨g0_1, 0, none⟩)), (54, .pointer (some ⟨r5_4, 0, none⟩))]) (fun seen wl0 => ((unsG la seen).any (badX a.e) = la.any (badX a.e)) ∧ ChP w wl0 (fun k => k = gp ∨ k = gn ∨ k = gw) ∧ w5_4.heap.size ≤ wl0.heap.size ∧ Blk wl0 gp 75 #[.slice A keys.length c, .map (some gn), .map (some gw), .int .i64 (ht)] ∧ OVec wl0 0 28 pv1 1 A keys.length c keys ∧ MapG wl0 sdf adf gn la ca ∧ MapG wl0 sdf whf gw lw cw ∧ Blk wl0 g0_0 40 (adV a).toArray ∧ Blk wl0 g0_1 3 #[.int .i64 (h)] ∧ ItG wl0 r5_4 gn ca seen) (fun seen => (unsG la seen).length) (#[]) ?_ ?_ ?_
          · exact .cons rfl (.cons rfl (.cons rfl (.cons rfl (.nil _))))
          · exact ⟨by rw [unsG_nil], L20, Nat.le_refl _, f21, f22, f23, f24, f25, f26, b5_4⟩
          · rintro seen wl0 ⟨hinv, Ll0, zl0, f0_0, f0_1, f0_2, f0_3, f0_4, f0_5, f0_6⟩
            refine WC.seq ?_
            refine WC.region ?_
            refine W.ef rfl rfl rfl ?_
            refine Ef.nextG rfl f0_2 f0_6 ?_ ?_
            · intro hu6_0
              refine W.any (.extract (v := .bool false) rfl rfl) rfl rfl rfl ?_
              refine W.nil ?_
              refine E.thenN ?_
              refine WC.seq ?_
              refine WC.condF rfl ?_
              refine WC.exit ?_
              refine E.thenX ?_
              refine E.thenX ?_
              refine E.blkH ?_
              refine E.thenN ?_
              refine WC.seq ?_
              refine WC.region ?_
              refine W.any (.field0 fa40_0 rfl) rfl rfl rfl ?_
              refine W.any (.field0 fa36_2 rfl) rfl rfl rfl ?_
              refine W.rd (.loadB (v := .int .i64 (a.e.c)) na3 rfl f0_4 rfl) rfl rfl rfl ?_
              refine W.any (.field0 fa40_0 rfl) rfl rfl rfl ?_
              refine W.any (.field0 fa36_0 rfl) rfl rfl rfl ?_
              refine W.rd (.loadB (v := .int .i64 (a.e.f)) na3 rfl f0_4 rfl) rfl rfl rfl ?_
              refine W.any (.buildA (cells := (sdV (sdOf a)).toArray) Tryz.underlying82 sz3 z82 rfl rfl) rfl rfl rfl ?_
              refine W.ef rfl rfl rfl ?_
              refine Ef.allocA z82 ?_
              intro g10_7 w10_7 hg10_7 b10_7 h10_7
              have L27 := Ll0.le h10_7
              have b10_7 : Blk w10_7 g10_7 82 (sdV noSd).toArray := b10_7
              refine W.ef0 rfl rfl ?_
              refine Ef.storeAll sz82 (by rfl) rfl rfl b10_7 (by simp only [List.size_toArray, sdV_row.len]) (sdV_row.one (sdOf a)) ?_
              intro w10_8 b10_8 h10_8
              have b10_8 : Blk w10_8 g10_7 82 (sdV (sdOf a)).toArray := b10_8
              have L28 : ChP w w10_8 (fun k => k = gp ∨ k = gn ∨ k = gw) := L27.ch h10_8 (fun i hi hlt => by cases hi; exact absurd hlt (by have := Ll0.size; have := hg10_7; omega))
              refine W.nil ?_
              refine E.thenN ?_
              refine WC.seq ?_
              refine WC.draw [0, 1, 2, 3, 4, 5, 7, 6, 8, 9] mixed (by kernel_rfl) ?_
              intro w11 d11
              have L29 := L28.le d11
              refine G.any rfl rfl (.move rfl) rfl rfl rfl ?_
              refine G.any rfl rfl (.nilCheck rfl) rfl rfl rfl ?_
              refine G.any rfl rfl (.field0 fa75_2 rfl) rfl rfl rfl ?_
              have f30 := (((f0_0.le h10_7).ch h10_8 (fun h => (show g10_7 ≠ gp from by have := f0_0.lt; omega) (Option.some.inj h))).le d11)
              refine G.rd rfl rfl (.loadB (v := .map (some gw)) na73 rfl f30 rfl) rfl rfl rfl ?_
              have f31 := (b10_8.le d11)
              refine G.rd rfl rfl (.loadAll ag82 (by rfl) rfl f31) rfl rfl rfl ?_
              rcases optG (getG (sdOf a) lw) with hk11_5 | ⟨vhk11_5, hk11_5⟩
              · have f32 := (((f0_3.le h10_7).ch h10_8 (fun h => (show g10_7 ≠ gw from by have := f0_3.lt; omega) (Option.some.inj h))).le d11)
                refine G.rd rfl rfl (.as (.lookup1 (key := (sdOf a)) Tryz.underlying73 ksd z23 rfl rfl f32) (by rw [hk11_5] <;> rfl)) rfl rfl rfl ?_
                refine G.any rfl rfl (.makeFunc rfl) rfl rfl rfl ?_
                refine G.ef rfl rfl rfl rfl rfl ?_
                refine Ef.call go33 rfl rfl (giclone_ok w11 (Vec.nil _ _ _ _) (by omega)) ?_
                rintro _ w11_6 ⟨Ac11_6, cc11_6, rfl, oc11_6, h11_6⟩
                refine ⟨_, rfl, ?_⟩
                refine ⟨fun _ => h11_6, ?_⟩
                have L33 := L29.le h11_6
                have f34 := (((f0_5.le h10_7).ch h10_8 (fun h => (show g10_7 ≠ g0_1 from by have := f0_5.lt; omega) (Option.some.inj h))).le (d11.trans h11_6))
                refine G.ef rfl rfl rfl rfl rfl ?_
                refine Ef.call go32 rfl rfl (delf2_ok h go34 w11_6 oc11_6 (by omega) (fun i w1 hl => take1_ok i h ⟨by omega, by omega⟩ w1 (f34.ch hl (fun he => by have := (oc11_6.row he).1; have := f0_5.lt; have := h10_7.size; have := h10_8.size; have := d11.size; omega)))) ?_
                rintro _ w11_8 ⟨rfl, o11_8, h11_8⟩
                refine ⟨_, rfl, ?_⟩
                refine ⟨fun h => absurd h (ne_true_of_eq_false (by kernel_rfl)), ?_⟩
                have L35 : ChP w w11_8 (fun k => k = gp ∨ k = gn ∨ k = gw) := L33.ch h11_8 (fun i hi hlt => absurd hlt (by have := (oc11_6.row hi).1; have := L29.size; omega))
                have hll : (lateB ([]) h).length ≤ 0 := by have := List.length_filter_le (fun i => !decide (i ≤ h - 100)) ([]); exact this
                refine G.any rfl rfl (.assign rfl) rfl rfl rfl ?_
                refine G.nil ?_
                refine E.thenN ?_
                refine WC.seq ?_
                refine WC.block ?_
                refine WC.seq ?_
                refine WC.draw [0, 1, 2, 3, 4, 5, 6, 7, 8, 9, 10] mixed (by kernel_rfl) ?_
                intro w12 d12
                have L36 := L35.le d12
                refine G.any rfl rfl (.field0 fa40_1 rfl) rfl rfl rfl ?_
                have f37 := (((((f0_4.le h10_7).ch h10_8 (fun h => (show g10_7 ≠ g0_0 from by have := f0_4.lt; omega) (Option.some.inj h))).le (d11.trans h11_6)).ch h11_8 (fun he => by have := (oc11_6.row he).1; have := f0_4.lt; have := h10_7.size; have := h10_8.size; have := d11.size; omega)).le d12)
                refine G.rd rfl rfl (.loadB (v := .int .i64 (a.no)) na3 rfl f37 rfl) rfl rfl rfl ?_
                refine G.any rfl rfl (.move rfl) rfl rfl rfl ?_
                refine G.any rfl rfl (.nilCheck rfl) rfl rfl rfl ?_
                refine G.any rfl rfl (.field0 fa75_1 rfl) rfl rfl rfl ?_
                have f38 := (((f30.le h11_6).ch h11_8 (fun he => by have := (oc11_6.row he).1; have := f30.lt; omega)).le d12)
                refine G.rd rfl rfl (.loadB (v := .map (some gn)) na72 rfl f38 rfl) rfl rfl rfl ?_
                have f39 := (((f31.le h11_6).ch h11_8 (fun he => by have := (oc11_6.row he).1; have := f31.lt; omega)).le d12)
                refine G.rd rfl rfl (.loadAll ag82 (by rfl) rfl f39) rfl rfl rfl ?_
                rcases optG (getG (sdOf a) la) with hk12_7 | ⟨vhk12_7, hk12_7⟩
                · have f40 := (((((f0_2.le h10_7).ch h10_8 (fun h => (show g10_7 ≠ gn from by have := f0_2.lt; omega) (Option.some.inj h))).le (d11.trans h11_6)).ch h11_8 (fun he => by have := (oc11_6.row he).1; have := f0_2.lt; have := h10_7.size; have := h10_8.size; have := d11.size; omega)).le d12)
                  refine G.rd rfl rfl (.as (.lookup1 (key := (sdOf a)) Tryz.underlying72 ksd z40 rfl rfl f40) (by rw [hk12_7] <;> rfl)) rfl rfl rfl ?_
                  refine G.any rfl rfl (.field1 (v := .int .i64 (noAd.no)) Tryz.underlying40 rfl na3 rfl rfl) rfl rfl rfl ?_
                  refine G.any rfl rfl (.leq rfl rfl) rfl rfl rfl ?_
                  refine G.any rfl rfl (.assign rfl) rfl rfl rfl ?_
                  refine G.nil ?_
                  refine E.thenN ?_
                  by_cases c4 : a.no ≤ noAd.no
                  · refine WC.condY rfl (decide_eq_true c4) ?_
                    refine WC.seq ?_
                    refine WC.region ?_
                    refine W.any (.assign rfl) rfl rfl rfl ?_
                    refine W.nil ?_
                    refine E.thenN ?_
                    refine WC.ret ?_
                    refine E.blkR ?_
                    refine E.thenR ?_
                    have f41 := (((f32.le h11_6).ch h11_8 (fun he => by have := (oc11_6.row he).1; have := f32.lt; omega)).le d12)
                    refine E.retG1 rfl rfl ?_
                    have hnone : ¬ la.any (badX a.e) = true := (by rw [← hinv, hu6_0]; simp); have hle : a.no ≤ noOf (getG (sdOf a) la) := (by rw [hk12_7]; simpa [noOf, noAd] using c4); have e9 : takeR keys la lw ht a h = 24 := (by unfold takeR; rw [if_neg hok, if_neg (by simpa using c1), if_neg hnone, if_pos hle]); exact ⟨L36, .inl ⟨by rw [e9]; decide, by rw [e9], hL.same L36 f38 f40 f41⟩⟩
                  · refine WC.condN rfl (decide_eq_false c4) ?_
                    refine WC.seq ?_
                    refine WC.region ?_
                    refine W.any (.move rfl) rfl rfl rfl ?_
                    refine W.rd (.len Tryz.underlying23 rfl) rfl rfl rfl ?_
                    refine W.any (.geq rfl rfl) rfl rfl rfl ?_
                    refine W.any (.assign rfl) rfl rfl rfl ?_
                    refine W.nil ?_
                    refine E.thenN ?_
                    by_cases c5 : 4 ≤ (((lateB ([]) h).length : Nat) : Int)
                    · refine WC.condY rfl (decide_eq_true c5) ?_
                      refine WC.seq ?_
                      refine WC.region ?_
                      refine W.any (.assign rfl) rfl rfl rfl ?_
                      refine W.nil ?_
                      refine E.thenN ?_
                      refine WC.ret ?_
                      refine E.blkR ?_
                      refine E.thenR ?_
                      have f42 := (((f32.le h11_6).ch h11_8 (fun he => by have := (oc11_6.row he).1; have := f32.lt; omega)).le d12)
                      refine E.retG1 rfl rfl ?_
                      have hnone : ¬ la.any (badX a.e) = true := (by rw [← hinv, hu6_0]; simp); have hle : ¬ a.no ≤ noOf (getG (sdOf a) la) := (by rw [hk12_7]; simpa [noOf, noAd] using c4); have hrt : 4 ≤ (lateB (((getG (sdOf a) lw).map (·.xs)).getD []) h).length := (by rw [hk11_5]; have := c5; simp only [Option.map_some, Option.map_none, Option.getD_some, Option.getD_none]; omega); have e9 : takeR keys la lw ht a h = 20 := (by unfold takeR; rw [if_neg hok, if_neg (by simpa using c1), if_neg hnone, if_neg hle, if_pos hrt]); exact ⟨L36, .inl ⟨by rw [e9]; decide, by rw [e9], hL.same L36 f38 f40 f42⟩⟩
                    · refine WC.condN rfl (decide_eq_false c5) ?_
                      refine WC.skip ?_
                      refine E.blkN ?_
                      refine E.thenN ?_
                      refine WC.seq ?_
                      refine WC.drawR (fun w16 w' => ChP w w' (fun k => k = gp ∨ k = gn ∨ k = gw) ∧ Blk w' gp 75 #[.slice A keys.length c, .map (some gn), .map (some gw), .int .i64 (ht)] ∧ Blk w' g10_7 82 (sdV (sdOf a)).toArray ∧ Blk w' g0_0 40 (adV a).toArray ∧ Blk w' g0_1 3 #[.int .i64 (h)]) [0, 1, 2, 3, 4, 5, 6, 7, 8, 9, 10, 11, 12, 13, 16, 14, 15, 17, 18, 19, 20, 21, 22, 23, 24, 25] mixed (by kernel_rfl) ?_
                      intro w16 d16
                      have L43 := L36.le d16
                      have f44 := (f38.le d16)
                      have f45 := (f39.le d16)
                      have f46 := (f37.le d16)
                      have f47 := ((f34.ch h11_8 (fun he => by have := (oc11_6.row he).1; have := f0_5.lt; have := h10_7.size; have := h10_8.size; have := d11.size; omega)).le (d12.trans d16))
                      refine ⟨⟨L43, f44, f45, f46, f47⟩, ?_⟩
                      refine GR.any rfl rfl (.move rfl) rfl rfl rfl ?_
                      refine GR.any rfl rfl (.nilCheck rfl) rfl rfl rfl ?_
                      refine GR.any rfl rfl (.field0 fa75_1 rfl) rfl rfl rfl ?_
                      refine GR.rd rfl rfl (fun w' hs => .loadB (v := .map (some gn)) na72 rfl hs.2.1 rfl) rfl rfl rfl ?_
                      refine GR.rd rfl rfl (fun w' hs => .loadAll ag82 (by rfl) rfl hs.2.2.1) rfl rfl rfl ?_
                      refine GR.any rfl rfl (.move rfl) rfl rfl rfl ?_
                      refine GR.any rfl rfl (.nilCheck rfl) rfl rfl rfl ?_
                      refine GR.any rfl rfl (.field0 fa75_2 rfl) rfl rfl rfl ?_
                      refine GR.rd rfl rfl (fun w' hs => .loadB (v := .map (some gw)) na73 rfl hs.2.1 rfl) rfl rfl rfl ?_
                      refine GR.rd rfl rfl (fun w' hs => .loadAll ag82 (by rfl) rfl hs.2.2.1) rfl rfl rfl ?_
                      refine GR.any rfl rfl (.move rfl) rfl rfl rfl ?_
                      refine GR.rd rfl rfl (fun w' hs => .loadAll ag40 (by rfl) rfl hs.2.2.2.1) rfl rfl rfl ?_
                      refine GR.any rfl rfl (.move rfl) rfl rfl rfl ?_
                      refine GR.rd rfl rfl (fun w' hs => .loadB (v := .int .i64 (h)) na3 rfl hs.2.2.2.2 rfl) rfl rfl rfl ?_
                      refine GR.rd rfl rfl (fun w' hs => .loadB (v := .int .i64 (h)) na3 rfl hs.2.2.2.2 rfl) rfl rfl rfl ?_
                      refine GR.ef rfl rfl rfl rfl rfl ?_
                      refine Ef.buildSliceV (len := 1) [_] Tryz.underlying23 el3 rfl (by simp [Value.cells]) rfl (by decide) (by decide) ?_
                      intro g16_14 w16_14 hg16_14 b16_14 h16_14
                      have L48 := L43.le h16_14
                      have b16_14 : Blk w16_14 g16_14 3 (([h]).map iv).flatten.toArray := b16_14
                      have o16_14 : OVec w16_14 w16.heap.size 3 iv 1 (some ⟨g16_14, 0, none⟩) 1 1 ([h]) := b16_14.ovec hg16_14 iv_row rfl rfl (by decide)
                      have f49 := (f44.le h16_14)
                      have f50 := (f45.le h16_14)
                      have f51 := (f46.le h16_14)
                      have f52 := (f47.le h16_14)
                      refine ⟨fun _ => ⟨L48, f49, f50, f51, f52⟩, ?_⟩
                      have f53 := (o11_8.le (d12.trans (d16.trans h16_14)))
                      refine GR.ef rfl rfl rfl rfl rfl ?_
                      refine Ef.vpush (a := h) Tryz.underlying23 el3 Tryz.underlying23 iv_row rfl f53 rfl b16_14 (by omega) (by unfold maxLen; omega) (by have := h11_6.size; have := h11_8.size; have := d12.size; have := d16.size; have := h16_14.size; omega) ?_
                      intro A16_15 c16_15 w16_15 o16_15 h16_15 at16_15
                      have L54 : ChP w w16_15 (fun k => k = gp ∨ k = gn ∨ k = gw) := L48.ch h16_15 (fun i hi hlt => absurd hlt (by have := (f53.row hi).1; have := L29.size; omega))
                      have f55 := (f49.ch h16_15 (fun he => by have := (f53.row he).1; have := f30.lt; omega))
                      have f56 := (f50.ch h16_15 (fun he => by have := (f53.row he).1; have := f31.lt; omega))
                      have f57 := (f51.ch h16_15 (fun he => by have := (f53.row he).1; have := f0_4.lt; have := h10_7.size; have := h10_8.size; have := d11.size; omega))
                      have f58 := (f52.ch h16_15 (fun he => by have := (f53.row he).1; have := f0_5.lt; have := h10_7.size; have := h10_8.size; have := d11.size; omega))
                      refine ⟨fun _ => ⟨L54, f55, f56, f57, f58⟩, ?_⟩
                      have f59 := ((f40.le (d16.trans h16_14)).ch h16_15 (fun he => by have := (f53.row he).1; have := f0_2.lt; have := h10_7.size; have := h10_8.size; have := d11.size; omega))
                      refine GR.ef rfl rfl rfl rfl rfl ?_
                      refine Ef.mapEntryN (key := (sdOf a)) (z := noAd) Tryz.underlying72 ksd z40 rfl rfl f59 hk12_7 ?_
                      intro w16_17 b16_17 h16_17
                      have L60 : ChP w w16_17 (fun k => k = gp ∨ k = gn ∨ k = gw) := L54.ch h16_17 (fun i hi _ => by cases hi; exact Or.inr (Or.inl rfl))
                      have f61 := (f55.ch h16_17 (fun h => (Ne.symm hL.pn) (Option.some.inj h)))
                      have f62 := (f56.ch h16_17 (fun h => (show gn ≠ g10_7 from by have := f0_2.lt; omega) (Option.some.inj h)))
                      have f63 := (f57.ch h16_17 (fun h => (show gn ≠ g0_0 from by have := hN0.lt; omega) (Option.some.inj h)))
                      have f64 := (f58.ch h16_17 (fun h => (show gn ≠ g0_1 from by have := hN0.lt; have := h0_0.size; omega) (Option.some.inj h)))
                      refine ⟨fun _ => ⟨L60, f61, f62, f63, f64⟩, ?_⟩
                      refine GR.any rfl rfl (.extract (v := .int .i64 (((ca : Nat) : Int))) rfl rfl) rfl rfl rfl ?_
                      refine GR.ef0 rfl rfl rfl rfl ?_
                      refine Ef.entryStoreG (key := (sdOf a)) (u := a) rfl rfl rfl b16_17 (List.mem_append_right _ (List.mem_singleton.2 rfl)) ?_
                      intro w16_19 b16_19 h16_19
                      have L65 : ChP w w16_19 (fun k => k = gp ∨ k = gn ∨ k = gw) := L60.ch h16_19 (fun i hi _ => by cases hi; exact Or.inr (Or.inl rfl))
                      have f66 := (f61.ch h16_19 (fun h => (Ne.symm hL.pn) (Option.some.inj h)))
                      have f67 := (f62.ch h16_19 (fun h => (show gn ≠ g10_7 from by have := f0_2.lt; omega) (Option.some.inj h)))
                      have f68 := (f63.ch h16_19 (fun h => (show gn ≠ g0_0 from by have := hN0.lt; omega) (Option.some.inj h)))
                      have f69 := (f64.ch h16_19 (fun h => (show gn ≠ g0_1 from by have := hN0.lt; have := h0_0.size; omega) (Option.some.inj h)))
                      refine ⟨fun _ => ⟨L65, f66, f67, f68, f69⟩, ?_⟩
                      have f70 := ((((((f32.le h11_6).ch h11_8 (fun he => by have := (oc11_6.row he).1; have := f32.lt; omega)).le (d12.trans (d16.trans h16_14))).ch h16_15 (fun he => by have := (f53.row he).1; have := f32.lt; omega)).ch h16_17 (fun h => hL.nw (Option.some.inj h))).ch h16_19 (fun h => hL.nw (Option.some.inj h)))
                      refine GR.ef rfl rfl rfl rfl rfl ?_
                      refine Ef.mapEntryN (key := (sdOf a)) (z := noWh) Tryz.underlying73 ksd z23 rfl rfl f70 hk11_5 ?_
                      intro w16_20 b16_20 h16_20
                      have L71 : ChP w w16_20 (fun k => k = gp ∨ k = gn ∨ k = gw) := L65.ch h16_20 (fun i hi _ => by cases hi; exact Or.inr (Or.inr rfl))
                      have f72 := (f66.ch h16_20 (fun h => (Ne.symm hL.pw) (Option.some.inj h)))
                      have f73 := (f67.ch h16_20 (fun h => (show gw ≠ g10_7 from by have := f0_3.lt; omega) (Option.some.inj h)))
                      have f74 := (f68.ch h16_20 (fun h => (show gw ≠ g0_0 from by have := hW0.lt; omega) (Option.some.inj h)))
                      have f75 := (f69.ch h16_20 (fun h => (show gw ≠ g0_1 from by have := hW0.lt; have := h0_0.size; omega) (Option.some.inj h)))
                      refine ⟨fun _ => ⟨L71, f72, f73, f74, f75⟩, ?_⟩
                      refine GR.any rfl rfl (.extract (v := .int .i64 (((cw : Nat) : Int))) rfl rfl) rfl rfl rfl ?_
                      refine GR.ef0 rfl rfl rfl rfl ?_
                      refine Ef.entryStoreG (key := (sdOf a)) (u := (⟨A16_15, ((lateB ([]) h).length + 1), c16_15, ((lateB ([]) h) ++ [h])⟩ : Wh)) rfl rfl rfl b16_20 (List.mem_append_right _ (List.mem_singleton.2 rfl)) ?_
                      intro w16_22 b16_22 h16_22
                      have L76 : ChP w w16_22 (fun k => k = gp ∨ k = gn ∨ k = gw) := L71.ch h16_22 (fun i hi _ => by cases hi; exact Or.inr (Or.inr rfl))
                      have f77 := (f72.ch h16_22 (fun h => (Ne.symm hL.pw) (Option.some.inj h)))
                      have f78 := (f73.ch h16_22 (fun h => (show gw ≠ g10_7 from by have := f0_3.lt; omega) (Option.some.inj h)))
                      have f79 := (f74.ch h16_22 (fun h => (show gw ≠ g0_0 from by have := hW0.lt; omega) (Option.some.inj h)))
                      have f80 := (f75.ch h16_22 (fun h => (show gw ≠ g0_1 from by have := hW0.lt; have := h0_0.size; omega) (Option.some.inj h)))
                      refine ⟨fun _ => ⟨L76, f77, f78, f79, f80⟩, ?_⟩
                      refine GR.any rfl rfl (.nilCheck rfl) rfl rfl rfl ?_
                      refine GR.any rfl rfl (.field0 fa75_3 rfl) rfl rfl rfl ?_
                      refine GR.ef0 rfl rfl rfl rfl ?_
                      refine Ef.store sz3 rfl rfl f77 (by first | decide | (simp; done)) (rfl) ?_
                      intro w16_25 b16_25 h16_25
                      have b16_25 : Blk w16_25 gp 75 #[.slice A keys.length c, .map (some gn), .map (some gw), .int .i64 (h)] := b16_25
                      have L81 : ChP w w16_25 (fun k => k = gp ∨ k = gn ∨ k = gw) := L76.ch h16_25 (fun i hi _ => by cases hi; exact Or.inl rfl)
                      refine ⟨fun h => absurd h (ne_true_of_eq_false (by kernel_rfl)), ?_⟩
                      refine GR.nil ?_
                      refine E.thenN ?_
                      refine WC.seq ?_
                      refine WC.region ?_
                      refine W.any (.assign rfl) rfl rfl rfl ?_
                      refine W.nil ?_
                      refine E.thenN ?_
                      refine WC.ret ?_
                      have f82 := (((b16_19.ch h16_20 (fun h => (Ne.symm hL.nw) (Option.some.inj h))).ch h16_22 (fun h => (Ne.symm hL.nw) (Option.some.inj h))).ch h16_25 (fun h => hL.pn (Option.some.inj h)))
                      have f83 := (b16_22.ch h16_25 (fun h => hL.pw (Option.some.inj h)))
                      have f84 := (((((o16_15.ch h16_17 (fun q hq => by cases hq; exact (fun he => by have := (o16_15.row he).1; have := f0_2.lt; have := h10_7.size; have := h10_8.size; have := d11.size; omega))).ch h16_19 (fun q hq => by cases hq; exact (fun he => by have := (o16_15.row he).1; have := f0_2.lt; have := h10_7.size; have := h10_8.size; have := d11.size; omega))).ch h16_20 (fun q hq => by cases hq; exact (fun he => by have := (o16_15.row he).1; have := f32.lt; omega))).ch h16_22 (fun q hq => by cases hq; exact (fun he => by have := (o16_15.row he).1; have := f32.lt; omega))).ch h16_25 (fun q hq => by cases hq; exact (fun he => by have := (o16_15.row he).1; have := f30.lt; omega)))
                      refine E.retG1 rfl rfl ?_
                      have hnone : ¬ la.any (badX a.e) = true := (by rw [← hinv, hu6_0]; simp); have hle : ¬ a.no ≤ noOf (getG (sdOf a) la) := (by rw [hk12_7]; simpa [noOf, noAd] using c4); have hrt : ¬ 4 ≤ (lateB (((getG (sdOf a) lw).map (·.xs)).getD []) h).length := (by rw [hk11_5]; have := c5; simp only [Option.map_some, Option.map_none, Option.getD_some, Option.getD_none]; omega); have e9 : takeR keys la lw ht a h = 0 := (by unfold takeR; rw [if_neg hok, if_neg (by simpa using c1), if_neg hnone, if_neg hle, if_neg hrt]); obtain ⟨hB, hbz⟩ := hL.put L81 b16_25 f82 f83 (v := (⟨A16_15, ((lateB ([]) h).length + 1), c16_15, ((lateB ([]) h) ++ [h])⟩ : Wh)) (s := sdOf a) (f84.mono L29.size) (fun k => getG_put0 hk11_5 k); exact ⟨L81, .inr ⟨e9, rfl, _, _, _, _, _, hB, (fun k => getG_put0 hk12_7 k), (by rw [hk11_5]; rfl), (fun k => getG_put0 hk11_5 k), hbz⟩⟩
                · have f85 := (((((f0_2.le h10_7).ch h10_8 (fun h => (show g10_7 ≠ gn from by have := f0_2.lt; omega) (Option.some.inj h))).le (d11.trans h11_6)).ch h11_8 (fun he => by have := (oc11_6.row he).1; have := f0_2.lt; have := h10_7.size; have := h10_8.size; have := d11.size; omega)).le d12)
                  refine G.rd rfl rfl (.as (.lookup1 (key := (sdOf a)) Tryz.underlying72 ksd z40 rfl rfl f85) (by rw [hk12_7] <;> rfl)) rfl rfl rfl ?_
                  refine G.any rfl rfl (.field1 (v := .int .i64 (vhk12_7.no)) Tryz.underlying40 rfl na3 rfl rfl) rfl rfl rfl ?_
                  refine G.any rfl rfl (.leq rfl rfl) rfl rfl rfl ?_
                  refine G.any rfl rfl (.assign rfl) rfl rfl rfl ?_
                  refine G.nil ?_
                  refine E.thenN ?_
                  by_cases c4 : a.no ≤ vhk12_7.no
                  · refine WC.condY rfl (decide_eq_true c4) ?_
                    refine WC.seq ?_
                    refine WC.region ?_
                    refine W.any (.assign rfl) rfl rfl rfl ?_
                    refine W.nil ?_
                    refine E.thenN ?_
                    refine WC.ret ?_
                    refine E.blkR ?_
                    refine E.thenR ?_
                    have f86 := (((f32.le h11_6).ch h11_8 (fun he => by have := (oc11_6.row he).1; have := f32.lt; omega)).le d12)
                    refine E.retG1 rfl rfl ?_
                    have hnone : ¬ la.any (badX a.e) = true := (by rw [← hinv, hu6_0]; simp); have hle : a.no ≤ noOf (getG (sdOf a) la) := (by rw [hk12_7]; simpa [noOf, noAd] using c4); have e9 : takeR keys la lw ht a h = 24 := (by unfold takeR; rw [if_neg hok, if_neg (by simpa using c1), if_neg hnone, if_pos hle]); exact ⟨L36, .inl ⟨by rw [e9]; decide, by rw [e9], hL.same L36 f38 f85 f86⟩⟩
                  · refine WC.condN rfl (decide_eq_false c4) ?_
                    refine WC.seq ?_
                    refine WC.region ?_
                    refine W.any (.move rfl) rfl rfl rfl ?_
                    refine W.rd (.len Tryz.underlying23 rfl) rfl rfl rfl ?_
                    refine W.any (.geq rfl rfl) rfl rfl rfl ?_
                    refine W.any (.assign rfl) rfl rfl rfl ?_
                    refine W.nil ?_
                    refine E.thenN ?_
                    by_cases c5 : 4 ≤ (((lateB ([]) h).length : Nat) : Int)
                    · refine WC.condY rfl (decide_eq_true c5) ?_
                      refine WC.seq ?_
                      refine WC.region ?_
                      refine W.any (.assign rfl) rfl rfl rfl ?_
                      refine W.nil ?_
                      refine E.thenN ?_
                      refine WC.ret ?_
                      refine E.blkR ?_
                      refine E.thenR ?_
                      have f87 := (((f32.le h11_6).ch h11_8 (fun he => by have := (oc11_6.row he).1; have := f32.lt; omega)).le d12)
                      refine E.retG1 rfl rfl ?_
                      have hnone : ¬ la.any (badX a.e) = true := (by rw [← hinv, hu6_0]; simp); have hle : ¬ a.no ≤ noOf (getG (sdOf a) la) := (by rw [hk12_7]; simpa [noOf, noAd] using c4); have hrt : 4 ≤ (lateB (((getG (sdOf a) lw).map (·.xs)).getD []) h).length := (by rw [hk11_5]; have := c5; simp only [Option.map_some, Option.map_none, Option.getD_some, Option.getD_none]; omega); have e9 : takeR keys la lw ht a h = 20 := (by unfold takeR; rw [if_neg hok, if_neg (by simpa using c1), if_neg hnone, if_neg hle, if_pos hrt]); exact ⟨L36, .inl ⟨by rw [e9]; decide, by rw [e9], hL.same L36 f38 f85 f87⟩⟩
                    · refine WC.condN rfl (decide_eq_false c5) ?_
                      refine WC.skip ?_
                      refine E.blkN ?_
                      refine E.thenN ?_
                      refine WC.seq ?_
                      refine WC.drawR (fun w16 w' => ChP w w' (fun k => k = gp ∨ k = gn ∨ k = gw) ∧ Blk w' gp 75 #[.slice A keys.length c, .map (some gn), .map (some gw), .int .i64 (ht)] ∧ Blk w' g10_7 82 (sdV (sdOf a)).toArray ∧ Blk w' g0_0 40 (adV a).toArray ∧ Blk w' g0_1 3 #[.int .i64 (h)]) [0, 1, 2, 3, 4, 5, 6, 7, 8, 9, 10, 11, 12, 13, 16, 14, 15, 17, 18, 19, 20, 21, 22, 23, 24, 25] mixed (by kernel_rfl) ?_
                      intro w16 d16
                      have L88 := L36.le d16
                      have f89 := (f38.le d16)
                      have f90 := (f39.le d16)
                      have f91 := (f37.le d16)
                      have f92 := ((f34.ch h11_8 (fun he => by have := (oc11_6.row he).1; have := f0_5.lt; have := h10_7.size; have := h10_8.size; have := d11.size; omega)).le (d12.trans d16))
                      refine ⟨⟨L88, f89, f90, f91, f92⟩, ?_⟩
                      refine GR.any rfl rfl (.move rfl) rfl rfl rfl ?_
                      refine GR.any rfl rfl (.nilCheck rfl) rfl rfl rfl ?_
                      refine GR.any rfl rfl (.field0 fa75_1 rfl) rfl rfl rfl ?_
                      refine GR.rd rfl rfl (fun w' hs => .loadB (v := .map (some gn)) na72 rfl hs.2.1 rfl) rfl rfl rfl ?_
                      refine GR.rd rfl rfl (fun w' hs => .loadAll ag82 (by rfl) rfl hs.2.2.1) rfl rfl rfl ?_
                      refine GR.any rfl rfl (.move rfl) rfl rfl rfl ?_
                      refine GR.any rfl rfl (.nilCheck rfl) rfl rfl rfl ?_
                      refine GR.any rfl rfl (.field0 fa75_2 rfl) rfl rfl rfl ?_
                      refine GR.rd rfl rfl (fun w' hs => .loadB (v := .map (some gw)) na73 rfl hs.2.1 rfl) rfl rfl rfl ?_
                      refine GR.rd rfl rfl (fun w' hs => .loadAll ag82 (by rfl) rfl hs.2.2.1) rfl rfl rfl ?_
                      refine GR.any rfl rfl (.move rfl) rfl rfl rfl ?_
                      refine GR.rd rfl rfl (fun w' hs => .loadAll ag40 (by rfl) rfl hs.2.2.2.1) rfl rfl rfl ?_
                      refine GR.any rfl rfl (.move rfl) rfl rfl rfl ?_
                      refine GR.rd rfl rfl (fun w' hs => .loadB (v := .int .i64 (h)) na3 rfl hs.2.2.2.2 rfl) rfl rfl rfl ?_
                      refine GR.rd rfl rfl (fun w' hs => .loadB (v := .int .i64 (h)) na3 rfl hs.2.2.2.2 rfl) rfl rfl rfl ?_
                      refine GR.ef rfl rfl rfl rfl rfl ?_
                      refine Ef.buildSliceV (len := 1) [_] Tryz.underlying23 el3 rfl (by simp [Value.cells]) rfl (by decide) (by decide) ?_
                      intro g16_14_1 w16_14_1 hg16_14_1 b16_14_1 h16_14_1
                      have L93 := L88.le h16_14_1
                      have b16_14_1 : Blk w16_14_1 g16_14_1 3 (([h]).map iv).flatten.toArray := b16_14_1
                      have o16_14_1 : OVec w16_14_1 w16.heap.size 3 iv 1 (some ⟨g16_14_1, 0, none⟩) 1 1 ([h]) := b16_14_1.ovec hg16_14_1 iv_row rfl rfl (by decide)
                      have f94 := (f89.le h16_14_1)
                      have f95 := (f90.le h16_14_1)
                      have f96 := (f91.le h16_14_1)
                      have f97 := (f92.le h16_14_1)
                      refine ⟨fun _ => ⟨L93, f94, f95, f96, f97⟩, ?_⟩
                      have f98 := (o11_8.le (d12.trans (d16.trans h16_14_1)))
                      refine GR.ef rfl rfl rfl rfl rfl ?_
                      refine Ef.vpush (a := h) Tryz.underlying23 el3 Tryz.underlying23 iv_row rfl f98 rfl b16_14_1 (by omega) (by unfold maxLen; omega) (by have := h11_6.size; have := h11_8.size; have := d12.size; have := d16.size; have := h16_14_1.size; omega) ?_
                      intro A16_15_1 c16_15_1 w16_15_1 o16_15_1 h16_15_1 at16_15_1
                      have L99 : ChP w w16_15_1 (fun k => k = gp ∨ k = gn ∨ k = gw) := L93.ch h16_15_1 (fun i hi hlt => absurd hlt (by have := (f98.row hi).1; have := L29.size; omega))
                      have f100 := (f94.ch h16_15_1 (fun he => by have := (f98.row he).1; have := f30.lt; omega))
                      have f101 := (f95.ch h16_15_1 (fun he => by have := (f98.row he).1; have := f31.lt; omega))
                      have f102 := (f96.ch h16_15_1 (fun he => by have := (f98.row he).1; have := f0_4.lt; have := h10_7.size; have := h10_8.size; have := d11.size; omega))
                      have f103 := (f97.ch h16_15_1 (fun he => by have := (f98.row he).1; have := f0_5.lt; have := h10_7.size; have := h10_8.size; have := d11.size; omega))
                      refine ⟨fun _ => ⟨L99, f100, f101, f102, f103⟩, ?_⟩
                      have f104 := ((f85.le (d16.trans h16_14_1)).ch h16_15_1 (fun he => by have := (f98.row he).1; have := f0_2.lt; have := h10_7.size; have := h10_8.size; have := d11.size; omega))
                      refine GR.ef rfl rfl rfl rfl rfl ?_
                      refine Ef.mapEntryG (key := (sdOf a)) Tryz.underlying72 ksd rfl rfl f104 stay_sd hk12_7 ?_
                      intro s16_17_1 w16_17_1 hs16_17_1 b16_17_1 h16_17_1
                      have L105 : ChP w w16_17_1 (fun k => k = gp ∨ k = gn ∨ k = gw) := L99.ch h16_17_1 (fun i hi _ => by cases hi; exact Or.inr (Or.inl rfl))
                      have f106 := (f100.ch h16_17_1 (fun h => (Ne.symm hL.pn) (Option.some.inj h)))
                      have f107 := (f101.ch h16_17_1 (fun h => (show gn ≠ g10_7 from by have := f0_2.lt; omega) (Option.some.inj h)))
                      have f108 := (f102.ch h16_17_1 (fun h => (show gn ≠ g0_0 from by have := hN0.lt; omega) (Option.some.inj h)))
                      have f109 := (f103.ch h16_17_1 (fun h => (show gn ≠ g0_1 from by have := hN0.lt; have := h0_0.size; omega) (Option.some.inj h)))
                      refine ⟨fun _ => ⟨L105, f106, f107, f108, f109⟩, ?_⟩
                      refine GR.any rfl rfl (.extract (v := .int .i64 (((s16_17_1 : Nat) : Int))) rfl rfl) rfl rfl rfl ?_
                      refine GR.ef0 rfl rfl rfl rfl ?_
                      refine Ef.entryStoreG (key := (sdOf a)) (u := a) rfl rfl rfl b16_17_1 hs16_17_1 ?_
                      intro w16_19_1 b16_19_1 h16_19_1
                      have L110 : ChP w w16_19_1 (fun k => k = gp ∨ k = gn ∨ k = gw) := L105.ch h16_19_1 (fun i hi _ => by cases hi; exact Or.inr (Or.inl rfl))
                      have f111 := (f106.ch h16_19_1 (fun h => (Ne.symm hL.pn) (Option.some.inj h)))
                      have f112 := (f107.ch h16_19_1 (fun h => (show gn ≠ g10_7 from by have := f0_2.lt; omega) (Option.some.inj h)))
                      have f113 := (f108.ch h16_19_1 (fun h => (show gn ≠ g0_0 from by have := hN0.lt; omega) (Option.some.inj h)))
                      have f114 := (f109.ch h16_19_1 (fun h => (show gn ≠ g0_1 from by have := hN0.lt; have := h0_0.size; omega) (Option.some.inj h)))
                      refine ⟨fun _ => ⟨L110, f111, f112, f113, f114⟩, ?_⟩
                      have f115 := ((((((f32.le h11_6).ch h11_8 (fun he => by have := (oc11_6.row he).1; have := f32.lt; omega)).le (d12.trans (d16.trans h16_14_1))).ch h16_15_1 (fun he => by have := (f98.row he).1; have := f32.lt; omega)).ch h16_17_1 (fun h => hL.nw (Option.some.inj h))).ch h16_19_1 (fun h => hL.nw (Option.some.inj h)))
                      refine GR.ef rfl rfl rfl rfl rfl ?_
                      refine Ef.mapEntryN (key := (sdOf a)) (z := noWh) Tryz.underlying73 ksd z23 rfl rfl f115 hk11_5 ?_
                      intro w16_20_1 b16_20_1 h16_20_1
                      have L116 : ChP w w16_20_1 (fun k => k = gp ∨ k = gn ∨ k = gw) := L110.ch h16_20_1 (fun i hi _ => by cases hi; exact Or.inr (Or.inr rfl))
                      have f117 := (f111.ch h16_20_1 (fun h => (Ne.symm hL.pw) (Option.some.inj h)))
                      have f118 := (f112.ch h16_20_1 (fun h => (show gw ≠ g10_7 from by have := f0_3.lt; omega) (Option.some.inj h)))
                      have f119 := (f113.ch h16_20_1 (fun h => (show gw ≠ g0_0 from by have := hW0.lt; omega) (Option.some.inj h)))
                      have f120 := (f114.ch h16_20_1 (fun h => (show gw ≠ g0_1 from by have := hW0.lt; have := h0_0.size; omega) (Option.some.inj h)))
                      refine ⟨fun _ => ⟨L116, f117, f118, f119, f120⟩, ?_⟩
                      refine GR.any rfl rfl (.extract (v := .int .i64 (((cw : Nat) : Int))) rfl rfl) rfl rfl rfl ?_
                      refine GR.ef0 rfl rfl rfl rfl ?_
                      refine Ef.entryStoreG (key := (sdOf a)) (u := (⟨A16_15_1, ((lateB ([]) h).length + 1), c16_15_1, ((lateB ([]) h) ++ [h])⟩ : Wh)) rfl rfl rfl b16_20_1 (List.mem_append_right _ (List.mem_singleton.2 rfl)) ?_
                      intro w16_22_1 b16_22_1 h16_22_1
                      have L121 : ChP w w16_22_1 (fun k => k = gp ∨ k = gn ∨ k = gw) := L116.ch h16_22_1 (fun i hi _ => by cases hi; exact Or.inr (Or.inr rfl))
                      have f122 := (f117.ch h16_22_1 (fun h => (Ne.symm hL.pw) (Option.some.inj h)))
                      have f123 := (f118.ch h16_22_1 (fun h => (show gw ≠ g10_7 from by have := f0_3.lt; omega) (Option.some.inj h)))
                      have f124 := (f119.ch h16_22_1 (fun h => (show gw ≠ g0_0 from by have := hW0.lt; omega) (Option.some.inj h)))
                      have f125 := (f120.ch h16_22_1 (fun h => (show gw ≠ g0_1 from by have := hW0.lt; have := h0_0.size; omega) (Option.some.inj h)))
                      refine ⟨fun _ => ⟨L121, f122, f123, f124, f125⟩, ?_⟩
                      refine GR.any rfl rfl (.nilCheck rfl) rfl rfl rfl ?_
                      refine GR.any rfl rfl (.field0 fa75_3 rfl) rfl rfl rfl ?_
                      refine GR.ef0 rfl rfl rfl rfl ?_
                      refine Ef.store sz3 rfl rfl f122 (by first | decide | (simp; done)) (rfl) ?_
                      intro w16_25_1 b16_25_1 h16_25_1
                      have b16_25_1 : Blk w16_25_1 gp 75 #[.slice A keys.length c, .map (some gn), .map (some gw), .int .i64 (h)] := b16_25_1
                      have L126 : ChP w w16_25_1 (fun k => k = gp ∨ k = gn ∨ k = gw) := L121.ch h16_25_1 (fun i hi _ => by cases hi; exact Or.inl rfl)
                      refine ⟨fun h => absurd h (ne_true_of_eq_false (by kernel_rfl)), ?_⟩
                      refine GR.nil ?_
                      refine E.thenN ?_
                      refine WC.seq ?_
                      refine WC.region ?_
                      refine W.any (.assign rfl) rfl rfl rfl ?_
                      refine W.nil ?_
                      refine E.thenN ?_
                      refine WC.ret ?_
                      have f127 := (((b16_19_1.ch h16_20_1 (fun h => (Ne.symm hL.nw) (Option.some.inj h))).ch h16_22_1 (fun h => (Ne.symm hL.nw) (Option.some.inj h))).ch h16_25_1 (fun h => hL.pn (Option.some.inj h)))
                      have f128 := (b16_22_1.ch h16_25_1 (fun h => hL.pw (Option.some.inj h)))
                      have f129 := (((((o16_15_1.ch h16_17_1 (fun q hq => by cases hq; exact (fun he => by have := (o16_15_1.row he).1; have := f0_2.lt; have := h10_7.size; have := h10_8.size; have := d11.size; omega))).ch h16_19_1 (fun q hq => by cases hq; exact (fun he => by have := (o16_15_1.row he).1; have := f0_2.lt; have := h10_7.size; have := h10_8.size; have := d11.size; omega))).ch h16_20_1 (fun q hq => by cases hq; exact (fun he => by have := (o16_15_1.row he).1; have := f32.lt; omega))).ch h16_22_1 (fun q hq => by cases hq; exact (fun he => by have := (o16_15_1.row he).1; have := f32.lt; omega))).ch h16_25_1 (fun q hq => by cases hq; exact (fun he => by have := (o16_15_1.row he).1; have := f30.lt; omega)))
                      refine E.retG1 rfl rfl ?_
                      have hnone : ¬ la.any (badX a.e) = true := (by rw [← hinv, hu6_0]; simp); have hle : ¬ a.no ≤ noOf (getG (sdOf a) la) := (by rw [hk12_7]; simpa [noOf, noAd] using c4); have hrt : ¬ 4 ≤ (lateB (((getG (sdOf a) lw).map (·.xs)).getD []) h).length := (by rw [hk11_5]; have := c5; simp only [Option.map_some, Option.map_none, Option.getD_some, Option.getD_none]; omega); have e9 : takeR keys la lw ht a h = 0 := (by unfold takeR; rw [if_neg hok, if_neg (by simpa using c1), if_neg hnone, if_neg hle, if_neg hrt]); obtain ⟨hB, hbz⟩ := hL.put L126 b16_25_1 f127 f128 (v := (⟨A16_15_1, ((lateB ([]) h).length + 1), c16_15_1, ((lateB ([]) h) ++ [h])⟩ : Wh)) (s := sdOf a) (f129.mono L29.size) (fun k => getG_put0 hk11_5 k); exact ⟨L126, .inr ⟨e9, rfl, _, _, _, _, _, hB, (fun k => getG_put1 hk12_7 k), (by rw [hk11_5]; rfl), (fun k => getG_put0 hk11_5 k), hbz⟩⟩
              · have hvw := hL.hV _ _ hk11_5
                have hv4 := hw4 _ _ hk11_5
                have hvx : vhk11_5.xs.length = vhk11_5.n := hvw.1
                have f130 := (((f0_3.le h10_7).ch h10_8 (fun h => (show g10_7 ≠ gw from by have := f0_3.lt; omega) (Option.some.inj h))).le d11)
                refine G.rd rfl rfl (.as (.lookup1 (key := (sdOf a)) Tryz.underlying73 ksd z23 rfl rfl f130) (by rw [hk11_5] <;> rfl)) rfl rfl rfl ?_
                refine G.any rfl rfl (.makeFunc rfl) rfl rfl rfl ?_
                refine G.ef rfl rfl rfl rfl rfl ?_
                refine Ef.call go33 rfl rfl (giclone_ok w11 (hvw.chP L29 (fun g h1 h2 _ => hL.vp _ _ hk11_5 g ⟨h2, h1⟩)) (by omega)) ?_
                rintro _ w11_6_1 ⟨Ac11_6_1, cc11_6_1, rfl, oc11_6_1, h11_6_1⟩
                refine ⟨_, rfl, ?_⟩
                refine ⟨fun _ => h11_6_1, ?_⟩
                have L131 := L29.le h11_6_1
                have f132 := (((f0_5.le h10_7).ch h10_8 (fun h => (show g10_7 ≠ g0_1 from by have := f0_5.lt; omega) (Option.some.inj h))).le (d11.trans h11_6_1))
                refine G.ef rfl rfl rfl rfl rfl ?_
                refine Ef.call go32 rfl rfl (delf2_ok h go34 w11_6_1 oc11_6_1 (by omega) (fun i w1 hl => take1_ok i h ⟨by omega, by omega⟩ w1 (f132.ch hl (fun he => by have := (oc11_6_1.row he).1; have := f0_5.lt; have := h10_7.size; have := h10_8.size; have := d11.size; omega)))) ?_
                rintro _ w11_8_1 ⟨rfl, o11_8_1, h11_8_1⟩
                refine ⟨_, rfl, ?_⟩
                refine ⟨fun h => absurd h (ne_true_of_eq_false (by kernel_rfl)), ?_⟩
                have L133 : ChP w w11_8_1 (fun k => k = gp ∨ k = gn ∨ k = gw) := L131.ch h11_8_1 (fun i hi hlt => absurd hlt (by have := (oc11_6_1.row hi).1; have := L29.size; omega))
                have hll : (lateB vhk11_5.xs h).length ≤ vhk11_5.n := by have := List.length_filter_le (fun i => !decide (i ≤ h - 100)) vhk11_5.xs; rw [hvx] at this; exact this
                refine G.any rfl rfl (.assign rfl) rfl rfl rfl ?_
                refine G.nil ?_
                refine E.thenN ?_
                refine WC.seq ?_
                refine WC.block ?_
                refine WC.seq ?_
                refine WC.draw [0, 1, 2, 3, 4, 5, 6, 7, 8, 9, 10] mixed (by kernel_rfl) ?_
                intro w12 d12
                have L134 := L133.le d12
                refine G.any rfl rfl (.field0 fa40_1 rfl) rfl rfl rfl ?_
                have f135 := (((((f0_4.le h10_7).ch h10_8 (fun h => (show g10_7 ≠ g0_0 from by have := f0_4.lt; omega) (Option.some.inj h))).le (d11.trans h11_6_1)).ch h11_8_1 (fun he => by have := (oc11_6_1.row he).1; have := f0_4.lt; have := h10_7.size; have := h10_8.size; have := d11.size; omega)).le d12)
                refine G.rd rfl rfl (.loadB (v := .int .i64 (a.no)) na3 rfl f135 rfl) rfl rfl rfl ?_
                refine G.any rfl rfl (.move rfl) rfl rfl rfl ?_
                refine G.any rfl rfl (.nilCheck rfl) rfl rfl rfl ?_
                refine G.any rfl rfl (.field0 fa75_1 rfl) rfl rfl rfl ?_
                have f136 := (((f30.le h11_6_1).ch h11_8_1 (fun he => by have := (oc11_6_1.row he).1; have := f30.lt; omega)).le d12)
                refine G.rd rfl rfl (.loadB (v := .map (some gn)) na72 rfl f136 rfl) rfl rfl rfl ?_
                have f137 := (((f31.le h11_6_1).ch h11_8_1 (fun he => by have := (oc11_6_1.row he).1; have := f31.lt; omega)).le d12)
                refine G.rd rfl rfl (.loadAll ag82 (by rfl) rfl f137) rfl rfl rfl ?_
                rcases optG (getG (sdOf a) la) with hk12_7_1 | ⟨vhk12_7_1, hk12_7_1⟩
                · have f138 := (((((f0_2.le h10_7).ch h10_8 (fun h => (show g10_7 ≠ gn from by have := f0_2.lt; omega) (Option.some.inj h))).le (d11.trans h11_6_1)).ch h11_8_1 (fun he => by have := (oc11_6_1.row he).1; have := f0_2.lt; have := h10_7.size; have := h10_8.size; have := d11.size; omega)).le d12)
                  refine G.rd rfl rfl (.as (.lookup1 (key := (sdOf a)) Tryz.underlying72 ksd z40 rfl rfl f138) (by rw [hk12_7_1] <;> rfl)) rfl rfl rfl ?_
                  refine G.any rfl rfl (.field1 (v := .int .i64 (noAd.no)) Tryz.underlying40 rfl na3 rfl rfl) rfl rfl rfl ?_
                  refine G.any rfl rfl (.leq rfl rfl) rfl rfl rfl ?_
                  refine G.any rfl rfl (.assign rfl) rfl rfl rfl ?_
                  refine G.nil ?_
                  refine E.thenN ?_
                  by_cases c4 : a.no ≤ noAd.no
                  · refine WC.condY rfl (decide_eq_true c4) ?_
                    refine WC.seq ?_
                    refine WC.region ?_
                    refine W.any (.assign rfl) rfl rfl rfl ?_
                    refine W.nil ?_
                    refine E.thenN ?_
                    refine WC.ret ?_
                    refine E.blkR ?_
                    refine E.thenR ?_
                    have f139 := (((f130.le h11_6_1).ch h11_8_1 (fun he => by have := (oc11_6_1.row he).1; have := f130.lt; omega)).le d12)
                    refine E.retG1 rfl rfl ?_
                    have hnone : ¬ la.any (badX a.e) = true := (by rw [← hinv, hu6_0]; simp); have hle : a.no ≤ noOf (getG (sdOf a) la) := (by rw [hk12_7_1]; simpa [noOf, noAd] using c4); have e9 : takeR keys la lw ht a h = 24 := (by unfold takeR; rw [if_neg hok, if_neg (by simpa using c1), if_neg hnone, if_pos hle]); exact ⟨L134, .inl ⟨by rw [e9]; decide, by rw [e9], hL.same L134 f136 f138 f139⟩⟩
                  · refine WC.condN rfl (decide_eq_false c4) ?_
                    refine WC.seq ?_
                    refine WC.region ?_
                    refine W.any (.move rfl) rfl rfl rfl ?_
                    refine W.rd (.len Tryz.underlying23 rfl) rfl rfl rfl ?_
                    refine W.any (.geq rfl rfl) rfl rfl rfl ?_
                    refine W.any (.assign rfl) rfl rfl rfl ?_
                    refine W.nil ?_
                    refine E.thenN ?_
                    by_cases c5 : 4 ≤ (((lateB vhk11_5.xs h).length : Nat) : Int)
                    · refine WC.condY rfl (decide_eq_true c5) ?_
                      refine WC.seq ?_
                      refine WC.region ?_
                      refine W.any (.assign rfl) rfl rfl rfl ?_
                      refine W.nil ?_
                      refine E.thenN ?_
                      refine WC.ret ?_
                      refine E.blkR ?_
                      refine E.thenR ?_
                      have f140 := (((f130.le h11_6_1).ch h11_8_1 (fun he => by have := (oc11_6_1.row he).1; have := f130.lt; omega)).le d12)
                      refine E.retG1 rfl rfl ?_
                      have hnone : ¬ la.any (badX a.e) = true := (by rw [← hinv, hu6_0]; simp); have hle : ¬ a.no ≤ noOf (getG (sdOf a) la) := (by rw [hk12_7_1]; simpa [noOf, noAd] using c4); have hrt : 4 ≤ (lateB (((getG (sdOf a) lw).map (·.xs)).getD []) h).length := (by rw [hk11_5]; have := c5; simp only [Option.map_some, Option.map_none, Option.getD_some, Option.getD_none]; omega); have e9 : takeR keys la lw ht a h = 20 := (by unfold takeR; rw [if_neg hok, if_neg (by simpa using c1), if_neg hnone, if_neg hle, if_pos hrt]); exact ⟨L134, .inl ⟨by rw [e9]; decide, by rw [e9], hL.same L134 f136 f138 f140⟩⟩
                    · refine WC.condN rfl (decide_eq_false c5) ?_
                      refine WC.skip ?_
                      refine E.blkN ?_
                      refine E.thenN ?_
                      refine WC.seq ?_
                      refine WC.drawR (fun w16 w' => ChP w w' (fun k => k = gp ∨ k = gn ∨ k = gw) ∧ Blk w' gp 75 #[.slice A keys.length c, .map (some gn), .map (some gw), .int .i64 (ht)] ∧ Blk w' g10_7 82 (sdV (sdOf a)).toArray ∧ Blk w' g0_0 40 (adV a).toArray ∧ Blk w' g0_1 3 #[.int .i64 (h)]) [0, 1, 2, 3, 4, 5, 6, 7, 8, 9, 10, 11, 12, 13, 16, 14, 15, 17, 18, 19, 20, 21, 22, 23, 24, 25] mixed (by kernel_rfl) ?_
                      intro w16 d16
                      have L141 := L134.le d16
                      have f142 := (f136.le d16)
                      have f143 := (f137.le d16)
                      have f144 := (f135.le d16)
                      have f145 := ((f132.ch h11_8_1 (fun he => by have := (oc11_6_1.row he).1; have := f0_5.lt; have := h10_7.size; have := h10_8.size; have := d11.size; omega)).le (d12.trans d16))
                      refine ⟨⟨L141, f142, f143, f144, f145⟩, ?_⟩
                      refine GR.any rfl rfl (.move rfl) rfl rfl rfl ?_
                      refine GR.any rfl rfl (.nilCheck rfl) rfl rfl rfl ?_
                      refine GR.any rfl rfl (.field0 fa75_1 rfl) rfl rfl rfl ?_
                      refine GR.rd rfl rfl (fun w' hs => .loadB (v := .map (some gn)) na72 rfl hs.2.1 rfl) rfl rfl rfl ?_
                      refine GR.rd rfl rfl (fun w' hs => .loadAll ag82 (by rfl) rfl hs.2.2.1) rfl rfl rfl ?_
                      refine GR.any rfl rfl (.move rfl) rfl rfl rfl ?_
                      refine GR.any rfl rfl (.nilCheck rfl) rfl rfl rfl ?_
                      refine GR.any rfl rfl (.field0 fa75_2 rfl) rfl rfl rfl ?_
                      refine GR.rd rfl rfl (fun w' hs => .loadB (v := .map (some gw)) na73 rfl hs.2.1 rfl) rfl rfl rfl ?_
                      refine GR.rd rfl rfl (fun w' hs => .loadAll ag82 (by rfl) rfl hs.2.2.1) rfl rfl rfl ?_
                      refine GR.any rfl rfl (.move rfl) rfl rfl rfl ?_
                      refine GR.rd rfl rfl (fun w' hs => .loadAll ag40 (by rfl) rfl hs.2.2.2.1) rfl rfl rfl ?_
                      refine GR.any rfl rfl (.move rfl) rfl rfl rfl ?_
                      refine GR.rd rfl rfl (fun w' hs => .loadB (v := .int .i64 (h)) na3 rfl hs.2.2.2.2 rfl) rfl rfl rfl ?_
                      refine GR.rd rfl rfl (fun w' hs => .loadB (v := .int .i64 (h)) na3 rfl hs.2.2.2.2 rfl) rfl rfl rfl ?_
                      refine GR.ef rfl rfl rfl rfl rfl ?_
                      refine Ef.buildSliceV (len := 1) [_] Tryz.underlying23 el3 rfl (by simp [Value.cells]) rfl (by decide) (by decide) ?_
                      intro g16_14_2 w16_14_2 hg16_14_2 b16_14_2 h16_14_2
                      have L146 := L141.le h16_14_2
                      have b16_14_2 : Blk w16_14_2 g16_14_2 3 (([h]).map iv).flatten.toArray := b16_14_2
                      have o16_14_2 : OVec w16_14_2 w16.heap.size 3 iv 1 (some ⟨g16_14_2, 0, none⟩) 1 1 ([h]) := b16_14_2.ovec hg16_14_2 iv_row rfl rfl (by decide)
                      have f147 := (f142.le h16_14_2)
                      have f148 := (f143.le h16_14_2)
                      have f149 := (f144.le h16_14_2)
                      have f150 := (f145.le h16_14_2)
                      refine ⟨fun _ => ⟨L146, f147, f148, f149, f150⟩, ?_⟩
                      have f151 := (o11_8_1.le (d12.trans (d16.trans h16_14_2)))
                      refine GR.ef rfl rfl rfl rfl rfl ?_
                      refine Ef.vpush (a := h) Tryz.underlying23 el3 Tryz.underlying23 iv_row rfl f151 rfl b16_14_2 (by omega) (by unfold maxLen; omega) (by have := h11_6_1.size; have := h11_8_1.size; have := d12.size; have := d16.size; have := h16_14_2.size; omega) ?_
                      intro A16_15_2 c16_15_2 w16_15_2 o16_15_2 h16_15_2 at16_15_2
                      have L152 : ChP w w16_15_2 (fun k => k = gp ∨ k = gn ∨ k = gw) := L146.ch h16_15_2 (fun i hi hlt => absurd hlt (by have := (f151.row hi).1; have := L29.size; omega))
                      have f153 := (f147.ch h16_15_2 (fun he => by have := (f151.row he).1; have := f30.lt; omega))
                      have f154 := (f148.ch h16_15_2 (fun he => by have := (f151.row he).1; have := f31.lt; omega))
                      have f155 := (f149.ch h16_15_2 (fun he => by have := (f151.row he).1; have := f0_4.lt; have := h10_7.size; have := h10_8.size; have := d11.size; omega))
                      have f156 := (f150.ch h16_15_2 (fun he => by have := (f151.row he).1; have := f0_5.lt; have := h10_7.size; have := h10_8.size; have := d11.size; omega))
                      refine ⟨fun _ => ⟨L152, f153, f154, f155, f156⟩, ?_⟩
                      have f157 := ((f138.le (d16.trans h16_14_2)).ch h16_15_2 (fun he => by have := (f151.row he).1; have := f0_2.lt; have := h10_7.size; have := h10_8.size; have := d11.size; omega))
                      refine GR.ef rfl rfl rfl rfl rfl ?_
                      refine Ef.mapEntryN (key := (sdOf a)) (z := noAd) Tryz.underlying72 ksd z40 rfl rfl f157 hk12_7_1 ?_
                      intro w16_17_2 b16_17_2 h16_17_2
                      have L158 : ChP w w16_17_2 (fun k => k = gp ∨ k = gn ∨ k = gw) := L152.ch h16_17_2 (fun i hi _ => by cases hi; exact Or.inr (Or.inl rfl))
                      have f159 := (f153.ch h16_17_2 (fun h => (Ne.symm hL.pn) (Option.some.inj h)))
                      have f160 := (f154.ch h16_17_2 (fun h => (show gn ≠ g10_7 from by have := f0_2.lt; omega) (Option.some.inj h)))
                      have f161 := (f155.ch h16_17_2 (fun h => (show gn ≠ g0_0 from by have := hN0.lt; omega) (Option.some.inj h)))
                      have f162 := (f156.ch h16_17_2 (fun h => (show gn ≠ g0_1 from by have := hN0.lt; have := h0_0.size; omega) (Option.some.inj h)))
                      refine ⟨fun _ => ⟨L158, f159, f160, f161, f162⟩, ?_⟩
                      refine GR.any rfl rfl (.extract (v := .int .i64 (((ca : Nat) : Int))) rfl rfl) rfl rfl rfl ?_
                      refine GR.ef0 rfl rfl rfl rfl ?_
                      refine Ef.entryStoreG (key := (sdOf a)) (u := a) rfl rfl rfl b16_17_2 (List.mem_append_right _ (List.mem_singleton.2 rfl)) ?_
                      intro w16_19_2 b16_19_2 h16_19_2
                      have L163 : ChP w w16_19_2 (fun k => k = gp ∨ k = gn ∨ k = gw) := L158.ch h16_19_2 (fun i hi _ => by cases hi; exact Or.inr (Or.inl rfl))
                      have f164 := (f159.ch h16_19_2 (fun h => (Ne.symm hL.pn) (Option.some.inj h)))
                      have f165 := (f160.ch h16_19_2 (fun h => (show gn ≠ g10_7 from by have := f0_2.lt; omega) (Option.some.inj h)))
                      have f166 := (f161.ch h16_19_2 (fun h => (show gn ≠ g0_0 from by have := hN0.lt; omega) (Option.some.inj h)))
                      have f167 := (f162.ch h16_19_2 (fun h => (show gn ≠ g0_1 from by have := hN0.lt; have := h0_0.size; omega) (Option.some.inj h)))
                      refine ⟨fun _ => ⟨L163, f164, f165, f166, f167⟩, ?_⟩
                      have f168 := ((((((f130.le h11_6_1).ch h11_8_1 (fun he => by have := (oc11_6_1.row he).1; have := f130.lt; omega)).le (d12.trans (d16.trans h16_14_2))).ch h16_15_2 (fun he => by have := (f151.row he).1; have := f130.lt; omega)).ch h16_17_2 (fun h => hL.nw (Option.some.inj h))).ch h16_19_2 (fun h => hL.nw (Option.some.inj h)))
                      refine GR.ef rfl rfl rfl rfl rfl ?_
                      refine Ef.mapEntryG (key := (sdOf a)) Tryz.underlying73 ksd rfl rfl f168 stay_sd hk11_5 ?_
                      intro s16_20_2 w16_20_2 hs16_20_2 b16_20_2 h16_20_2
                      have L169 : ChP w w16_20_2 (fun k => k = gp ∨ k = gn ∨ k = gw) := L163.ch h16_20_2 (fun i hi _ => by cases hi; exact Or.inr (Or.inr rfl))
                      have f170 := (f164.ch h16_20_2 (fun h => (Ne.symm hL.pw) (Option.some.inj h)))
                      have f171 := (f165.ch h16_20_2 (fun h => (show gw ≠ g10_7 from by have := f0_3.lt; omega) (Option.some.inj h)))
                      have f172 := (f166.ch h16_20_2 (fun h => (show gw ≠ g0_0 from by have := hW0.lt; omega) (Option.some.inj h)))
                      have f173 := (f167.ch h16_20_2 (fun h => (show gw ≠ g0_1 from by have := hW0.lt; have := h0_0.size; omega) (Option.some.inj h)))
                      refine ⟨fun _ => ⟨L169, f170, f171, f172, f173⟩, ?_⟩
                      refine GR.any rfl rfl (.extract (v := .int .i64 (((s16_20_2 : Nat) : Int))) rfl rfl) rfl rfl rfl ?_
                      refine GR.ef0 rfl rfl rfl rfl ?_
                      refine Ef.entryStoreG (key := (sdOf a)) (u := (⟨A16_15_2, ((lateB vhk11_5.xs h).length + 1), c16_15_2, ((lateB vhk11_5.xs h) ++ [h])⟩ : Wh)) rfl rfl rfl b16_20_2 hs16_20_2 ?_
                      intro w16_22_2 b16_22_2 h16_22_2
                      have L174 : ChP w w16_22_2 (fun k => k = gp ∨ k = gn ∨ k = gw) := L169.ch h16_22_2 (fun i hi _ => by cases hi; exact Or.inr (Or.inr rfl))
                      have f175 := (f170.ch h16_22_2 (fun h => (Ne.symm hL.pw) (Option.some.inj h)))
                      have f176 := (f171.ch h16_22_2 (fun h => (show gw ≠ g10_7 from by have := f0_3.lt; omega) (Option.some.inj h)))
                      have f177 := (f172.ch h16_22_2 (fun h => (show gw ≠ g0_0 from by have := hW0.lt; omega) (Option.some.inj h)))
                      have f178 := (f173.ch h16_22_2 (fun h => (show gw ≠ g0_1 from by have := hW0.lt; have := h0_0.size; omega) (Option.some.inj h)))
                      refine ⟨fun _ => ⟨L174, f175, f176, f177, f178⟩, ?_⟩
                      refine GR.any rfl rfl (.nilCheck rfl) rfl rfl rfl ?_
                      refine GR.any rfl rfl (.field0 fa75_3 rfl) rfl rfl rfl ?_
                      refine GR.ef0 rfl rfl rfl rfl ?_
                      refine Ef.store sz3 rfl rfl f175 (by first | decide | (simp; done)) (rfl) ?_
                      intro w16_25_2 b16_25_2 h16_25_2
                      have b16_25_2 : Blk w16_25_2 gp 75 #[.slice A keys.length c, .map (some gn), .map (some gw), .int .i64 (h)] := b16_25_2
                      have L179 : ChP w w16_25_2 (fun k => k = gp ∨ k = gn ∨ k = gw) := L174.ch h16_25_2 (fun i hi _ => by cases hi; exact Or.inl rfl)
                      refine ⟨fun h => absurd h (ne_true_of_eq_false (by kernel_rfl)), ?_⟩
                      refine GR.nil ?_
                      refine E.thenN ?_
                      refine WC.seq ?_
                      refine WC.region ?_
                      refine W.any (.assign rfl) rfl rfl rfl ?_
                      refine W.nil ?_
                      refine E.thenN ?_
                      refine WC.ret ?_
                      have f180 := (((b16_19_2.ch h16_20_2 (fun h => (Ne.symm hL.nw) (Option.some.inj h))).ch h16_22_2 (fun h => (Ne.symm hL.nw) (Option.some.inj h))).ch h16_25_2 (fun h => hL.pn (Option.some.inj h)))
                      have f181 := (b16_22_2.ch h16_25_2 (fun h => hL.pw (Option.some.inj h)))
                      have f182 := (((((o16_15_2.ch h16_17_2 (fun q hq => by cases hq; exact (fun he => by have := (o16_15_2.row he).1; have := f0_2.lt; have := h10_7.size; have := h10_8.size; have := d11.size; omega))).ch h16_19_2 (fun q hq => by cases hq; exact (fun he => by have := (o16_15_2.row he).1; have := f0_2.lt; have := h10_7.size; have := h10_8.size; have := d11.size; omega))).ch h16_20_2 (fun q hq => by cases hq; exact (fun he => by have := (o16_15_2.row he).1; have := f130.lt; omega))).ch h16_22_2 (fun q hq => by cases hq; exact (fun he => by have := (o16_15_2.row he).1; have := f130.lt; omega))).ch h16_25_2 (fun q hq => by cases hq; exact (fun he => by have := (o16_15_2.row he).1; have := f30.lt; omega)))
                      refine E.retG1 rfl rfl ?_
                      have hnone : ¬ la.any (badX a.e) = true := (by rw [← hinv, hu6_0]; simp); have hle : ¬ a.no ≤ noOf (getG (sdOf a) la) := (by rw [hk12_7_1]; simpa [noOf, noAd] using c4); have hrt : ¬ 4 ≤ (lateB (((getG (sdOf a) lw).map (·.xs)).getD []) h).length := (by rw [hk11_5]; have := c5; simp only [Option.map_some, Option.map_none, Option.getD_some, Option.getD_none]; omega); have e9 : takeR keys la lw ht a h = 0 := (by unfold takeR; rw [if_neg hok, if_neg (by simpa using c1), if_neg hnone, if_neg hle, if_neg hrt]); obtain ⟨hB, hbz⟩ := hL.put L179 b16_25_2 f180 f181 (v := (⟨A16_15_2, ((lateB vhk11_5.xs h).length + 1), c16_15_2, ((lateB vhk11_5.xs h) ++ [h])⟩ : Wh)) (s := sdOf a) (f182.mono L29.size) (fun k => getG_put1 hk11_5 k); exact ⟨L179, .inr ⟨e9, rfl, _, _, _, _, _, hB, (fun k => getG_put0 hk12_7_1 k), (by rw [hk11_5]; rfl), (fun k => getG_put1 hk11_5 k), hbz⟩⟩
                · have f183 := (((((f0_2.le h10_7).ch h10_8 (fun h => (show g10_7 ≠ gn from by have := f0_2.lt; omega) (Option.some.inj h))).le (d11.trans h11_6_1)).ch h11_8_1 (fun he => by have := (oc11_6_1.row he).1; have := f0_2.lt; have := h10_7.size; have := h10_8.size; have := d11.size; omega)).le d12)
                  refine G.rd rfl rfl (.as (.lookup1 (key := (sdOf a)) Tryz.underlying72 ksd z40 rfl rfl f183) (by rw [hk12_7_1] <;> rfl)) rfl rfl rfl ?_
                  refine G.any rfl rfl (.field1 (v := .int .i64 (vhk12_7_1.no)) Tryz.underlying40 rfl na3 rfl rfl) rfl rfl rfl ?_
                  refine G.any rfl rfl (.leq rfl rfl) rfl rfl rfl ?_
                  refine G.any rfl rfl (.assign rfl) rfl rfl rfl ?_
                  refine G.nil ?_
                  refine E.thenN ?_
                  by_cases c4 : a.no ≤ vhk12_7_1.no
                  · refine WC.condY rfl (decide_eq_true c4) ?_
                    refine WC.seq ?_
                    refine WC.region ?_
                    refine W.any (.assign rfl) rfl rfl rfl ?_
                    refine W.nil ?_
                    refine E.thenN ?_
                    refine WC.ret ?_
                    refine E.blkR ?_
                    refine E.thenR ?_
                    have f184 := (((f130.le h11_6_1).ch h11_8_1 (fun he => by have := (oc11_6_1.row he).1; have := f130.lt; omega)).le d12)
                    refine E.retG1 rfl rfl ?_
                    have hnone : ¬ la.any (badX a.e) = true := (by rw [← hinv, hu6_0]; simp); have hle : a.no ≤ noOf (getG (sdOf a) la) := (by rw [hk12_7_1]; simpa [noOf, noAd] using c4); have e9 : takeR keys la lw ht a h = 24 := (by unfold takeR; rw [if_neg hok, if_neg (by simpa using c1), if_neg hnone, if_pos hle]); exact ⟨L134, .inl ⟨by rw [e9]; decide, by rw [e9], hL.same L134 f136 f183 f184⟩⟩
                  · refine WC.condN rfl (decide_eq_false c4) ?_
                    refine WC.seq ?_
                    refine WC.region ?_
                    refine W.any (.move rfl) rfl rfl rfl ?_
                    refine W.rd (.len Tryz.underlying23 rfl) rfl rfl rfl ?_
                    refine W.any (.geq rfl rfl) rfl rfl rfl ?_
                    refine W.any (.assign rfl) rfl rfl rfl ?_
                    refine W.nil ?_
                    refine E.thenN ?_
                    by_cases c5 : 4 ≤ (((lateB vhk11_5.xs h).length : Nat) : Int)
                    · refine WC.condY rfl (decide_eq_true c5) ?_
                      refine WC.seq ?_
                      refine WC.region ?_
                      refine W.any (.assign rfl) rfl rfl rfl ?_
                      refine W.nil ?_
                      refine E.thenN ?_
                      refine WC.ret ?_
                      refine E.blkR ?_
                      refine E.thenR ?_
                      have f185 := (((f130.le h11_6_1).ch h11_8_1 (fun he => by have := (oc11_6_1.row he).1; have := f130.lt; omega)).le d12)
                      refine E.retG1 rfl rfl ?_
                      have hnone : ¬ la.any (badX a.e) = true := (by rw [← hinv, hu6_0]; simp); have hle : ¬ a.no ≤ noOf (getG (sdOf a) la) := (by rw [hk12_7_1]; simpa [noOf, noAd] using c4); have hrt : 4 ≤ (lateB (((getG (sdOf a) lw).map (·.xs)).getD []) h).length := (by rw [hk11_5]; have := c5; simp only [Option.map_some, Option.map_none, Option.getD_some, Option.getD_none]; omega); have e9 : takeR keys la lw ht a h = 20 := (by unfold takeR; rw [if_neg hok, if_neg (by simpa using c1), if_neg hnone, if_neg hle, if_pos hrt]); exact ⟨L134, .inl ⟨by rw [e9]; decide, by rw [e9], hL.same L134 f136 f183 f185⟩⟩
                    · refine WC.condN rfl (decide_eq_false c5) ?_
                      refine WC.skip ?_
                      refine E.blkN ?_
                      refine E.thenN ?_
                      refine WC.seq ?_
                      refine WC.drawR (fun w16 w' => ChP w w' (fun k => k = gp ∨ k = gn ∨ k = gw) ∧ Blk w' gp 75 #[.slice A keys.length c, .map (some gn), .map (some gw), .int .i64 (ht)] ∧ Blk w' g10_7 82 (sdV (sdOf a)).toArray ∧ Blk w' g0_0 40 (adV a).toArray ∧ Blk w' g0_1 3 #[.int .i64 (h)]) [0, 1, 2, 3, 4, 5, 6, 7, 8, 9, 10, 11, 12, 13, 16, 14, 15, 17, 18, 19, 20, 21, 22, 23, 24, 25] mixed (by kernel_rfl) ?_
                      intro w16 d16
                      have L186 := L134.le d16
                      have f187 := (f136.le d16)
                      have f188 := (f137.le d16)
                      have f189 := (f135.le d16)
                      have f190 := ((f132.ch h11_8_1 (fun he => by have := (oc11_6_1.row he).1; have := f0_5.lt; have := h10_7.size; have := h10_8.size; have := d11.size; omega)).le (d12.trans d16))
                      refine ⟨⟨L186, f187, f188, f189, f190⟩, ?_⟩
                      refine GR.any rfl rfl (.move rfl) rfl rfl rfl ?_
                      refine GR.any rfl rfl (.nilCheck rfl) rfl rfl rfl ?_
                      refine GR.any rfl rfl (.field0 fa75_1 rfl) rfl rfl rfl ?_
                      refine GR.rd rfl rfl (fun w' hs => .loadB (v := .map (some gn)) na72 rfl hs.2.1 rfl) rfl rfl rfl ?_
                      refine GR.rd rfl rfl (fun w' hs => .loadAll ag82 (by rfl) rfl hs.2.2.1) rfl rfl rfl ?_
                      refine GR.any rfl rfl (.move rfl) rfl rfl rfl ?_
                      refine GR.any rfl rfl (.nilCheck rfl) rfl rfl rfl ?_
                      refine GR.any rfl rfl (.field0 fa75_2 rfl) rfl rfl rfl ?_
                      refine GR.rd rfl rfl (fun w' hs => .loadB (v := .map (some gw)) na73 rfl hs.2.1 rfl) rfl rfl rfl ?_
                      refine GR.rd rfl rfl (fun w' hs => .loadAll ag82 (by rfl) rfl hs.2.2.1) rfl rfl rfl ?_
                      refine GR.any rfl rfl (.move rfl) rfl rfl rfl ?_
                      refine GR.rd rfl rfl (fun w' hs => .loadAll ag40 (by rfl) rfl hs.2.2.2.1) rfl rfl rfl ?_
                      refine GR.any rfl rfl (.move rfl) rfl rfl rfl ?_
                      refine GR.rd rfl rfl (fun w' hs => .loadB (v := .int .i64 (h)) na3 rfl hs.2.2.2.2 rfl) rfl rfl rfl ?_
                      refine GR.rd rfl rfl (fun w' hs => .loadB (v := .int .i64 (h)) na3 rfl hs.2.2.2.2 rfl) rfl rfl rfl ?_
                      refine GR.ef rfl rfl rfl rfl rfl ?_
                      refine Ef.buildSliceV (len := 1) [_] Tryz.underlying23 el3 rfl (by simp [Value.cells]) rfl (by decide) (by decide) ?_
                      intro g16_14_3 w16_14_3 hg16_14_3 b16_14_3 h16_14_3
                      have L191 := L186.le h16_14_3
                      have b16_14_3 : Blk w16_14_3 g16_14_3 3 (([h]).map iv).flatten.toArray := b16_14_3
                      have o16_14_3 : OVec w16_14_3 w16.heap.size 3 iv 1 (some ⟨g16_14_3, 0, none⟩) 1 1 ([h]) := b16_14_3.ovec hg16_14_3 iv_row rfl rfl (by decide)
                      have f192 := (f187.le h16_14_3)
                      have f193 := (f188.le h16_14_3)
                      have f194 := (f189.le h16_14_3)
                      have f195 := (f190.le h16_14_3)
                      refine ⟨fun _ => ⟨L191, f192, f193, f194, f195⟩, ?_⟩
                      have f196 := (o11_8_1.le (d12.trans (d16.trans h16_14_3)))
                      refine GR.ef rfl rfl rfl rfl rfl ?_
                      refine Ef.vpush (a := h) Tryz.underlying23 el3 Tryz.underlying23 iv_row rfl f196 rfl b16_14_3 (by omega) (by unfold maxLen; omega) (by have := h11_6_1.size; have := h11_8_1.size; have := d12.size; have := d16.size; have := h16_14_3.size; omega) ?_
                      intro A16_15_3 c16_15_3 w16_15_3 o16_15_3 h16_15_3 at16_15_3
                      have L197 : ChP w w16_15_3 (fun k => k = gp ∨ k = gn ∨ k = gw) := L191.ch h16_15_3 (fun i hi hlt => absurd hlt (by have := (f196.row hi).1; have := L29.size; omega))
                      have f198 := (f192.ch h16_15_3 (fun he => by have := (f196.row he).1; have := f30.lt; omega))
                      have f199 := (f193.ch h16_15_3 (fun he => by have := (f196.row he).1; have := f31.lt; omega))
                      have f200 := (f194.ch h16_15_3 (fun he => by have := (f196.row he).1; have := f0_4.lt; have := h10_7.size; have := h10_8.size; have := d11.size; omega))
                      have f201 := (f195.ch h16_15_3 (fun he => by have := (f196.row he).1; have := f0_5.lt; have := h10_7.size; have := h10_8.size; have := d11.size; omega))
                      refine ⟨fun _ => ⟨L197, f198, f199, f200, f201⟩, ?_⟩
                      have f202 := ((f183.le (d16.trans h16_14_3)).ch h16_15_3 (fun he => by have := (f196.row he).1; have := f0_2.lt; have := h10_7.size; have := h10_8.size; have := d11.size; omega))
                      refine GR.ef rfl rfl rfl rfl rfl ?_
                      refine Ef.mapEntryG (key := (sdOf a)) Tryz.underlying72 ksd rfl rfl f202 stay_sd hk12_7_1 ?_
                      intro s16_17_3 w16_17_3 hs16_17_3 b16_17_3 h16_17_3
                      have L203 : ChP w w16_17_3 (fun k => k = gp ∨ k = gn ∨ k = gw) := L197.ch h16_17_3 (fun i hi _ => by cases hi; exact Or.inr (Or.inl rfl))
                      have f204 := (f198.ch h16_17_3 (fun h => (Ne.symm hL.pn) (Option.some.inj h)))
                      have f205 := (f199.ch h16_17_3 (fun h => (show gn ≠ g10_7 from by have := f0_2.lt; omega) (Option.some.inj h)))
                      have f206 := (f200.ch h16_17_3 (fun h => (show gn ≠ g0_0 from by have := hN0.lt; omega) (Option.some.inj h)))
                      have f207 := (f201.ch h16_17_3 (fun h => (show gn ≠ g0_1 from by have := hN0.lt; have := h0_0.size; omega) (Option.some.inj h)))
                      refine ⟨fun _ => ⟨L203, f204, f205, f206, f207⟩, ?_⟩
                      refine GR.any rfl rfl (.extract (v := .int .i64 (((s16_17_3 : Nat) : Int))) rfl rfl) rfl rfl rfl ?_
                      refine GR.ef0 rfl rfl rfl rfl ?_
                      refine Ef.entryStoreG (key := (sdOf a)) (u := a) rfl rfl rfl b16_17_3 hs16_17_3 ?_
                      intro w16_19_3 b16_19_3 h16_19_3
                      have L208 : ChP w w16_19_3 (fun k => k = gp ∨ k = gn ∨ k = gw) := L203.ch h16_19_3 (fun i hi _ => by cases hi; exact Or.inr (Or.inl rfl))
                      have f209 := (f204.ch h16_19_3 (fun h => (Ne.symm hL.pn) (Option.some.inj h)))
                      have f210 := (f205.ch h16_19_3 (fun h => (show gn ≠ g10_7 from by have := f0_2.lt; omega) (Option.some.inj h)))
                      have f211 := (f206.ch h16_19_3 (fun h => (show gn ≠ g0_0 from by have := hN0.lt; omega) (Option.some.inj h)))
                      have f212 := (f207.ch h16_19_3 (fun h => (show gn ≠ g0_1 from by have := hN0.lt; have := h0_0.size; omega) (Option.some.inj h)))
                      refine ⟨fun _ => ⟨L208, f209, f210, f211, f212⟩, ?_⟩
                      have f213 := ((((((f130.le h11_6_1).ch h11_8_1 (fun he => by have := (oc11_6_1.row he).1; have := f130.lt; omega)).le (d12.trans (d16.trans h16_14_3))).ch h16_15_3 (fun he => by have := (f196.row he).1; have := f130.lt; omega)).ch h16_17_3 (fun h => hL.nw (Option.some.inj h))).ch h16_19_3 (fun h => hL.nw (Option.some.inj h)))
                      refine GR.ef rfl rfl rfl rfl rfl ?_
                      refine Ef.mapEntryG (key := (sdOf a)) Tryz.underlying73 ksd rfl rfl f213 stay_sd hk11_5 ?_
                      intro s16_20_3 w16_20_3 hs16_20_3 b16_20_3 h16_20_3
                      have L214 : ChP w w16_20_3 (fun k => k = gp ∨ k = gn ∨ k = gw) := L208.ch h16_20_3 (fun i hi _ => by cases hi; exact Or.inr (Or.inr rfl))
                      have f215 := (f209.ch h16_20_3 (fun h => (Ne.symm hL.pw) (Option.some.inj h)))
                      have f216 := (f210.ch h16_20_3 (fun h => (show gw ≠ g10_7 from by have := f0_3.lt; omega) (Option.some.inj h)))
                      have f217 := (f211.ch h16_20_3 (fun h => (show gw ≠ g0_0 from by have := hW0.lt; omega) (Option.some.inj h)))
                      have f218 := (f212.ch h16_20_3 (fun h => (show gw ≠ g0_1 from by have := hW0.lt; have := h0_0.size; omega) (Option.some.inj h)))
                      refine ⟨fun _ => ⟨L214, f215, f216, f217, f218⟩, ?_⟩
                      refine GR.any rfl rfl (.extract (v := .int .i64 (((s16_20_3 : Nat) : Int))) rfl rfl) rfl rfl rfl ?_
                      refine GR.ef0 rfl rfl rfl rfl ?_
                      refine Ef.entryStoreG (key := (sdOf a)) (u := (⟨A16_15_3, ((lateB vhk11_5.xs h).length + 1), c16_15_3, ((lateB vhk11_5.xs h) ++ [h])⟩ : Wh)) rfl rfl rfl b16_20_3 hs16_20_3 ?_
                      intro w16_22_3 b16_22_3 h16_22_3
                      have L219 : ChP w w16_22_3 (fun k => k = gp ∨ k = gn ∨ k = gw) := L214.ch h16_22_3 (fun i hi _ => by cases hi; exact Or.inr (Or.inr rfl))
                      have f220 := (f215.ch h16_22_3 (fun h => (Ne.symm hL.pw) (Option.some.inj h)))
                      have f221 := (f216.ch h16_22_3 (fun h => (show gw ≠ g10_7 from by have := f0_3.lt; omega) (Option.some.inj h)))
                      have f222 := (f217.ch h16_22_3 (fun h => (show gw ≠ g0_0 from by have := hW0.lt; omega) (Option.some.inj h)))
                      have f223 := (f218.ch h16_22_3 (fun h => (show gw ≠ g0_1 from by have := hW0.lt; have := h0_0.size; omega) (Option.some.inj h)))
                      refine ⟨fun _ => ⟨L219, f220, f221, f222, f223⟩, ?_⟩
                      refine GR.any rfl rfl (.nilCheck rfl) rfl rfl rfl ?_
                      refine GR.any rfl rfl (.field0 fa75_3 rfl) rfl rfl rfl ?_
                      refine GR.ef0 rfl rfl rfl rfl ?_
                      refine Ef.store sz3 rfl rfl f220 (by first | decide | (simp; done)) (rfl) ?_
                      intro w16_25_3 b16_25_3 h16_25_3
                      have b16_25_3 : Blk w16_25_3 gp 75 #[.slice A keys.length c, .map (some gn), .map (some gw), .int .i64 (h)] := b16_25_3
                      have L224 : ChP w w16_25_3 (fun k => k = gp ∨ k = gn ∨ k = gw) := L219.ch h16_25_3 (fun i hi _ => by cases hi; exact Or.inl rfl)
                      refine ⟨fun h => absurd h (ne_true_of_eq_false (by kernel_rfl)), ?_⟩
                      refine GR.nil ?_
                      refine E.thenN ?_
                      refine WC.seq ?_
                      refine WC.region ?_
                      refine W.any (.assign rfl) rfl rfl rfl ?_
                      refine W.nil ?_
                      refine E.thenN ?_
                      refine WC.ret ?_
                      have f225 := (((b16_19_3.ch h16_20_3 (fun h => (Ne.symm hL.nw) (Option.some.inj h))).ch h16_22_3 (fun h => (Ne.symm hL.nw) (Option.some.inj h))).ch h16_25_3 (fun h => hL.pn (Option.some.inj h)))
                      have f226 := (b16_22_3.ch h16_25_3 (fun h => hL.pw (Option.some.inj h)))
                      have f227 := (((((o16_15_3.ch h16_17_3 (fun q hq => by cases hq; exact (fun he => by have := (o16_15_3.row he).1; have := f0_2.lt; have := h10_7.size; have := h10_8.size; have := d11.size; omega))).ch h16_19_3 (fun q hq => by cases hq; exact (fun he => by have := (o16_15_3.row he).1; have := f0_2.lt; have := h10_7.size; have := h10_8.size; have := d11.size; omega))).ch h16_20_3 (fun q hq => by cases hq; exact (fun he => by have := (o16_15_3.row he).1; have := f130.lt; omega))).ch h16_22_3 (fun q hq => by cases hq; exact (fun he => by have := (o16_15_3.row he).1; have := f130.lt; omega))).ch h16_25_3 (fun q hq => by cases hq; exact (fun he => by have := (o16_15_3.row he).1; have := f30.lt; omega)))
                      refine E.retG1 rfl rfl ?_
                      have hnone : ¬ la.any (badX a.e) = true := (by rw [← hinv, hu6_0]; simp); have hle : ¬ a.no ≤ noOf (getG (sdOf a) la) := (by rw [hk12_7_1]; simpa [noOf, noAd] using c4); have hrt : ¬ 4 ≤ (lateB (((getG (sdOf a) lw).map (·.xs)).getD []) h).length := (by rw [hk11_5]; have := c5; simp only [Option.map_some, Option.map_none, Option.getD_some, Option.getD_none]; omega); have e9 : takeR keys la lw ht a h = 0 := (by unfold takeR; rw [if_neg hok, if_neg (by simpa using c1), if_neg hnone, if_neg hle, if_neg hrt]); obtain ⟨hB, hbz⟩ := hL.put L224 b16_25_3 f225 f226 (v := (⟨A16_15_3, ((lateB vhk11_5.xs h).length + 1), c16_15_3, ((lateB vhk11_5.xs h) ++ [h])⟩ : Wh)) (s := sdOf a) (f227.mono L29.size) (fun k => getG_put1 hk11_5 k); exact ⟨L224, .inr ⟨e9, rfl, _, _, _, _, _, hB, (fun k => getG_put1 hk12_7_1 k), (by rw [hk11_5]; rfl), (fun k => getG_put1 hk11_5 k), hbz⟩⟩
            · intro e6_0 w6_0 he6_0 b6_0 h6_0
              have L228 : ChP w w6_0 (fun k => k = gp ∨ k = gn ∨ k = gw) := Ll0.ch h6_0 (fun i hi hlt => by cases hi; exact absurd hlt (by have := L17.size; have := hg5_4; omega))
              have hp6_0 := unsG_push f0_2.2 he6_0
              have hl6_0 := hp6_0.length_eq
              rw [List.length_cons] at hl6_0
              refine W.any (.extract (v := .bool true) rfl rfl) rfl rfl rfl ?_
              refine W.nil ?_
              refine E.thenN ?_
              refine WC.seq ?_
              refine WC.condT rfl ?_
              refine WC.skip ?_
              refine E.thenN ?_
              refine WC.block ?_
              refine WC.seq ?_
              refine WC.region ?_
              have f229 := (f0_2.ch h6_0 (fun h => (show r5_4 ≠ gn from by have := f19.lt; omega) (Option.some.inj h)))
              refine W.ef rfl rfl rfl ?_
              refine Ef.entryG (e := e6_0) rfl f229 b6_0 (unsG_mem he6_0) ?_
              refine W.any (.extract (v := .agg (sdV e6_0.2.1).toArray) rfl rfl) rfl rfl rfl ?_
              refine W.any (.extract (v := .agg (adV e6_0.2.2).toArray) rfl rfl) rfl rfl rfl ?_
              refine W.ef rfl rfl rfl ?_
              refine Ef.allocA z82 ?_
              intro g7_3 w7_3 hg7_3 b7_3 h7_3
              have L230 := L228.le h7_3
              have b7_3 : Blk w7_3 g7_3 82 (sdV noSd).toArray := b7_3
              refine W.ef rfl rfl rfl ?_
              refine Ef.allocA z40 ?_
              intro g7_4 w7_4 hg7_4 b7_4 h7_4
              have L231 := L230.le h7_4
              have b7_4 : Blk w7_4 g7_4 40 (adV noAd).toArray := b7_4
              have f232 := (b7_3.le h7_4)
              refine W.ef0 rfl rfl ?_
              refine Ef.storeAll sz82 (by rfl) rfl rfl f232 (by simp only [List.size_toArray, sdV_row.len]) (sdV_row.one e6_0.2.1) ?_
              intro w7_5 b7_5 h7_5
              have b7_5 : Blk w7_5 g7_3 82 (sdV e6_0.2.1).toArray := b7_5
              have L233 : ChP w w7_5 (fun k => k = gp ∨ k = gn ∨ k = gw) := L231.ch h7_5 (fun i hi hlt => by cases hi; exact absurd hlt (by have := L228.size; have := hg7_3; omega))
              have f234 := (b7_4.ch h7_5 (fun h => (show g7_3 ≠ g7_4 from by have := b7_3.lt; omega) (Option.some.inj h)))
              refine W.ef0 rfl rfl ?_
              refine Ef.storeAll sz40 (by rfl) rfl rfl f234 (by simp only [List.size_toArray, adV_row.len]) (adV_row.one e6_0.2.2) ?_
              intro w7_6 b7_6 h7_6
              have b7_6 : Blk w7_6 g7_4 40 (adV e6_0.2.2).toArray := b7_6
              have L235 : ChP w w7_6 (fun k => k = gp ∨ k = gn ∨ k = gw) := L233.ch h7_6 (fun i hi hlt => by cases hi; exact absurd hlt (by have := L230.size; have := hg7_4; omega))
              refine W.nil ?_
              refine E.thenN ?_
              refine WC.seq ?_
              refine WC.region ?_
              refine W.any (.idxAo (0) Tryz.underlying82 sz3 rfl rfl (rfl) (by decide)) rfl rfl rfl ?_
              have f236 := (b7_5.ch h7_6 (fun h => (show g7_4 ≠ g7_3 from by have := b7_3.lt; omega) (Option.some.inj h)))
              refine W.rd (.loadB (v := .int .i64 (e6_0.2.1.c)) na3 rfl f236 rfl) rfl rfl rfl ?_
              refine W.any (.field0 fa40_0 rfl) rfl rfl rfl ?_
              refine W.any (.field0 fa36_2 rfl) rfl rfl rfl ?_
              have f237 := ((((f0_4.ch h6_0 (fun h => (show r5_4 ≠ g0_0 from by have := f15.lt; have := h3_10.size; omega) (Option.some.inj h))).le (h7_3.trans h7_4)).ch h7_5 (fun h => (show g7_3 ≠ g0_0 from by have := f0_4.lt; have := h6_0.size; omega) (Option.some.inj h))).ch h7_6 (fun h => (show g7_4 ≠ g0_0 from by have := f0_4.lt; have := h6_0.size; have := h7_3.size; omega) (Option.some.inj h)))
              refine W.rd (.loadB (v := .int .i64 (a.e.c)) na3 rfl f237 rfl) rfl rfl rfl ?_
              refine W.any (.eql rfl rfl) rfl rfl rfl ?_
              by_cases q8_6 : e6_0.2.1.c = a.e.c
              · refine W.any (.dec (.move rfl) (decide_eq_true q8_6)) rfl rfl rfl ?_
                refine W.rdg (Any.rd (.field0 fa40_0 rfl) _) rfl rfl rfl (rfl) rfl rfl ?_
                refine W.rdg (.bpart (edgeV e6_0.2.2.e) ag36 rfl (by decide) rfl b7_6 rfl) rfl rfl rfl (rfl) rfl rfl ?_
                refine W.rdg (Any.rd (.field0 fa40_0 rfl) _) rfl rfl rfl (rfl) rfl rfl ?_
                refine W.rdg (.bpart (edgeV a.e) ag36 rfl (by decide) rfl f237 rfl) rfl rfl rfl (rfl) rfl rfl ?_
                refine W.efg rfl rfl rfl (rfl) rfl rfl ?_
                refine Ef.call go31 rfl rfl (alike_ok e6_0.2.2.e a.e w7_6) ?_
                rintro _ w8_11 ⟨rfl, h8_11⟩
                refine ⟨_, rfl, ?_⟩
                have L238 := L235.le h8_11
                refine W.rdg (Any.rd (.not rfl) _) rfl rfl rfl (rfl) rfl rfl ?_
                refine W.any (.pickT rfl rfl rfl) rfl rfl rfl ?_
                refine W.nil ?_
                refine E.thenN ?_
                by_cases c3 : (alikeE e6_0.2.2.e a.e) = true
                · refine WC.condN rfl (congrArg not (c3)) ?_
                  refine WC.skip ?_
                  refine E.blkN ?_
                  have f239 := (((((f0_0.ch h6_0 (fun h => (show r5_4 ≠ gp from by have := f18.lt; omega) (Option.some.inj h))).le (h7_3.trans h7_4)).ch h7_5 (fun h => (show g7_3 ≠ gp from by have := f0_0.lt; have := h6_0.size; omega) (Option.some.inj h))).ch h7_6 (fun h => (show g7_4 ≠ gp from by have := f0_0.lt; have := h6_0.size; have := h7_3.size; omega) (Option.some.inj h))).le h8_11)
                  have f240 := (((((f0_1.ch h6_0 (fun q hq => by cases hq; exact (fun he => by have := (f16.row he).2; have := h3_10.size; omega))).le (h7_3.trans h7_4)).ch h7_5 (fun q hq => by cases hq; exact (fun he => by have := (f0_1.row he).2; have := h6_0.size; omega))).ch h7_6 (fun q hq => by cases hq; exact (fun he => by have := (f0_1.row he).2; have := h6_0.size; have := h7_3.size; omega))).le h8_11)
                  have f241 := ((((f229.le (h7_3.trans h7_4)).ch h7_5 (fun h => (show g7_3 ≠ gn from by have := f229.lt; omega) (Option.some.inj h))).ch h7_6 (fun h => (show g7_4 ≠ gn from by have := f229.lt; have := h7_3.size; omega) (Option.some.inj h))).le h8_11)
                  have f242 := (((((f0_3.ch h6_0 (fun h => (show r5_4 ≠ gw from by have := hW0.lt; have := h0_0.size; have := h0_1.size; have := d1.size; have := h1_4.size; have := h1_23.size; have := h1_24.size; have := d3.size; have := h3_10.size; omega) (Option.some.inj h))).le (h7_3.trans h7_4)).ch h7_5 (fun h => (show g7_3 ≠ gw from by have := f0_3.lt; have := h6_0.size; omega) (Option.some.inj h))).ch h7_6 (fun h => (show g7_4 ≠ gw from by have := f0_3.lt; have := h6_0.size; have := h7_3.size; omega) (Option.some.inj h))).le h8_11)
                  have f243 := (f237.le h8_11)
                  have f244 := (((((f0_5.ch h6_0 (fun h => (show r5_4 ≠ g0_1 from by have := f10.lt; have := h1_23.size; have := h1_24.size; have := d3.size; have := h3_10.size; omega) (Option.some.inj h))).le (h7_3.trans h7_4)).ch h7_5 (fun h => (show g7_3 ≠ g0_1 from by have := f0_5.lt; have := h6_0.size; omega) (Option.some.inj h))).ch h7_6 (fun h => (show g7_4 ≠ g0_1 from by have := f0_5.lt; have := h6_0.size; have := h7_3.size; omega) (Option.some.inj h))).le h8_11)
                  have f245 := ((((b6_0.le (h7_3.trans h7_4)).ch h7_5 (fun h => (show g7_3 ≠ r5_4 from by have := b6_0.lt; omega) (Option.some.inj h))).ch h7_6 (fun h => (show g7_4 ≠ r5_4 from by have := b6_0.lt; have := h7_3.size; omega) (Option.some.inj h))).le h8_11)
                  refine E.again (seen.push e6_0.1) (.cons rfl (.cons rfl (.cons rfl (.cons rfl (.nil _))))) ?_ ?_
                  · exact ⟨by rw [← hinv, hp6_0.any_eq, List.any_cons]; have hq : badX a.e e6_0 = false := (by simp [badX, badB, q1_6, q1_17, c0, c1, q8_6, c3]); rw [hq, Bool.false_or], L238, by have := zl0; have := h6_0.size; have := h7_3.size; have := h7_4.size; have := h7_5.size; have := h7_6.size; have := h8_11.size; omega, f239, f240, f241, f242, f243, f244, f245⟩
                  · first | omega | (simp only []; omega)
                · refine WC.condY rfl (congrArg not ((Bool.eq_false_iff.2 c3))) ?_
                  refine WC.seq ?_
                  refine WC.region ?_
                  refine W.any (.assign rfl) rfl rfl rfl ?_
                  refine W.nil ?_
                  refine E.thenN ?_
                  refine WC.ret ?_
                  refine E.blkR ?_
                  refine E.thenR ?_
                  refine E.blkR ?_
                  refine E.thenR ?_
                  have f246 := (((((f0_0.ch h6_0 (fun h => (show r5_4 ≠ gp from by have := f18.lt; omega) (Option.some.inj h))).le (h7_3.trans h7_4)).ch h7_5 (fun h => (show g7_3 ≠ gp from by have := f0_0.lt; have := h6_0.size; omega) (Option.some.inj h))).ch h7_6 (fun h => (show g7_4 ≠ gp from by have := f0_0.lt; have := h6_0.size; have := h7_3.size; omega) (Option.some.inj h))).le h8_11)
                  have f247 := ((((f229.le (h7_3.trans h7_4)).ch h7_5 (fun h => (show g7_3 ≠ gn from by have := f229.lt; omega) (Option.some.inj h))).ch h7_6 (fun h => (show g7_4 ≠ gn from by have := f229.lt; have := h7_3.size; omega) (Option.some.inj h))).le h8_11)
                  have f248 := (((((f0_3.ch h6_0 (fun h => (show r5_4 ≠ gw from by have := hW0.lt; have := h0_0.size; have := h0_1.size; have := d1.size; have := h1_4.size; have := h1_23.size; have := h1_24.size; have := d3.size; have := h3_10.size; omega) (Option.some.inj h))).le (h7_3.trans h7_4)).ch h7_5 (fun h => (show g7_3 ≠ gw from by have := f0_3.lt; have := h6_0.size; omega) (Option.some.inj h))).ch h7_6 (fun h => (show g7_4 ≠ gw from by have := f0_3.lt; have := h6_0.size; have := h7_3.size; omega) (Option.some.inj h))).le h8_11)
                  refine E.retG1 rfl rfl ?_
                  have hany : la.any (badX a.e) = true := (by rw [← hinv, hp6_0.any_eq, List.any_cons]; simp [badX, badB, q1_6, q1_17, c0, c1, q8_6, c3]); have e9 : takeR keys la lw ht a h = 4 := (by unfold takeR; rw [if_neg hok, if_neg (by simpa using c1), if_pos hany]); exact ⟨L238, .inl ⟨by rw [e9]; decide, by rw [e9], hL.same L238 f246 f247 f248⟩⟩
              · refine W.any (.dec (.move rfl) (decide_eq_false q8_6)) rfl rfl rfl ?_
                refine W.skip rfl rfl rfl (rfl) rfl rfl ?_
                refine W.skip rfl rfl rfl (rfl) rfl rfl ?_
                refine W.skip rfl rfl rfl (rfl) rfl rfl ?_
                refine W.skip rfl rfl rfl (rfl) rfl rfl ?_
                refine W.skip rfl rfl rfl (rfl) rfl rfl ?_
                refine W.skip rfl rfl rfl (rfl) rfl rfl ?_
                refine W.any (.pickF rfl rfl rfl) rfl rfl rfl ?_
                refine W.nil ?_
                refine E.thenN ?_
                refine WC.condF rfl ?_
                refine WC.skip ?_
                refine E.blkN ?_
                have f249 := ((((f0_0.ch h6_0 (fun h => (show r5_4 ≠ gp from by have := f18.lt; omega) (Option.some.inj h))).le (h7_3.trans h7_4)).ch h7_5 (fun h => (show g7_3 ≠ gp from by have := f0_0.lt; have := h6_0.size; omega) (Option.some.inj h))).ch h7_6 (fun h => (show g7_4 ≠ gp from by have := f0_0.lt; have := h6_0.size; have := h7_3.size; omega) (Option.some.inj h)))
                have f250 := ((((f0_1.ch h6_0 (fun q hq => by cases hq; exact (fun he => by have := (f16.row he).2; have := h3_10.size; omega))).le (h7_3.trans h7_4)).ch h7_5 (fun q hq => by cases hq; exact (fun he => by have := (f0_1.row he).2; have := h6_0.size; omega))).ch h7_6 (fun q hq => by cases hq; exact (fun he => by have := (f0_1.row he).2; have := h6_0.size; have := h7_3.size; omega)))
                have f251 := (((f229.le (h7_3.trans h7_4)).ch h7_5 (fun h => (show g7_3 ≠ gn from by have := f229.lt; omega) (Option.some.inj h))).ch h7_6 (fun h => (show g7_4 ≠ gn from by have := f229.lt; have := h7_3.size; omega) (Option.some.inj h)))
                have f252 := ((((f0_3.ch h6_0 (fun h => (show r5_4 ≠ gw from by have := hW0.lt; have := h0_0.size; have := h0_1.size; have := d1.size; have := h1_4.size; have := h1_23.size; have := h1_24.size; have := d3.size; have := h3_10.size; omega) (Option.some.inj h))).le (h7_3.trans h7_4)).ch h7_5 (fun h => (show g7_3 ≠ gw from by have := f0_3.lt; have := h6_0.size; omega) (Option.some.inj h))).ch h7_6 (fun h => (show g7_4 ≠ gw from by have := f0_3.lt; have := h6_0.size; have := h7_3.size; omega) (Option.some.inj h)))
                have f253 := ((((f0_5.ch h6_0 (fun h => (show r5_4 ≠ g0_1 from by have := f10.lt; have := h1_23.size; have := h1_24.size; have := d3.size; have := h3_10.size; omega) (Option.some.inj h))).le (h7_3.trans h7_4)).ch h7_5 (fun h => (show g7_3 ≠ g0_1 from by have := f0_5.lt; have := h6_0.size; omega) (Option.some.inj h))).ch h7_6 (fun h => (show g7_4 ≠ g0_1 from by have := f0_5.lt; have := h6_0.size; have := h7_3.size; omega) (Option.some.inj h)))
                have f254 := (((b6_0.le (h7_3.trans h7_4)).ch h7_5 (fun h => (show g7_3 ≠ r5_4 from by have := b6_0.lt; omega) (Option.some.inj h))).ch h7_6 (fun h => (show g7_4 ≠ r5_4 from by have := b6_0.lt; have := h7_3.size; omega) (Option.some.inj h)))
                refine E.again (seen.push e6_0.1) (.cons rfl (.cons rfl (.cons rfl (.cons rfl (.nil _))))) ?_ ?_
                · exact ⟨by rw [← hinv, hp6_0.any_eq, List.any_cons]; have hq : badX a.e e6_0 = false := (by simp [badX, badB, q1_6, q1_17, c0, c1, q8_6]); rw [hq, Bool.false_or], L235, by have := zl0; have := h6_0.size; have := h7_3.size; have := h7_4.size; have := h7_5.size; have := h7_6.size; omega, f249, f250, f251, f252, f237, f253, f254⟩
                · first | omega | (simp only []; omega)
        · refine WC.condY rfl (congrArg not ((Bool.eq_false_iff.2 c1))) ?_
          refine WC.seq ?_
          refine WC.region ?_
          refine W.any (.assign rfl) rfl rfl rfl ?_
          refine W.nil ?_
          refine E.thenN ?_
          refine WC.ret ?_
          refine E.thenR ?_
          have f255 := (f14.le h3_10)
          have f256 := (hN0.le (h0_0.trans (h0_1.trans (d1.trans (h1_4.trans (h1_23.trans (h1_24.trans (d3.trans h3_10))))))))
          have f257 := (hW0.le (h0_0.trans (h0_1.trans (d1.trans (h1_4.trans (h1_23.trans (h1_24.trans (d3.trans h3_10))))))))
          refine E.retG1 rfl rfl ?_
          have e9 : takeR keys la lw ht a h = 7 := (by unfold takeR; rw [if_neg hok, if_pos (by simpa using c1)]); exact ⟨L17, .inl ⟨by rw [e9]; decide, by rw [e9], hL.same L17 f255 f256 f257⟩⟩
      · refine WC.condY rfl (congrArg not ((Bool.eq_false_iff.2 c0))) ?_
        have hbad : mayA a.e a.no = false ∨ (keys.length : Int) ≤ a.e.f ∨ inB h ht 1048576 = false := by first | (left; simpa using (by assumption : ¬ mayA a.e a.no = true)) | (right; left; assumption) | (right; right; simpa using (by assumption : ¬ inB h ht 1048576 = true))
        refine WC.seq ?_
        refine WC.region ?_
        refine W.any (.assign rfl) rfl rfl rfl ?_
        refine W.nil ?_
        refine E.thenN ?_
        refine WC.ret ?_
        refine E.thenR ?_
        have f258 := (f7.le (h1_23.trans h1_24))
        have f259 := (hN0.le (h0_0.trans (h0_1.trans (d1.trans (h1_4.trans (h1_23.trans h1_24))))))
        have f260 := (hW0.le (h0_0.trans (h0_1.trans (d1.trans (h1_4.trans (h1_23.trans h1_24))))))
        refine E.retG1 rfl rfl ?_
        have e9 : takeR keys la lw ht a h = 1 := (by unfold takeR; rw [if_pos hbad]); exact ⟨L12, .inl ⟨by rw [e9]; decide, by rw [e9], hL.same L12 f258 f259 f260⟩⟩
  · refine G.any rfl rfl (.dec (.move rfl) (congrArg not ((Bool.eq_false_iff.2 q1_6)))) rfl rfl rfl ?_
    refine G.skip rfl rfl rfl rfl (rfl) rfl rfl ?_
    refine G.skip rfl rfl rfl rfl (rfl) rfl rfl ?_
    refine G.skip rfl rfl rfl rfl (rfl) rfl rfl ?_
    refine G.skip rfl rfl rfl rfl (rfl) rfl rfl ?_
    refine G.skip rfl rfl rfl rfl (rfl) rfl rfl ?_
    refine G.skip rfl rfl rfl rfl (rfl) rfl rfl ?_
    refine G.skip rfl rfl rfl rfl (rfl) rfl rfl ?_
    refine G.skip rfl rfl rfl rfl (rfl) rfl rfl ?_
    refine G.skip rfl rfl rfl rfl (rfl) rfl rfl ?_
    refine G.any rfl rfl (.pickT rfl rfl rfl) rfl rfl rfl ?_
    refine G.any rfl rfl (.move rfl) rfl rfl rfl ?_
    refine G.skip rfl rfl rfl rfl (rfl) rfl rfl ?_
    refine G.skip rfl rfl rfl rfl (rfl) rfl rfl ?_
    refine G.skip rfl rfl rfl rfl (rfl) rfl rfl ?_
    refine G.skip rfl rfl rfl rfl (rfl) rfl rfl ?_
    refine G.skip rfl rfl rfl rfl (rfl) rfl rfl ?_
    refine G.skip rfl rfl rfl rfl (rfl) rfl rfl ?_
    refine G.skip rfl rfl rfl rfl (rfl) rfl rfl ?_
    refine G.skip rfl rfl rfl rfl (rfl) rfl rfl ?_
    refine G.any rfl rfl (.pickT rfl rfl rfl) rfl rfl rfl ?_
    refine G.nil ?_
    refine E.thenN ?_
    refine WC.condT rfl ?_
    have hbad : mayA a.e a.no = false ∨ (keys.length : Int) ≤ a.e.f ∨ inB h ht 1048576 = false := by first | (left; simpa using (by assumption : ¬ mayA a.e a.no = true)) | (right; left; assumption) | (right; right; simpa using (by assumption : ¬ inB h ht 1048576 = true))
    refine WC.seq ?_
    refine WC.region ?_
    refine W.any (.assign rfl) rfl rfl rfl ?_
    refine W.nil ?_
    refine E.thenN ?_
    refine WC.ret ?_
    refine E.thenR ?_
    have f261 := (hp0.le (h0_0.trans (h0_1.trans (d1.trans h1_4))))
    have f262 := (hN0.le (h0_0.trans (h0_1.trans (d1.trans h1_4))))
    have f263 := (hW0.le (h0_0.trans (h0_1.trans (d1.trans h1_4))))
    refine E.retG1 rfl rfl ?_
    have e9 : takeR keys la lw ht a h = 1 := (by unfold takeR; rw [if_pos hbad]); exact ⟨L5, .inl ⟨by rw [e9]; decide, by rw [e9], hL.same L5 f261 f262 f263⟩⟩
end Go.Proofs.YtgpdfkplkaojcaaGreat

namespace Go.Proofs.YtgpdfkplkaojcaaGreat
open Go Go.Sx Go.Hsp Go.Num Go.Osp Go.Gsp Go.Asp Go.Bsp
set_option maxRecDepth 20000
set_option linter.unusedSimpArgs false
set_option linter.unusedVariables false
def GrownB (w : World) (F F' : Nat → Prop) : Prop := ∀ k, F' k → F k ∨ w.heap.size ≤ k
def whOf (lw : WM) (k : Sd) : List Int := ((getG k lw).map (·.xs)).getD []
/-- A book of a state, in the blocks F, all of them new behind 'base'. -/
def BPool (w : World) (base gp : Nat) (F : Nat → Prop) (s : BookS) : Prop := ∃ gn gw A c ca cw la lw, BookL w gp gn gw A c ca cw s.keys la lw s.ht ∧ GoodB s ∧ (∀ k, getG k la = s.nw k) ∧ (∀ k, whOf lw k = s.wl k) ∧ (∀ k, F k ↔ BF gp gn gw A c lw k) ∧ ∀ k, F k → base ≤ k
section
variable {w w' : World} {base gp : Nat} {F : Nat → Prop} {s : BookS}
theorem BPool.chP {F' : Nat → Prop} (h : BPool w base gp F s) (hc : ChP w w' F') (hne : ∀ k, F k → ¬ F' k) : BPool w' base gp F s := by
  obtain ⟨gn, gw, A, c, ca, cw, la, lw, h1, h2, h3, h4, h5, h6⟩ := h
  exact ⟨gn, gw, A, c, ca, cw, la, lw, h1.chP hc (fun k hk => hne k ((h5 k).2 hk)), h2, h3, h4, h5, h6⟩
theorem BPool.ch {r : Option Nat} (h : BPool w base gp F s) (hc : Ch w w' r) (hne : ∀ k, r = some k → ¬ F k) : BPool w' base gp F s := h.chP (hc.chP (F := fun k => r = some k) (fun i hi => hi)) (fun k hk hr => hne k hr hk)
theorem BPool.le (h : BPool w base gp F s) (hl : Le w w') : BPool w' base gp F s := h.chP (hl.chP (fun _ => False)) (fun _ _ hf => hf)
theorem BPool.lt (h : BPool w base gp F s) {k : Nat} (hk : F k) : k < w.heap.size := by
  obtain ⟨gn, gw, A, c, ca, cw, la, lw, h1, h2, h3, h4, h5, h6⟩ := h
  exact h1.lt ((h5 k).1 hk)
theorem BPool.good (h : BPool w base gp F s) : GoodB s := by
  obtain ⟨gn, gw, A, c, ca, cw, la, lw, h1, h2, h3, h4, h5, h6⟩ := h
  exact h2
theorem BPool.old (h : BPool w base gp F s) {k : Nat} (hk : F k) : base ≤ k := by
  obtain ⟨gn, gw, A, c, ca, cw, la, lw, h1, h2, h3, h4, h5, h6⟩ := h
  exact h6 k hk
theorem BPool.size (h : BPool w base gp F s) : base ≤ w.heap.size := by
  obtain ⟨gn, gw, A, c, ca, cw, la, lw, h1, h2, h3, h4, h5, h6⟩ := h
  have := h6 gp ((h5 gp).2 (.inl rfl))
  have := h1.hp.lt
  omega
theorem nodup_len {α : Type} [DecidableEq α] : ∀ {l m : List α}, l.Nodup → (∀ x ∈ l, x ∈ m) → l.length ≤ m.length
  | [], m, _, _ => Nat.zero_le _
  | a :: l, m, hn, hs => by
    rw [List.nodup_cons] at hn
    have ha := hs a List.mem_cons_self
    have h2 := nodup_len (l := l) (m := m.erase a) hn.2 (fun x hx => (List.mem_erase_of_ne (fun e => hn.1 (by rw [← e]; exact hx))).2 (hs x (List.mem_cons_of_mem _ hx)))
    rw [List.length_erase_of_mem ha] at h2
    have := List.length_pos_of_mem ha
    rw [List.length_cons]
    omega
theorem book_few {gn gw c ca cw : Nat} {A : Option Addr} {la : AM} {lw : WM} (h : BookL w gp gn gw A c ca cw s.keys la lw s.ht) (hg : GoodB s) (hn : ∀ k, getG k la = s.nw k) : la.length ≤ 480 := by
  have h1 : (la.map fun x => x.2.1).length ≤ grid.length := by
    refine nodup_len h.hN.2.keys (fun k hk => ?_)
    obtain ⟨x, hx, rfl⟩ := List.mem_map.1 hk
    have h2 := getG_of_mem h.hN.2 hx
    rw [hn] at h2
    obtain ⟨e1, e2, e3, e4⟩ := hg.at_ _ _ h2
    have h3 := edgeA_T (mayA_T e2).1
    show x.2.1 ∈ grid
    rw [e1]
    exact grid_mem.2 ⟨h3.2.2.2.1, h3.1⟩
  have h4 : grid.length = 480 := by simp [grid]; decide
  rw [List.length_map, h4] at h1
  exact h1
theorem ads_is {gn gw c ca cw : Nat} {A : Option Addr} {la : AM} {lw : WM} (h : BookL w gp gn gw A c ca cw s.keys la lw s.ht) (hg : GoodB s) (hn : ∀ k, getG k la = s.nw k) {zs : List Asp.Ad} (hp : zs.Perm (la.map fun x => x.2.2)) (hw : zs.Pairwise (fun a b => ¬ adLt b a)) : adsB s = zs := by
  have hat : ∀ x ∈ la, x.2.1 = sdOf x.2.2 ∧ s.nw x.2.1 = some x.2.2 := fun x hx => by
    have h2 := getG_of_mem h.hN.2 hx
    rw [hn] at h2
    exact ⟨(hg.at_ _ _ h2).1, h2⟩
  refine adsB_eq hg ⟨?_, fun x => ?_⟩
  · have hnd : (zs.map sdOf).Nodup := by
      have e1 : (la.map fun x => x.2.2).map sdOf = la.map fun x => x.2.1 := by
        rw [List.map_map]
        apply List.map_congr_left
        intro x hx
        exact (hat x hx).1.symm
      exact ((hp.map sdOf).nodup_iff).2 (by rw [e1]; exact h.hN.2.keys)
    have h2 : zs.Pairwise (fun a b => sdOf a ≠ sdOf b) := by
      have := hnd
      unfold List.Nodup at this
      rw [List.pairwise_map] at this
      exact this
    refine (hw.and h2).imp (fun {a b} hh => ?_)
    obtain ⟨h3, h4⟩ := hh
    unfold adLt sdLt at *
    have : ¬ ((sdOf a).c = (sdOf b).c ∧ (sdOf a).f = (sdOf b).f) := fun e => h4 (by cases ea : sdOf a; cases eb : sdOf b; rw [ea, eb] at e; simp only at e; rw [e.1, e.2])
    omega
  · rw [hp.mem_iff, List.mem_map]
    constructor
    · rintro ⟨y, hy, rfl⟩
      rw [← (hat y hy).1]
      exact (hat y hy).2
    · intro hx
      rw [← hn] at hx
      obtain ⟨b, hb⟩ := getG_mem hx
      exact ⟨_, hb, rfl⟩
theorem takeR_C {la : AM} {lw : WM} {ck : Nat} (hw : WfG la ck) (hn : ∀ k, getG k la = s.nw k) (hl : ∀ k, whOf lw k = s.wl k) (a : Asp.Ad) (h : Int) : takeR s.keys la lw s.ht a h = takeC s a h := by
  have ht : la.any (badX a.e) = true ↔ Twice s.nw a.e := by
    rw [List.any_eq_true]
    constructor
    · rintro ⟨x, hx, hb⟩
      exact ⟨x.2.1, x.2.2, by rw [← hn]; exact getG_of_mem hw hx, hb⟩
    · rintro ⟨k, x, hx, hb⟩
      rw [← hn] at hx
      obtain ⟨b, hm⟩ := getG_mem hx
      exact ⟨_, hm, hb⟩
  unfold takeR takeC
  by_cases h1 : mayA a.e a.no = false ∨ (s.keys.length : Int) ≤ a.e.f ∨ inB h s.ht 1048576 = false
  · rw [if_pos h1, if_pos h1]
  rw [if_neg h1, if_neg h1]
  by_cases h2 : verifyA (s.keys.getD a.e.f.toNat 0) a = false
  · rw [if_pos h2, if_pos h2]
  rw [if_neg h2, if_neg h2]
  by_cases h3 : Twice s.nw a.e
  · rw [if_pos h3, if_pos (ht.2 h3)]
  rw [if_neg h3, if_neg (fun hh => h3 (ht.1 hh)), hn]
  show (if _ then _ else if 4 ≤ (lateB (whOf lw (sdOf a)) h).length then _ else _) = _
  rw [hl]
theorem new_book {Ak : Option Addr} {nk ck : Nat} {keys : List Nat} (w : World) (hV : Vec w pv1 1 Ak nk keys) (hn : nk ≤ 12) (hb : ∀ k ∈ keys, k < 18446744073709551616) : Calls Tryz.prog 6 #[.slice Ak nk ck] w fun r w' => ∃ gp F, r = .returned (.pointer (some ⟨gp, 0, none⟩)) ∧ BPool w' w.heap.size gp F (bookN keys) ∧ Le w w' := by
  refine Calls.mono (bnew_ok w hV) ?_
  rintro r w' (⟨q, _⟩ | ⟨q, gp, gn, gw, A, c, rfl, hL, hk, hl⟩)
  · omega
  · exact ⟨gp, BF gp gn gw A c [], rfl, ⟨gn, gw, A, c, 0, 0, [], [], hL, bookN_good (by rw [hV.1]; exact hn) hb, fun _ => rfl, fun _ => rfl, fun _ => Iff.rfl, hk⟩, hl⟩
theorem take_book (a : Asp.Ad) (h : Int) (hr : a.sg.r < 18446744073709551616) (hB : BPool w base gp F s) : Calls Tryz.prog 8 #[.pointer (some ⟨gp, 0, none⟩), .agg (adV a).toArray, .int .i64 h] w fun r w' => ∃ F', r = .returned (.int .i64 (takeC s a h)) ∧ BPool w' base gp F' (takeS s a h) ∧ GrownB w F F' ∧ ChP w w' F := by
  have hsz := hB.size
  obtain ⟨gn, gw, A, c, ca, cw, la, lw, h1, h2, h3, h4, h5, h6⟩ := hB
  have hR := takeR_C h1.hN.2 h3 h4 a h
  have hw4 : ∀ k v, getG k lw = some v → v.xs.length ≤ 4 := fun k v hv => by
    have := h2.wlL k
    rw [← h4 k] at this
    unfold whOf at this
    rw [hv] at this
    exact this
  refine Calls.mono (btake_ok a h w h1 hr h2.keysB h2.htB.1 (by have := h2.keysL; omega) hw4) ?_
  rintro r w' ⟨hc, hr⟩
  rw [hR] at hr
  have hc2 : ChP w w' F := hc.mono (fun k hk _ => (h5 k).2 (by rcases hk with hk | hk | hk; exact .inl hk; exact .inr (.inl hk); exact .inr (.inr (.inl hk))))
  rcases hr with ⟨q1, rfl, hL⟩ | ⟨q1, rfl, ca', cw', la', lw', v, hL, g1, g2, g3, g4⟩
  · have e : takeS s a h = s := if_neg q1
    rw [e]
    exact ⟨F, rfl, ⟨gn, gw, A, c, ca, cw, la, lw, hL, h2, h3, h4, h5, h6⟩, fun k hk => .inl hk, hc2⟩
  · have e : takeS s a h = putB s a h := if_pos q1
    have hgr : ∀ k, BF gp gn gw A c lw' k → F k ∨ w.heap.size ≤ k := by
      rintro k (hk | hk | hk | hk | ⟨t, u, hu, hk⟩)
      · exact .inl ((h5 k).2 (.inl hk))
      · exact .inl ((h5 k).2 (.inr (.inl hk)))
      · exact .inl ((h5 k).2 (.inr (.inr (.inl hk))))
      · exact .inl ((h5 k).2 (.inr (.inr (.inr (.inl hk)))))
      · rw [g3] at hu
        split at hu
        · cases hu; exact .inr (g4 k hk)
        · exact .inl ((h5 k).2 (.inr (.inr (.inr (.inr ⟨t, u, hu, hk⟩)))))
    rw [e, q1]
    refine ⟨BF gp gn gw A c lw', rfl, ⟨gn, gw, A, c, ca', cw', la', lw', hL, putB_good h2 q1, fun k => ?_, fun k => ?_, fun _ => Iff.rfl, fun k hk => ?_⟩, hgr, hc2⟩
    · show _ = if k = sdOf a then some a else s.nw k
      rw [g1, h3]
    · show _ = if k = sdOf a then lateB (s.wl k) h ++ [h] else s.wl k
      unfold whOf
      rw [g3]
      by_cases ek : k = sdOf a
      · rw [if_pos ek, if_pos ek, ek, ← h4 (sdOf a)]
        exact g2
      · rw [if_neg ek, if_neg ek]
        exact h4 k
    · rcases hgr k hk with hh | hh
      · exact h6 k hh
      · omega
theorem ads_book (h : BPool w base gp F s) : Calls Tryz.prog 35 #[.pointer (some ⟨gp, 0, none⟩)] w fun r w' => ∃ (A : Option Addr) (c : Nat), r = .returned (.slice A (adsB s).length c) ∧ OVec w' w.heap.size 40 adV 13 A (adsB s).length c (adsB s) ∧ Le w w' := by
  obtain ⟨gn, gw, A, c, ca, cw, la, lw, h1, h2, h3, h4, h5, h6⟩ := h
  refine Calls.mono (bads_ok w h1 (by have := book_few h1 h2 h3; omega)) ?_
  rintro r w' ⟨A', c', zs, rfl, hp, hw, ho, hl⟩
  have e := ads_is h1 h2 h3 hp hw
  have el : la.length = zs.length := by rw [hp.length_eq, List.length_map]
  rw [e]
  exact ⟨A', c', by rw [el], ho.cast el rfl, hl⟩
theorem edges_next {l : List Asp.Ad} {k : Nat} (h : k < l.length) : (((l.take (k + 1)).filter fun a => !a.gone).map (·.e)) = ((l.take k).filter fun a => !a.gone).map (·.e) ++ if (l.getD k noAd).gone then [] else [(l.getD k noAd).e] := by
  rw [List.take_add_one, getS l noAd h, List.filter_append, List.map_append]
  congr 1
  simp only [Option.toList]
  cases e : (l.getD k noAd).gone <;> simp [List.filter_cons, e, -List.getD_eq_getElem?_getD]
end
theorem edges_book {base gp : Nat} {F : Nat → Prop} {s : BookS} (w : World) (hB : BPool w base gp F s) : Calls Tryz.prog 9 #[.pointer (some ⟨gp, 0, none⟩)] w fun r w' => ∃ (A : Option Addr) (c : Nat), r = .returned (.slice A (edgesB s).length c) ∧ OVec w' w.heap.size 36 edgeV 9 A (edgesB s).length c (edgesB s) ∧ Le w w' := by
  have hal := adsB_len s
  refine enter Tryz.func9 rfl rfl ?_
  have L0 := Le.refl w
  refine WC.seq ?_
  refine WC.region ?_
  refine W.any (.assign rfl) rfl rfl rfl ?_
  refine W.nil ?_
  refine E.thenN ?_
  refine WC.seq ?_
  refine WC.region ?_
  refine W.any (.assign rfl) rfl rfl rfl ?_
  refine W.nil ?_
  refine E.thenN ?_
  refine WC.seq ?_
  refine WC.seq ?_
  refine WC.region ?_
  refine W.any (.move rfl) rfl rfl rfl ?_
  refine W.ef rfl rfl rfl ?_
  refine Ef.call go35 rfl rfl (ads_book (s := s) hB) ?_
  rintro _ w2_1 ⟨A2_1, c2_1, rfl, o2_1, h2_1⟩
  refine ⟨_, rfl, ?_⟩
  have L1 := L0.trans h2_1
  refine W.rd (.len Tryz.underlying22 rfl) rfl rfl rfl ?_
  refine W.any (.move rfl) rfl rfl rfl ?_
  refine W.nil ?_
  refine E.thenN ?_
  refine WC.block ?_
  refine WC.loop (ι := Nat × Nat × (Option Addr) × Nat × (List Gsp.Edge)) (fun ⟨k, m, Ao, co, out⟩ => [(3, .slice Ao m co), (7, .slice A2_1 ((adsB s).length) c2_1), (8, .int .i64 ((((adsB s).length : Nat) : Int))), (9, .int .i64 (((k : Nat) : Int)))]) (fun ⟨k, m, Ao, co, out⟩ wl0 => (k ≤ (adsB s).length) ∧ (m ≤ k) ∧ (out = ((((adsB s).take k).filter fun a => !a.gone).map (·.e))) ∧ Le w wl0 ∧ w2_1.heap.size ≤ wl0.heap.size ∧ OVec wl0 w2_1.heap.size 36 edgeV 9 Ao m co out ∧ OVec wl0 w.heap.size 40 adV 13 A2_1 ((adsB s).length) c2_1 (adsB s)) (fun ⟨k, m, Ao, co, out⟩ => (adsB s).length - k) (0, 0, none, 0, []) ?_ ?_ ?_
  · exact .cons rfl (.cons rfl (.cons rfl (.cons rfl (.nil _))))
  · exact ⟨Nat.zero_le _, Nat.le_refl _, by simp, L1, Nat.le_refl _, (OVec.nil w2_1 w2_1.heap.size 36 edgeV 9 none), o2_1⟩
  · rintro ⟨k, m, Ao, co, out⟩ wl0 ⟨hk, hm, hout, Ll0, zl0, f0_0, f0_1⟩
    have lb0_3 : w2_1.heap.size ≤ wl0.heap.size := by omega
    have lb0_2 : w.heap.size ≤ wl0.heap.size := by have := h2_1.size; omega
    refine WC.seq ?_
    refine WC.region ?_
    refine W.any (.lss rfl rfl) rfl rfl rfl ?_
    refine W.nil ?_
    refine E.thenN ?_
    refine WC.seq ?_
    by_cases c0 : ((k : Nat) : Int) < (((adsB s).length : Nat) : Int)
    · refine WC.condY rfl (decide_eq_true c0) ?_
      refine WC.skip ?_
      refine E.thenN ?_
      refine WC.seq ?_
      refine WC.block ?_
      refine WC.seq ?_
      refine WC.region ?_
      refine W.any (.idxS (k) Tryz.underlying22 sz40 rfl rfl (o2_1.vec.isSome adV_row (by omega)) (rfl) (by omega)) rfl rfl rfl ?_
      refine W.rd (.vload ag40 rfl f0_1.vec adV_row (getS (adsB s) noAd (by first | omega | (simp only [List.length_cons, List.length_nil]; omega)))) rfl rfl rfl ?_
      refine W.ef rfl rfl rfl ?_
      refine Ef.allocA z40 ?_
      intro g4_2 w4_2 hg4_2 b4_2 h4_2
      have L2 := Ll0.trans h4_2
      have b4_2 : Blk w4_2 g4_2 40 (adV noAd).toArray := b4_2
      refine W.ef0 rfl rfl ?_
      refine Ef.storeAll sz40 (by rfl) rfl rfl b4_2 (by simp only [List.size_toArray, adV_row.len]) (adV_row.one ((adsB s).getD k noAd)) ?_
      intro w4_3 b4_3 h4_3
      have b4_3 : Blk w4_3 g4_2 40 (adV ((adsB s).getD k noAd)).toArray := b4_3
      have L3 : Le w w4_3 := L2.then_ h4_3 (fun q hq => by cases hq; exact Nat.le_trans Ll0.size hg4_2)
      refine W.nil ?_
      refine E.thenN ?_
      refine WC.seq ?_
      refine WC.region ?_
      refine W.any (.field0 fa40_2 rfl) rfl rfl rfl ?_
      refine W.rd (.loadB (v := .bool (((adsB s).getD k noAd).gone)) na4 rfl b4_3 rfl) rfl rfl rfl ?_
      refine W.any (.not rfl) rfl rfl rfl ?_
      refine W.nil ?_
      refine E.thenN ?_
      by_cases c1 : (((adsB s).getD k noAd).gone) = true
      · refine WC.condN rfl (congrArg not (c1)) ?_
        refine WC.skip ?_
        refine E.blkN ?_
        refine E.thenN ?_
        refine WC.region ?_
        refine W.any (.add rfl rfl (by omega)) rfl rfl rfl ?_
        refine W.any (.move rfl) rfl rfl rfl ?_
        refine W.nil ?_
        have f4 := ((f0_0.le h4_2).ch h4_3 (fun q hq => by cases hq; exact (fun he => by have := (f0_0.row he).2; omega)))
        have f5 := ((f0_1.le h4_2).ch h4_3 (fun q hq => by cases hq; exact (fun he => by have := (f0_1.row he).2; omega)))
        refine E.again (k + 1, m, Ao, co, out) (.cons rfl (.cons rfl (.cons rfl (.cons rfl (.nil _))))) ?_ ?_
        · exact ⟨by omega, by omega, by rw [edges_next (by omega), ← hout]; simp [-List.getD_eq_getElem?_getD, c0, c1], L3, by have := zl0; have := h4_2.size; have := h4_3.size; omega, f4, f5⟩
        · first | omega | (simp only []; omega)
      · refine WC.condY rfl (congrArg not ((Bool.eq_false_iff.2 c1))) ?_
        refine WC.region ?_
        refine W.any (.move rfl) rfl rfl rfl ?_
        refine W.any (.field0 fa40_0 rfl) rfl rfl rfl ?_
        refine W.rd (.bpart (edgeV (((adsB s).getD k noAd).e)) ag36 rfl (by decide) rfl b4_3 rfl) rfl rfl rfl ?_
        refine W.ef rfl rfl rfl ?_
        refine Ef.buildSliceV (len := 1) [_] Tryz.underlying44 el36 rfl (by simp [Value.cells, edgeV_row.len]) rfl (by decide) (by decide) ?_
        intro g6_3 w6_3 hg6_3 b6_3 h6_3
        have L6 := L3.trans h6_3
        have b6_3 : Blk w6_3 g6_3 36 (([((adsB s).getD k noAd).e]).map edgeV).flatten.toArray := b6_3
        have o6_3 : OVec w6_3 w4_3.heap.size 36 edgeV 9 (some ⟨g6_3, 0, none⟩) 1 1 ([((adsB s).getD k noAd).e]) := b6_3.ovec hg6_3 edgeV_row rfl rfl (by decide)
        have f7 := (((f0_0.le h4_2).ch h4_3 (fun q hq => by cases hq; exact (fun he => by have := (f0_0.row he).2; omega))).le h6_3)
        refine W.ef rfl rfl rfl ?_
        refine Ef.vpush (a := (((adsB s).getD k noAd).e)) Tryz.underlying44 el36 Tryz.underlying44 edgeV_row rfl f7 rfl b6_3 (by omega) (by unfold maxLen; omega) (by have := lb0_3; have := h4_2.size; have := h4_3.size; have := h6_3.size; omega) ?_
        intro A6_4 c6_4 w6_4 o6_4 h6_4 at6_4
        have L8 : Le w w6_4 := L6.then_ h6_4 (fun q hq => Nat.le_trans L1.size (f7.row hq).1)
        refine W.any (.assign rfl) rfl rfl rfl ?_
        refine W.nil ?_
        refine E.blkN ?_
        refine E.thenN ?_
        refine WC.region ?_
        refine W.any (.add rfl rfl (by omega)) rfl rfl rfl ?_
        refine W.any (.move rfl) rfl rfl rfl ?_
        refine W.nil ?_
        have f9 := ((((f0_1.le h4_2).ch h4_3 (fun q hq => by cases hq; exact (fun he => by have := (f0_1.row he).2; omega))).le h6_3).ch h6_4 ((Apart.symm (fun q h1 h2 => by have := (o2_1.row h1).2; have := (f7.row h2).1; omega))))
        refine E.again (k + 1, (m + 1), A6_4, c6_4, (out ++ [((adsB s).getD k noAd).e])) (.cons rfl (.cons rfl (.cons rfl (.cons rfl (.nil _))))) ?_ ?_
        · exact ⟨by omega, by omega, by rw [edges_next (by omega), ← hout]; simp [-List.getD_eq_getElem?_getD, c0, c1], L8, by have := zl0; have := h4_2.size; have := h4_3.size; have := h6_3.size; have := h6_4.size; omega, o6_4, f9⟩
        · first | omega | (simp only []; omega)
    · refine WC.condN rfl (decide_eq_false c0) ?_
      refine WC.exit ?_
      refine E.thenX ?_
      refine E.thenX ?_
      refine E.blkH ?_
      refine E.thenN ?_
      refine WC.seq ?_
      refine WC.region ?_
      refine W.any (.move rfl) rfl rfl rfl ?_
      refine W.any (.assign rfl) rfl rfl rfl ?_
      refine W.nil ?_
      refine E.thenN ?_
      refine WC.ret ?_
      refine E.retG1 rfl rfl ?_
      have hz : out = edgesB s := (by rw [hout, List.take_of_length_le (by omega)]; rfl); have hq := (f0_0.mono L1.size); have hml := hq.1; rw [hz] at hq hml; exact ⟨_, _, by rw [hml], hq.cast hml.symm rfl, Ll0⟩
end Go.Proofs.YtgpdfkplkaojcaaGreat

