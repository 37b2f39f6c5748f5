/- PartsTells: for every input the law answers true and leaves its arguments as they were. -/
import Derived.Test.YtfgakofjkldcjaaPartsTellsJ
import Derived.OrdersHeld
import Derived.WalkKit
import Derived.Deep.AppendSrc
import Derived.Deep.MidRow
import Derived.Laws.OwnMore
import Derived.WalkSpells
import Derived.Lib.ConvBytes
import Derived.Lib.AppendZerosOnto
import Derived.Laws.StructEq
import Derived.Maps.RangeRun
import Derived.Laws.Pointers
import Derived.Test.YtfgakofjkldcjaaProg
import Derived.KernelRfl
import Derived.Lib.Mul64
import Derived.Shelf.SlIterI.Nil
import Derived.Shelf.SortM.Plain
import Derived.Shelf.SortM.SortNone
import Derived.Ground.GgzProg
import Derived.Ground.SlgmProg
set_option linter.unusedSimpArgs false
set_option linter.unusedVariables false
set_option maxRecDepth 20000
namespace Go.Proofs
open Go.Shelf
def Try.keysA_ren : Go.Shelf.Ren := ⟨fun | 7 => 70 | 10 => 124 | n => n, fun | 23 => 114 | 26 => 3 | 3 => 123 | 28 => 142 | 0 => 0 | 27 => 141 | 33 => 121 | 4 => 4 | n => n, fun | n => n⟩
theorem Try.keysA : Go.Proofs.SlLaysZI.n7 Try.prog Try.keysA_ren := {
  mixed := by kernel_rfl
  f7 := ⟨Try.f70.name, by decide, Try.func70.trans (congrArg some (by kernel_rfl))⟩
  f10 := ⟨Try.f124.name, by decide, Try.func124.trans (congrArg some (by kernel_rfl))⟩
  t0 := Try.underlying0
  a0 := Try.isAgg0
  z0 := Try.sizeOf0
  v0 := Try.zeroValue0
  t4 := Try.underlying4
  a4 := Try.isAgg4
  z4 := Try.sizeOf4
  v4 := Try.zeroValue4
  t23 := Try.underlying114
  a23 := Try.isAgg114
  z23 := Try.sizeOf114
  v23 := Try.zeroValue114
  t26 := Try.underlying3
  a26 := Try.isAgg3
  z26 := Try.sizeOf3
  v26 := Try.zeroValue3
  t27 := Try.underlying141
  a27 := Try.isAgg141
  z27 := Try.sizeOf141
  v27 := Try.zeroValue141
  t28 := Try.underlying142
  a28 := Try.isAgg142
  z28 := Try.sizeOf142
  v28 := Try.zeroValue142
  t33 := Try.underlying121
  a33 := Try.isAgg121
  z33 := Try.sizeOf121
  v33 := Try.zeroValue121 }
def Try.sortedA_ren : Go.Shelf.Ren := ⟨fun | 6 => 69 | 8 => 122 | 9 => 123 | 11 => 149 | 13 => 151 | 12 => 150 | 23 => 178 | 24 => 179 | 14 => 169 | 15 => 170 | 16 => 171 | 17 => 172 | 18 => 173 | 19 => 174 | 20 => 175 | 21 => 176 | 22 => 177 | 25 => 185 | 26 => 186 | 27 => 187 | 28 => 188 | 29 => 189 | 30 => 161 | 31 => 191 | n => n, fun | 26 => 3 | 28 => 142 | 24 => 53 | 0 => 0 | 3 => 3 | 37 => 213 | 48 => 194 | 50 => 29 | 4 => 4 | 40 => 233 | 39 => 232 | 45 => 77 | 5 => 5 | 9 => 9 | 51 => 244 | 55 => 248 | 57 => 250 | 58 => 251 | 33 => 121 | n => n, fun | n => n⟩
theorem Try.sortedA : Go.Proofs.SlLaysZI.n6 Try.prog Try.sortedA_ren := {
  mixed := by kernel_rfl
  f6 := ⟨Try.f69.name, by decide, Try.func69.trans (congrArg some (by kernel_rfl))⟩
  f8 := ⟨Try.f122.name, by decide, Try.func122.trans (congrArg some (by kernel_rfl))⟩
  f11 := ⟨Try.f149.name, by decide, Try.func149.trans (congrArg some (by kernel_rfl))⟩
  t0 := Try.underlying0
  a0 := Try.isAgg0
  z0 := Try.sizeOf0
  v0 := Try.zeroValue0
  t24 := Try.underlying53
  a24 := Try.isAgg53
  z24 := Try.sizeOf53
  v24 := Try.zeroValue53
  t26 := Try.underlying3
  a26 := Try.isAgg3
  z26 := Try.sizeOf3
  v26 := Try.zeroValue3
  t28 := Try.underlying142
  a28 := Try.isAgg142
  z28 := Try.sizeOf142
  v28 := Try.zeroValue142
  i26 := by kernel_rfl }
def Try.sortA_ren : Go.Shelf.Ren := ⟨fun | 5 => 123 | 8 => 151 | 7 => 150 | 19 => 178 | 20 => 179 | 10 => 169 | 11 => 170 | 12 => 171 | 13 => 172 | 14 => 173 | 15 => 174 | 16 => 175 | 17 => 176 | 18 => 177 | 30 => 185 | 31 => 186 | 32 => 187 | 33 => 188 | 34 => 189 | 35 => 161 | 40 => 191 | n => n, fun | 23 => 53 | 25 => 3 | 3 => 3 | 32 => 213 | 22 => 53 | 0 => 0 | 44 => 194 | 46 => 29 | 4 => 4 | 36 => 233 | 35 => 232 | 41 => 77 | 5 => 5 | 9 => 9 | 53 => 244 | 57 => 248 | 63 => 250 | 64 => 251 | n => n, fun | n => n⟩
theorem Try.sortA : Go.Proofs.SlLaysM.n5 Try.prog Try.sortA_ren := {
  mixed := by kernel_rfl
  f5 := ⟨Try.f123.name, by decide, Try.func123.trans (congrArg some (by kernel_rfl))⟩
  f7 := ⟨Try.f150.name, by decide, Try.func150.trans (congrArg some (by kernel_rfl))⟩
  f8 := Try.func151.trans (congrArg some (by kernel_rfl))
  f10 := ⟨Try.f169.name, by decide, Try.func169.trans (congrArg some (by kernel_rfl))⟩
  f11 := ⟨Try.f170.name, by decide, Try.func170.trans (congrArg some (by kernel_rfl))⟩
  f12 := ⟨Try.f171.name, by decide, Try.func171.trans (congrArg some (by kernel_rfl))⟩
  f13 := ⟨Try.f172.name, by decide, Try.func172.trans (congrArg some (by kernel_rfl))⟩
  f14 := ⟨Try.f173.name, by decide, Try.func173.trans (congrArg some (by kernel_rfl))⟩
  f15 := ⟨Try.f174.name, by decide, Try.func174.trans (congrArg some (by kernel_rfl))⟩
  f16 := ⟨Try.f175.name, by decide, Try.func175.trans (congrArg some (by kernel_rfl))⟩
  f17 := ⟨Try.f176.name, by decide, Try.func176.trans (congrArg some (by kernel_rfl))⟩
  f18 := ⟨Try.f177.name, by decide, Try.func177.trans (congrArg some (by kernel_rfl))⟩
  f19 := Try.func178.trans (congrArg some (by kernel_rfl))
  f20 := Try.func179.trans (congrArg some (by kernel_rfl))
  f30 := ⟨Try.f185.name, by decide, Try.func185.trans (congrArg some (by kernel_rfl))⟩
  f31 := Try.func186.trans (congrArg some (by kernel_rfl))
  f32 := Try.func187.trans (congrArg some (by kernel_rfl))
  f33 := ⟨Try.f188.name, by decide, Try.func188.trans (congrArg some (by kernel_rfl))⟩
  f34 := ⟨Try.f189.name, by decide, Try.func189.trans (congrArg some (by kernel_rfl))⟩
  f35 := ⟨Try.f161.name, by decide, Try.func161.trans (congrArg some (by kernel_rfl))⟩
  f40 := ⟨Try.f191.name, by decide, Try.func191.trans (congrArg some (by kernel_rfl))⟩
  t0 := Try.underlying0
  a0 := Try.isAgg0
  z0 := Try.sizeOf0
  v0 := Try.zeroValue0
  t3 := Try.underlying3
  a3 := Try.isAgg3
  z3 := Try.sizeOf3
  v3 := Try.zeroValue3
  t4 := Try.underlying4
  a4 := Try.isAgg4
  z4 := Try.sizeOf4
  v4 := Try.zeroValue4
  t5 := Try.underlying5
  a5 := Try.isAgg5
  z5 := Try.sizeOf5
  v5 := Try.zeroValue5
  t9 := Try.underlying9
  a9 := Try.isAgg9
  z9 := Try.sizeOf9
  v9 := Try.zeroValue9
  t22 := Try.underlying53
  a22 := Try.isAgg53
  z22 := Try.sizeOf53
  v22 := Try.zeroValue53
  t23 := Try.underlying53
  a23 := Try.isAgg53
  z23 := Try.sizeOf53
  v23 := Try.zeroValue53
  t25 := Try.underlying3
  a25 := Try.isAgg3
  z25 := Try.sizeOf3
  v25 := Try.zeroValue3
  t32 := Try.underlying213
  a32 := Try.isAgg213
  z32 := Try.sizeOf213
  v32 := Try.zeroValue213
  t35 := Try.underlying232
  a35 := Try.isAgg232
  z35 := Try.sizeOf232
  v35 := Try.zeroValue232
  t36 := Try.underlying233
  a36 := Try.isAgg233
  z36 := Try.sizeOf233
  v36 := Try.zeroValue233
  t41 := Try.underlying77
  a41 := Try.isAgg77
  z41 := Try.sizeOf77
  v41 := Try.zeroValue77
  t44 := Try.underlying194
  a44 := Try.isAgg194
  z44 := Try.sizeOf194
  v44 := Try.zeroValue194
  t46 := Try.underlying29
  a46 := Try.isAgg29
  z46 := Try.sizeOf29
  v46 := Try.zeroValue29
  t53 := Try.underlying244
  a53 := Try.isAgg244
  z53 := Try.sizeOf244
  v53 := Try.zeroValue244
  t57 := Try.underlying248
  a57 := Try.isAgg248
  z57 := Try.sizeOf248
  v57 := Try.zeroValue248
  t63 := Try.underlying250
  a63 := Try.isAgg250
  z63 := Try.sizeOf250
  v63 := Try.zeroValue250
  t64 := Try.underlying251
  a64 := Try.isAgg251
  z64 := Try.sizeOf251
  v64 := Try.zeroValue251 }
end Go.Proofs
namespace Go.Proofs.Ytfgakofjkldcjaa
open Go Go.Sx Go.Hsp Go.Num Go.Osp Go.Gsp Go.RowKit Go.Maps Go.Sort Go.Shelf
theorem sortsA (m : Nat) : AnyZI.SortsIn Try.prog Try.sortedA_ren Fence.wide m :=
  ⟨fun blk off cap ss W hH hblk hsz => callsIn_wide.2 (AnyM.slices_Sort_int Try.sortA blk off cap ss W hH hblk hsz),
   fun p cap W => callsIn_wide.2 (AnyM.slices_Sort_int_none Try.sortA p cap W)⟩
theorem keys_ok (ga : Nat) (w : World) : Calls Try.prog 70 #[.map (some ga)] w fun r w' => r = .returned (.func (.func 124) #[] #[.pointer (some ⟨w.heap.size, 0, none⟩)]) ∧ Blk w' w.heap.size 114 #[.map (some ga)] ∧ Le w w' := by
  have h := callsIn_wide.1 (AnyZI.keys_in Try.keysA Fence.wide 5 trivial rfl (some ga) w)
  refine Calls.mono h ?_
  rintro e w' ⟨rfl, rfl⟩
  exact ⟨rfl, Blk.new w _ _, (Below.refl _ w).alloc (Nat.le_refl _) _⟩
/-- Keys that a reader reads. -/
def inI (x : Int) : Prop := -9223372036854775808 ≤ x ∧ x ≤ 9223372036854775807
theorem inI_wf {x : Int} (h : inI x) : (Lit.int .i64 x).wf = true := by
  unfold inI at h
  have h1 : IntKind.i64.min = -9223372036854775808 := by decide
  have h2 : IntKind.i64.max = 9223372036854775807 := by decide
  simp only [Lit.wf, h1, h2, decide_eq_true_eq, Bool.and_eq_true]
  omega
abbrev noR : Value → Option (DataW Unit × List MemPlace) := fun _ => some (.nil, [])
def mapD (la : List (Nat × Int × Nat)) : DataW Unit := .map ((la.map fun x => (Lit.int .i64 x.2.1, (DataW.nil : DataW Unit))).foldr DataW.insert [])
theorem rd_key1 {x : Nat × Int × Nat} (h : inI x.2.1) : Go.WideElems.rd Try.prog 3 noR (entG ikf ptf x) = some (Lit.int .i64 x.2.1, .nil) := by
  have hk : keyOf Try.prog 3 (Value.int .i64 x.2.1) = some (Lit.int .i64 x.2.1) := by
    unfold keyOf
    rw [Try.underlying3]
    simp [mapKey, Try.underlying3, inI_wf h]
  unfold Go.WideElems.rd
  simp only [entG, ikf, hk]
  rfl
theorem mapOwn {ga ca : Nat} {la : List (Nat × Int × Nat)} {w : World} (hM : MapG w ikf ptf ga la ca) (hr : ∀ x ∈ la, inI x.2.1) (hl : la.length ≤ 1000000) : w.ownsMap Try.prog 3 noR ga la.length (mapD la) := by
  refine ⟨_, _, hM.1, ⟨by simp; unfold maxLen; omega, ⟨?_, ?_, ?_⟩, ?_⟩, by simp, ?_⟩
  · intro x hx
    simp only [List.mem_map] at hx
    obtain ⟨y, hy, rfl⟩ := hx
    exact hM.2.old y hy
  · have := hM.2.borns
    simpa [List.map_map, Function.comp_def, entG] using this
  · have h := hM.2.keys
    have e : (la.map (entG ikf ptf)).map (fun x => x.key) = (la.map fun x => x.2.1).map ikf := by simp [List.map_map, Function.comp_def, entG]
    simp only
    rw [e]
    exact List.Pairwise.map _ (fun a b hab he => hab (by simpa [ikf] using he)) h
  · intro x hx
    simp only [List.mem_map] at hx
    obtain ⟨y, hy, rfl⟩ := hx
    exact ⟨_, rd_key1 (hr y hy)⟩
  · unfold mapD
    congr 2
    simp only [List.map_map]
    apply List.map_congr_left
    intro x hx
    simp only [Function.comp, Go.WideElems.rg, rd_key1 (hr x hx)]
    rfl
theorem mapD_size (la : List (Nat × Int × Nat)) : Maps.size (mapD la) = la.length := by
  unfold mapD
  rw [Maps.size_eq, (Go.WideShapes.sorted_perm _).length_eq]
  simp
theorem mapD_keys (la : List (Nat × Int × Nat)) : (intKeys (mapD la)).Perm (la.map fun x => x.2.1) := by
  unfold mapD intKeys
  refine ((Go.WideShapes.sorted_perm _).map _).trans ?_
  rw [List.map_map]
  exact List.Perm.refl _
theorem sorted_ok {ga ca gk : Nat} {la : List (Nat × Int × Nat)} (w : World) (hB : Blk w gk 114 #[.map (some ga)]) (hM : MapG w ikf ptf ga la ca) (hr : ∀ x ∈ la, inI x.2.1) (hl : la.length ≤ 1000000) :
    Calls Try.prog 69 #[.func (.func 124) #[] #[.pointer (some ⟨gk, 0, none⟩)]] w fun r w' => ∃ (A : Option Addr) (c : Nat) (ns : List Int), r = .returned (.slice A la.length c) ∧ ns.Perm (la.map fun x => x.2.1) ∧ ns.Pairwise (· ≤ ·) ∧ OVec w' w.heap.size 3 iv 1 A la.length c ns ∧ Le w w' := by
  have hown := mapOwn hM hr hl
  have hseq : SeqGives Fence.wide 2 Try.prog 124 #[.pointer (some ⟨gk, 0, none⟩)] encZ (fun ss => ss.Perm (intKeys (mapD la))) (Maps.size (mapD la)) w :=
    AnyZI.keys_gives (ρ := Try.keysA_ren) { Try.keysA with } Fence.wide _ trivial rfl (by omega) gk ga la.length (mapD la) _ hB.lt (by unfold World.cell?; rw [show w.heap[gk]? = _ from hB]; rfl) hown
  have cS := AnyZI.sorted_in Try.sortedA Fence.wide 5 trivial trivial trivial trivial rfl (by omega) (sortsA _) (enters_of Try.func123 (by kernel_rfl) rfl) 124 #[.pointer (some ⟨gk, 0, none⟩)] trivial (enters_of Try.func124 (by kernel_rfl) rfl) _ _ (by rw [mapD_size]; unfold maxLen; omega) (by rw [mapD_size]; omega) _ hseq
  change CallsIn _ _ Try.prog 69 _ _ _ at cS
  refine Calls.mono (callsIn_wide.1 cS) ?_
  rintro e w' ⟨v, ss, rfl, hS, hrow, hnil, hb⟩
  have hp : ss.Perm (la.map fun x => x.2.1) := hS.trans (mapD_keys la)
  have hlen : ss.length = la.length := by rw [hp.length_eq, List.length_map]
  have hms : (ss.mergeSort (fun x y => decide (x ≤ y))).Perm (la.map fun x => x.2.1) := (List.mergeSort_perm _ _).trans hp
  have hpw : (ss.mergeSort (fun x y => decide (x ≤ y))).Pairwise (· ≤ ·) := by
    have := List.pairwise_mergeSort (le := fun x y : Int => decide (x ≤ y)) (by intro a b c; simp; omega) (by intro a b; simp; omega) ss
    exact this.imp (by intro a b h; simpa using h)
  obtain ⟨h1, h2⟩ := hrow
  rcases h2 with ⟨rfl, h0⟩ | ⟨g, cap, cur, rfl, hg, hc, hn, hm, hz, ht⟩
  · have e0 : la.length = 0 := by omega
    have hs0 : ss = [] := List.length_eq_zero_iff.1 h0
    subst hs0
    rw [e0]
    exact ⟨none, 0, [], rfl, by simpa using hms, List.Pairwise.nil, OVec.nil _ _ _ _ _ _, hb⟩
  · rw [hlen] at h1 hn ht ⊢
    exact ⟨some ⟨g, 0, none⟩, cap, _, rfl, hms, hpw, Own.ovec ⟨h1, .inr ⟨g, cur, rfl, hg, hc, hn, hm, hz, ht⟩⟩, hb⟩
end Go.Proofs.Ytfgakofjkldcjaa

namespace Go.Proofs.Ytfgakofjkldcjaa
open Go Go.Sx Go.Hsp Go.Num Go.Osp Go.Gsp
set_option maxRecDepth 20000
set_option linter.unusedSimpArgs false
set_option linter.unusedVariables false
theorem over_some {gp ga gh ca : Nat} {la : List (Nat × Int × Nat)} {gq cq : Nat} {Aq : Option Addr} (nm : Int) (p : Pay) (w : World) (hp : Blk w gp 117 #[.map (some ga), .map (some gh)]) (hA : MapG w ikf ptf ga la ca) (hg : getG nm la = some gq) (hq : Blk w gq 126 #[.int .u64 (((p.sec : Nat) : Int)), .int .i64 (p.tot), .int .i64 (p.by_), .int .i64 (p.lst), .slice Aq p.held.length cq, .int .i64 (p.sum), .bool (p.ovr), .bool (p.paid)]) : Calls Try.prog 25 #[.pointer (some ⟨gp, 0, none⟩), .int .i64 (nm)] w fun r w' => r = .returned (.tuple #[.bool p.ovr, .bool p.paid]) ∧ Le w w' := by
  refine enter Try.func25 rfl rfl ?_
  have L0 := Le.refl w
  refine WC.seq ?_
  refine WC.region ?_
  refine W.any (.assign rfl) rfl rfl rfl ?_
  refine W.any (.assign rfl) rfl rfl rfl ?_
  refine W.nil ?_
  refine E.thenN ?_
  refine WC.seq ?_
  refine WC.region ?_
  refine W.any (.move rfl) rfl rfl rfl ?_
  refine W.any (.nilCheck rfl) rfl rfl rfl ?_
  refine W.any (.field0 fa117_0 rfl) rfl rfl rfl ?_
  refine W.rd (.loadB (v := .map (some ga)) na114 rfl (hp.le L0) rfl) rfl rfl rfl ?_
  refine W.any (.move rfl) rfl rfl rfl ?_
  refine W.rd (.as (.lookup1 (key := nm) Try.underlying114 kint z123 rfl rfl (hA.le L0)) (by rw [hg] <;> rfl)) rfl rfl rfl ?_
  refine W.any (.assign rfl) rfl rfl rfl ?_
  refine W.nil ?_
  refine E.thenN ?_
  refine WC.seq ?_
  refine WC.seq ?_
  refine WC.region ?_
  refine W.any (.move rfl) rfl rfl rfl ?_
  refine W.any (.dec (.isNilP (by kernel_rfl) rfl) rfl) rfl rfl rfl ?_
  refine W.nil ?_
  refine E.thenN ?_
  refine WC.condF rfl ?_
  refine WC.skip ?_
  refine E.thenN ?_
  refine WC.seq ?_
  refine WC.draw [0, 1, 2, 3, 4, 5, 6, 7, 8, 9] mixed (by kernel_rfl) ?_
  intro w4 d4
  have L1 := L0.trans d4
  refine G.any rfl rfl (.move rfl) rfl rfl rfl ?_
  refine G.any rfl rfl (.nilCheck rfl) rfl rfl rfl ?_
  refine G.any rfl rfl (.field0 fa126_6 rfl) rfl rfl rfl ?_
  refine G.rd rfl rfl (.loadB (v := .bool (p.ovr)) na4 rfl (hq.le L1) rfl) rfl rfl rfl ?_
  refine G.any rfl rfl (.move rfl) rfl rfl rfl ?_
  refine G.any rfl rfl (.nilCheck rfl) rfl rfl rfl ?_
  refine G.any rfl rfl (.field0 fa126_7 rfl) rfl rfl rfl ?_
  refine G.rd rfl rfl (.loadB (v := .bool (p.paid)) na4 rfl (hq.le L1) rfl) rfl rfl rfl ?_
  refine G.any rfl rfl (.assign rfl) rfl rfl rfl ?_
  refine G.any rfl rfl (.assign rfl) rfl rfl rfl ?_
  refine G.nil ?_
  refine E.thenN ?_
  refine WC.ret ?_
  refine E.retG2 rfl rfl rfl ?_
  exact ⟨rfl, L1⟩

theorem over_none {gp ga gh ca : Nat} {la : List (Nat × Int × Nat)} (nm : Int) (w : World) (hp : Blk w gp 117 #[.map (some ga), .map (some gh)]) (hA : MapG w ikf ptf ga la ca) (hg : getG nm la = none) : Calls Try.prog 25 #[.pointer (some ⟨gp, 0, none⟩), .int .i64 (nm)] w fun r w' => r = .returned (.tuple #[.bool false, .bool false]) ∧ Le w w' := by
  refine enter Try.func25 rfl rfl ?_
  have L0 := Le.refl w
  refine WC.seq ?_
  refine WC.region ?_
  refine W.any (.assign rfl) rfl rfl rfl ?_
  refine W.any (.assign rfl) rfl rfl rfl ?_
  refine W.nil ?_
  refine E.thenN ?_
  refine WC.seq ?_
  refine WC.region ?_
  refine W.any (.move rfl) rfl rfl rfl ?_
  refine W.any (.nilCheck rfl) rfl rfl rfl ?_
  refine W.any (.field0 fa117_0 rfl) rfl rfl rfl ?_
  refine W.rd (.loadB (v := .map (some ga)) na114 rfl (hp.le L0) rfl) rfl rfl rfl ?_
  refine W.any (.move rfl) rfl rfl rfl ?_
  refine W.rd (.as (.lookup1 (key := nm) Try.underlying114 kint z123 rfl rfl (hA.le L0)) (by rw [hg] <;> rfl)) rfl rfl rfl ?_
  refine W.any (.assign rfl) rfl rfl rfl ?_
  refine W.nil ?_
  refine E.thenN ?_
  refine WC.seq ?_
  refine WC.seq ?_
  refine WC.region ?_
  refine W.any (.move rfl) rfl rfl rfl ?_
  refine W.any (.dec (.isNilP (by kernel_rfl) rfl) rfl) rfl rfl rfl ?_
  refine W.nil ?_
  refine E.thenN ?_
  refine WC.condT rfl ?_
  refine WC.seq ?_
  refine WC.region ?_
  refine W.any (.assign rfl) rfl rfl rfl ?_
  refine W.any (.assign rfl) rfl rfl rfl ?_
  refine W.nil ?_
  refine E.thenN ?_
  refine WC.ret ?_
  refine E.thenR ?_
  refine E.retG2 rfl rfl rfl ?_
  exact ⟨rfl, L0⟩

theorem names_ok {gp ga gh ca : Nat} {la : List (Nat × Int × Nat)} (w : World) (hp : Blk w gp 117 #[.map (some ga), .map (some gh)]) (hA : MapG w ikf ptf ga la ca) (hr : ∀ x ∈ la, inI x.2.1) (hl : la.length ≤ 1000000) : Calls Try.prog 27 #[.pointer (some ⟨gp, 0, none⟩)] w fun r w' => ∃ (A : Option Addr) (c : Nat) (ns : List Int), r = .returned (.slice A la.length c) ∧ ns.Perm (la.map fun x => x.2.1) ∧ ns.Pairwise (· ≤ ·) ∧ OVec w' w.heap.size 3 iv 1 A la.length c ns ∧ Le w w' := by
  refine enter Try.func27 rfl rfl ?_
  have L0 := Le.refl w
  refine WC.seq ?_
  refine WC.region ?_
  refine W.any (.assign rfl) rfl rfl rfl ?_
  refine W.nil ?_
  refine E.thenN ?_
  refine WC.seq ?_
  refine WC.region ?_
  refine W.any (.move rfl) rfl rfl rfl ?_
  refine W.any (.nilCheck rfl) rfl rfl rfl ?_
  refine W.any (.field0 fa117_0 rfl) rfl rfl rfl ?_
  refine W.rd (.loadB (v := .map (some ga)) na114 rfl (hp.le L0) rfl) rfl rfl rfl ?_
  refine W.ef rfl rfl rfl ?_
  refine Ef.call go70 rfl rfl (keys_ok ga w) ?_
  rintro _ w1_4 ⟨rfl, bk1_4, h1_4⟩
  refine ⟨_, rfl, ?_⟩
  have L1 := L0.trans h1_4
  refine W.ef rfl rfl rfl ?_
  refine Ef.call go69 rfl rfl (sorted_ok w1_4 bk1_4 (hA.le L1) hr hl) ?_
  rintro _ w1_5 ⟨An1_5, cn1_5, ns1_5, rfl, hpm1_5, hpw1_5, hon1_5, h1_5⟩
  refine ⟨_, rfl, ?_⟩
  have L2 := L1.trans h1_5
  refine W.any (.assign rfl) rfl rfl rfl ?_
  refine W.nil ?_
  refine E.thenN ?_
  refine WC.ret ?_
  refine E.retG1 rfl rfl ?_
  exact ⟨_, _, _, rfl, hpm1_5, hpw1_5, (hon1_5.mono L1.size), L2⟩

theorem pclone_ok {Aq : Option Addr} {n cq : Nat} {xs : List Part} (w : World) (hO : Vec w partV 6 Aq n xs) (hn : n ≤ 1000000) : Calls Try.prog 71 #[.slice Aq n cq] w fun r w' => ∃ (A : Option Addr) (c : Nat), r = .returned (.slice A n c) ∧ OVec w' w.heap.size 33 partV 6 A n c xs ∧ Le w w' := by
  refine enter Try.func71 rfl rfl ?_
  have L0 := Le.refl w
  refine WC.seq ?_
  refine WC.region ?_
  refine W.any (.assign rfl) rfl rfl rfl ?_
  refine W.nil ?_
  refine E.thenN ?_
  refine WC.seq ?_
  refine WC.seq ?_
  refine WC.region ?_
  refine W.any (.move rfl) rfl rfl rfl ?_
  refine W.any (.isNil Try.underlying46 rfl) rfl rfl rfl ?_
  refine W.nil ?_
  refine E.thenN ?_
  by_cases c0 : Aq.isNone = true
  · refine WC.condY rfl (c0) ?_
    refine WC.seq ?_
    refine WC.region ?_
    refine W.any (.assign rfl) rfl rfl rfl ?_
    refine W.nil ?_
    refine E.thenN ?_
    refine WC.ret ?_
    refine E.thenR ?_
    refine E.retG1 rfl rfl ?_
    have h0 : n = 0 := (by rcases Nat.eq_zero_or_pos n with h | h; exact h; have := hO.isSome partV_row h; rw [Option.isNone_iff_eq_none] at c0; rw [c0] at this; cases this); subst h0; have hx := List.length_eq_zero_iff.1 hO.1; subst hx; exact ⟨none, 0, rfl, OVec.nil _ _ _ _ _ _, L0⟩
  · refine WC.condN rfl ((Bool.eq_false_iff.2 c0)) ?_
    refine WC.skip ?_
    refine E.thenN ?_
    refine WC.seq ?_
    refine WC.region ?_
    refine W.ef rfl rfl rfl ?_
    refine Ef.buildSlice0 Try.underlying46 el33 ?_
    intro g3_0 w3_0 hg3_0 b3_0 h3_0
    have L1 := L0.trans h3_0
    have o3_0 : OVec w3_0 w.heap.size 33 partV 6 (some ⟨g3_0, 0, none⟩) 0 0 [] := OVec.nil _ _ _ _ _ _
    refine W.any (.move rfl) rfl rfl rfl ?_
    refine W.ef rfl rfl rfl ?_
    refine Ef.vcat Try.underlying46 el33 Try.underlying46 partV_row rfl o3_0 rfl (hO.le L1) (by omega) (by unfold maxLen; omega) (by have := h3_0.size; omega) ?_
    intro A3_2 c3_2 w3_2 o3_2 h3_2 at3_2
    have L2 : Le w w3_2 := L1.then_ h3_2 (fun q hq => Nat.le_trans L0.size (o3_0.row hq).1)
    refine W.any (.assign rfl) rfl rfl rfl ?_
    refine W.nil ?_
    refine E.thenN ?_
    refine WC.ret ?_
    refine E.retG1 rfl rfl ?_
    exact ⟨A3_2, c3_2, by rw [Nat.zero_add], (by simpa using (o3_2.mono L0.size)), L2⟩

theorem held_some {gp ga gh ca : Nat} {la : List (Nat × Int × Nat)} {gq cq : Nat} {Aq : Option Addr} (nm : Int) (p : Pay) (w : World) (hp : Blk w gp 117 #[.map (some ga), .map (some gh)]) (hA : MapG w ikf ptf ga la ca) (hg : getG nm la = some gq) (hq : Blk w gq 126 #[.int .u64 (((p.sec : Nat) : Int)), .int .i64 (p.tot), .int .i64 (p.by_), .int .i64 (p.lst), .slice Aq p.held.length cq, .int .i64 (p.sum), .bool (p.ovr), .bool (p.paid)]) (hO : Vec w partV 6 Aq p.held.length p.held) (hhl : p.held.length ≤ 1000000) : Calls Try.prog 29 #[.pointer (some ⟨gp, 0, none⟩), .int .i64 (nm)] w fun r w' => ∃ (A : Option Addr) (c : Nat), r = .returned (.slice A p.held.length c) ∧ OVec w' w.heap.size 33 partV 6 A p.held.length c p.held ∧ Le w w' := by
  refine enter Try.func29 rfl rfl ?_
  have L0 := Le.refl w
  refine WC.seq ?_
  refine WC.region ?_
  refine W.any (.assign rfl) rfl rfl rfl ?_
  refine W.nil ?_
  refine E.thenN ?_
  refine WC.seq ?_
  refine WC.region ?_
  refine W.any (.move rfl) rfl rfl rfl ?_
  refine W.any (.nilCheck rfl) rfl rfl rfl ?_
  refine W.any (.field0 fa117_0 rfl) rfl rfl rfl ?_
  refine W.rd (.loadB (v := .map (some ga)) na114 rfl (hp.le L0) rfl) rfl rfl rfl ?_
  refine W.any (.move rfl) rfl rfl rfl ?_
  refine W.rd (.as (.lookup1 (key := nm) Try.underlying114 kint z123 rfl rfl (hA.le L0)) (by rw [hg] <;> rfl)) rfl rfl rfl ?_
  refine W.any (.assign rfl) rfl rfl rfl ?_
  refine W.nil ?_
  refine E.thenN ?_
  refine WC.seq ?_
  refine WC.seq ?_
  refine WC.region ?_
  refine W.any (.move rfl) rfl rfl rfl ?_
  refine W.any (.dec (.isNilP (by kernel_rfl) rfl) rfl) rfl rfl rfl ?_
  refine W.nil ?_
  refine E.thenN ?_
  refine WC.condF rfl ?_
  refine WC.skip ?_
  refine E.thenN ?_
  refine WC.seq ?_
  refine WC.region ?_
  refine W.any (.move rfl) rfl rfl rfl ?_
  refine W.any (.nilCheck rfl) rfl rfl rfl ?_
  refine W.any (.field0 fa126_4 rfl) rfl rfl rfl ?_
  refine W.rd (.loadB (v := .slice Aq p.held.length cq) na46 rfl (hq.le L0) rfl) rfl rfl rfl ?_
  refine W.ef rfl rfl rfl ?_
  refine Ef.call go71 rfl rfl (pclone_ok w (hO.le L0) hhl) ?_
  rintro _ w4_4 ⟨Ac4_4, cc4_4, rfl, oc4_4, h4_4⟩
  refine ⟨_, rfl, ?_⟩
  have L1 := L0.trans h4_4
  refine W.any (.assign rfl) rfl rfl rfl ?_
  refine W.nil ?_
  refine E.thenN ?_
  refine WC.ret ?_
  refine E.retG1 rfl rfl ?_
  exact ⟨_, _, rfl, (oc4_4.mono L0.size), L1⟩

theorem held_none {gp ga gh ca : Nat} {la : List (Nat × Int × Nat)} (nm : Int) (w : World) (hp : Blk w gp 117 #[.map (some ga), .map (some gh)]) (hA : MapG w ikf ptf ga la ca) (hg : getG nm la = none) : Calls Try.prog 29 #[.pointer (some ⟨gp, 0, none⟩), .int .i64 (nm)] w fun r w' => ∃ (A : Option Addr) (c : Nat), r = .returned (.slice A 0 c) ∧ OVec w' w.heap.size 33 partV 6 A 0 c [] ∧ Le w w' := by
  refine enter Try.func29 rfl rfl ?_
  have L0 := Le.refl w
  refine WC.seq ?_
  refine WC.region ?_
  refine W.any (.assign rfl) rfl rfl rfl ?_
  refine W.nil ?_
  refine E.thenN ?_
  refine WC.seq ?_
  refine WC.region ?_
  refine W.any (.move rfl) rfl rfl rfl ?_
  refine W.any (.nilCheck rfl) rfl rfl rfl ?_
  refine W.any (.field0 fa117_0 rfl) rfl rfl rfl ?_
  refine W.rd (.loadB (v := .map (some ga)) na114 rfl (hp.le L0) rfl) rfl rfl rfl ?_
  refine W.any (.move rfl) rfl rfl rfl ?_
  refine W.rd (.as (.lookup1 (key := nm) Try.underlying114 kint z123 rfl rfl (hA.le L0)) (by rw [hg] <;> rfl)) rfl rfl rfl ?_
  refine W.any (.assign rfl) rfl rfl rfl ?_
  refine W.nil ?_
  refine E.thenN ?_
  refine WC.seq ?_
  refine WC.seq ?_
  refine WC.region ?_
  refine W.any (.move rfl) rfl rfl rfl ?_
  refine W.any (.dec (.isNilP (by kernel_rfl) rfl) rfl) rfl rfl rfl ?_
  refine W.nil ?_
  refine E.thenN ?_
  refine WC.condT rfl ?_
  refine WC.seq ?_
  refine WC.region ?_
  refine W.any (.assign rfl) rfl rfl rfl ?_
  refine W.nil ?_
  refine E.thenN ?_
  refine WC.ret ?_
  refine E.thenR ?_
  refine E.retG1 rfl rfl ?_
  exact ⟨_, _, rfl, OVec.nil _ _ _ _ _ _, L0⟩

theorem want1_ok (n : Int) (w : World) : Calls Try.prog 59 #[.int .i64 (n)] w fun r w' => r = .returned (.bool (decide (0 ≤ n ∧ n ≤ 1048576))) ∧ Le w w' := by
  refine enter Try.func59 rfl rfl ?_
  have L0 := Le.refl w
  refine WC.seq ?_
  refine WC.region ?_
  refine W.any (.assign rfl) rfl rfl rfl ?_
  refine W.nil ?_
  refine E.thenN ?_
  refine WC.seq ?_
  refine WC.region ?_
  refine W.any (.move rfl) rfl rfl rfl ?_
  refine W.any (.geq rfl rfl) rfl rfl rfl ?_
  by_cases q1_2 : 0 ≤ n
  · refine W.any (.dec (.move rfl) (decide_eq_true q1_2)) rfl rfl rfl ?_
    refine W.rdg (Any.rd (.move rfl) _) rfl rfl rfl (rfl) rfl rfl ?_
    refine W.rdg (Any.rd (.leq rfl rfl) _) rfl rfl rfl (rfl) rfl rfl ?_
    refine W.any (.pickT rfl rfl rfl) rfl rfl rfl ?_
    refine W.any (.assign rfl) rfl rfl rfl ?_
    refine W.nil ?_
    refine E.thenN ?_
    refine WC.ret ?_
    refine E.retG1 rfl rfl ?_
    exact ⟨by simp [q1_2]; try omega, L0⟩
  · refine W.any (.dec (.move rfl) (decide_eq_false q1_2)) rfl rfl rfl ?_
    refine W.skip rfl rfl rfl (rfl) rfl rfl ?_
    refine W.skip rfl rfl rfl (rfl) rfl rfl ?_
    refine W.any (.pickF rfl rfl rfl) rfl rfl rfl ?_
    refine W.any (.assign rfl) rfl rfl rfl ?_
    refine W.nil ?_
    refine E.thenN ?_
    refine WC.ret ?_
    refine E.retG1 rfl rfl ?_
    exact ⟨by simp [q1_2]; try omega, L0⟩

theorem want_some {gp ga gh ca : Nat} {la : List (Nat × Int × Nat)} {gq : Nat} (nm : Int) (sc : Nat) (to by_ le : Int) (w : World) (hp : Blk w gp 117 #[.map (some ga), .map (some gh)]) (hA : MapG w ikf ptf ga la ca) (hg : getG nm la = some gq) : Calls Try.prog 17 #[.pointer (some ⟨gp, 0, none⟩), .int .i64 (nm), .int .u64 (((sc : Nat) : Int)), .int .i64 (to), .int .i64 (by_), .int .i64 (le)] w fun r w' => r = .returned (.int .i64 (if wantOk nm sc to by_ le then 4 else 1)) ∧ Le w w' := by
  refine enter Try.func17 rfl rfl ?_
  have L0 := Le.refl w
  refine WC.seq ?_
  refine WC.region ?_
  refine W.any (.assign rfl) rfl rfl rfl ?_
  refine W.nil ?_
  refine E.thenN ?_
  refine WC.seq ?_
  refine WC.region ?_
  refine W.any (.assign rfl) rfl rfl rfl ?_
  refine W.nil ?_
  refine E.thenN ?_
  refine WC.seq ?_
  refine WC.seq ?_
  refine WC.region ?_
  refine W.any (.move rfl) rfl rfl rfl ?_
  refine W.any (.lss rfl rfl) rfl rfl rfl ?_
  by_cases q2_2 : nm < 0
  · refine W.any (.dec (.move rfl) (decide_eq_true q2_2)) rfl rfl rfl ?_
    refine W.skip rfl rfl rfl (rfl) rfl rfl ?_
    refine W.skip rfl rfl rfl (rfl) rfl rfl ?_
    refine W.any (.pickT rfl rfl rfl) rfl rfl rfl ?_
    refine W.any (.move rfl) rfl rfl rfl ?_
    refine W.skip rfl rfl rfl (rfl) rfl rfl ?_
    refine W.skip rfl rfl rfl (rfl) rfl rfl ?_
    refine W.skip rfl rfl rfl (rfl) rfl rfl ?_
    refine W.any (.pickT rfl rfl rfl) rfl rfl rfl ?_
    refine W.any (.move rfl) rfl rfl rfl ?_
    refine W.skip rfl rfl rfl (rfl) rfl rfl ?_
    refine W.skip rfl rfl rfl (rfl) rfl rfl ?_
    refine W.any (.pickT rfl rfl rfl) rfl rfl rfl ?_
    refine W.any (.move rfl) rfl rfl rfl ?_
    refine W.skip rfl rfl rfl (rfl) rfl rfl ?_
    refine W.skip rfl rfl rfl (rfl) rfl rfl ?_
    refine W.any (.pickT rfl rfl rfl) rfl rfl rfl ?_
    refine W.any (.move rfl) rfl rfl rfl ?_
    refine W.skip rfl rfl rfl (rfl) rfl rfl ?_
    refine W.skip rfl rfl rfl (rfl) rfl rfl ?_
    refine W.skip rfl rfl rfl (rfl) rfl rfl ?_
    refine W.skip rfl rfl rfl (rfl) rfl rfl ?_
    refine W.any (.pickT rfl rfl rfl) rfl rfl rfl ?_
    refine W.any (.move rfl) rfl rfl rfl ?_
    refine W.skip rfl rfl rfl (rfl) rfl rfl ?_
    refine W.skip rfl rfl rfl (rfl) rfl rfl ?_
    refine W.skip rfl rfl rfl (rfl) rfl rfl ?_
    refine W.skip rfl rfl rfl (rfl) rfl rfl ?_
    refine W.any (.pickT rfl rfl rfl) rfl rfl rfl ?_
    refine W.nil ?_
    refine E.thenN ?_
    refine WC.condT rfl ?_
    refine WC.seq ?_
    refine WC.region ?_
    refine W.any (.assign rfl) rfl rfl rfl ?_
    refine W.nil ?_
    refine E.thenN ?_
    refine WC.ret ?_
    refine E.thenR ?_
    refine E.retG1 rfl rfl ?_
    exact ⟨by rw [if_neg (fun h => by unfold wantOk at h; omega)], L0⟩
  · refine W.any (.dec (.move rfl) (decide_eq_false q2_2)) rfl rfl rfl ?_
    refine W.rdg (Any.rd (.move rfl) _) rfl rfl rfl (rfl) rfl rfl ?_
    refine W.rdg (Any.rd (.eql rfl rfl) _) rfl rfl rfl (rfl) rfl rfl ?_
    refine W.any (.pickF rfl rfl rfl) rfl rfl rfl ?_
    by_cases q2_6 : ((sc : Nat) : Int) = 0
    · refine W.any (.dec (.move rfl) (decide_eq_true q2_6)) rfl rfl rfl ?_
      refine W.skip rfl rfl rfl (rfl) rfl rfl ?_
      refine W.skip rfl rfl rfl (rfl) rfl rfl ?_
      refine W.skip rfl rfl rfl (rfl) rfl rfl ?_
      refine W.any (.pickT rfl rfl rfl) rfl rfl rfl ?_
      refine W.any (.move rfl) rfl rfl rfl ?_
      refine W.skip rfl rfl rfl (rfl) rfl rfl ?_
      refine W.skip rfl rfl rfl (rfl) rfl rfl ?_
      refine W.any (.pickT rfl rfl rfl) rfl rfl rfl ?_
      refine W.any (.move rfl) rfl rfl rfl ?_
      refine W.skip rfl rfl rfl (rfl) rfl rfl ?_
      refine W.skip rfl rfl rfl (rfl) rfl rfl ?_
      refine W.any (.pickT rfl rfl rfl) rfl rfl rfl ?_
      refine W.any (.move rfl) rfl rfl rfl ?_
      refine W.skip rfl rfl rfl (rfl) rfl rfl ?_
      refine W.skip rfl rfl rfl (rfl) rfl rfl ?_
      refine W.skip rfl rfl rfl (rfl) rfl rfl ?_
      refine W.skip rfl rfl rfl (rfl) rfl rfl ?_
      refine W.any (.pickT rfl rfl rfl) rfl rfl rfl ?_
      refine W.any (.move rfl) rfl rfl rfl ?_
      refine W.skip rfl rfl rfl (rfl) rfl rfl ?_
      refine W.skip rfl rfl rfl (rfl) rfl rfl ?_
      refine W.skip rfl rfl rfl (rfl) rfl rfl ?_
      refine W.skip rfl rfl rfl (rfl) rfl rfl ?_
      refine W.any (.pickT rfl rfl rfl) rfl rfl rfl ?_
      refine W.nil ?_
      refine E.thenN ?_
      refine WC.condT rfl ?_
      refine WC.seq ?_
      refine WC.region ?_
      refine W.any (.assign rfl) rfl rfl rfl ?_
      refine W.nil ?_
      refine E.thenN ?_
      refine WC.ret ?_
      refine E.thenR ?_
      refine E.retG1 rfl rfl ?_
      exact ⟨by rw [if_neg (fun h => by unfold wantOk at h; omega)], L0⟩
    · refine W.any (.dec (.move rfl) (decide_eq_false q2_6)) rfl rfl rfl ?_
      refine W.rdg (Any.rd (.move rfl) _) rfl rfl rfl (rfl) rfl rfl ?_
      refine W.efg rfl rfl rfl (rfl) rfl rfl ?_
      refine Ef.call go60 rfl rfl (fright_ok sc w) ?_
      rintro _ w2_8 ⟨rfl, h2_8⟩
      refine ⟨_, rfl, ?_⟩
      have L1 := L0.trans h2_8
      refine W.rdg (Any.rd (.not rfl) _) rfl rfl rfl (rfl) rfl rfl ?_
      refine W.any (.pickF rfl rfl rfl) rfl rfl rfl ?_
      by_cases q2_11 : sc < q
      · refine W.any (.dec (.move rfl) (congrArg not (decide_eq_true q2_11))) rfl rfl rfl ?_
        refine W.rdg (Any.rd (.move rfl) _) rfl rfl rfl (rfl) rfl rfl ?_
        refine W.rdg (Any.rd (.lss rfl rfl) _) rfl rfl rfl (rfl) rfl rfl ?_
        refine W.any (.pickF rfl rfl rfl) rfl rfl rfl ?_
        by_cases q2_15 : to < 1
        · refine W.any (.dec (.move rfl) (decide_eq_true q2_15)) rfl rfl rfl ?_
          refine W.skip rfl rfl rfl (rfl) rfl rfl ?_
          refine W.skip rfl rfl rfl (rfl) rfl rfl ?_
          refine W.any (.pickT rfl rfl rfl) rfl rfl rfl ?_
          refine W.any (.move rfl) rfl rfl rfl ?_
          refine W.skip rfl rfl rfl (rfl) rfl rfl ?_
          refine W.skip rfl rfl rfl (rfl) rfl rfl ?_
          refine W.skip rfl rfl rfl (rfl) rfl rfl ?_
          refine W.skip rfl rfl rfl (rfl) rfl rfl ?_
          refine W.any (.pickT rfl rfl rfl) rfl rfl rfl ?_
          refine W.any (.move rfl) rfl rfl rfl ?_
          refine W.skip rfl rfl rfl (rfl) rfl rfl ?_
          refine W.skip rfl rfl rfl (rfl) rfl rfl ?_
          refine W.skip rfl rfl rfl (rfl) rfl rfl ?_
          refine W.skip rfl rfl rfl (rfl) rfl rfl ?_
          refine W.any (.pickT rfl rfl rfl) rfl rfl rfl ?_
          refine W.nil ?_
          refine E.thenN ?_
          refine WC.condT rfl ?_
          refine WC.seq ?_
          refine WC.region ?_
          refine W.any (.assign rfl) rfl rfl rfl ?_
          refine W.nil ?_
          refine E.thenN ?_
          refine WC.ret ?_
          refine E.thenR ?_
          refine E.retG1 rfl rfl ?_
          exact ⟨by rw [if_neg (fun h => by unfold wantOk at h; omega)], L1⟩
        · refine W.any (.dec (.move rfl) (decide_eq_false q2_15)) rfl rfl rfl ?_
          refine W.rdg (Any.rd (.move rfl) _) rfl rfl rfl (rfl) rfl rfl ?_
          refine W.rdg (Any.rd (.gtr rfl rfl) _) rfl rfl rfl (rfl) rfl rfl ?_
          refine W.any (.pickF rfl rfl rfl) rfl rfl rfl ?_
          by_cases q2_19 : 1125899906842624 < to
          · refine W.any (.dec (.move rfl) (decide_eq_true q2_19)) rfl rfl rfl ?_
            refine W.skip rfl rfl rfl (rfl) rfl rfl ?_
            refine W.skip rfl rfl rfl (rfl) rfl rfl ?_
            refine W.skip rfl rfl rfl (rfl) rfl rfl ?_
            refine W.skip rfl rfl rfl (rfl) rfl rfl ?_
            refine W.any (.pickT rfl rfl rfl) rfl rfl rfl ?_
            refine W.any (.move rfl) rfl rfl rfl ?_
            refine W.skip rfl rfl rfl (rfl) rfl rfl ?_
            refine W.skip rfl rfl rfl (rfl) rfl rfl ?_
            refine W.skip rfl rfl rfl (rfl) rfl rfl ?_
            refine W.skip rfl rfl rfl (rfl) rfl rfl ?_
            refine W.any (.pickT rfl rfl rfl) rfl rfl rfl ?_
            refine W.nil ?_
            refine E.thenN ?_
            refine WC.condT rfl ?_
            refine WC.seq ?_
            refine WC.region ?_
            refine W.any (.assign rfl) rfl rfl rfl ?_
            refine W.nil ?_
            refine E.thenN ?_
            refine WC.ret ?_
            refine E.thenR ?_
            refine E.retG1 rfl rfl ?_
            exact ⟨by rw [if_neg (fun h => by unfold wantOk at h; omega)], L1⟩
          · refine W.any (.dec (.move rfl) (decide_eq_false q2_19)) rfl rfl rfl ?_
            refine W.rdg (Any.rd (.move rfl) _) rfl rfl rfl (rfl) rfl rfl ?_
            refine W.rdg (Any.rd (.move rfl) _) rfl rfl rfl (rfl) rfl rfl ?_
            refine W.efg rfl rfl rfl (rfl) rfl rfl ?_
            refine Ef.call go59 rfl rfl (want1_ok by_ w2_8) ?_
            rintro _ w2_22 ⟨rfl, h2_22⟩
            refine ⟨_, rfl, ?_⟩
            have L2 := L1.trans h2_22
            refine W.rdg (Any.rd (.not rfl) _) rfl rfl rfl (rfl) rfl rfl ?_
            refine W.any (.pickF rfl rfl rfl) rfl rfl rfl ?_
            by_cases q2_25 : 0 ≤ by_ ∧ by_ ≤ 1048576
            · refine W.any (.dec (.move rfl) (congrArg not (decide_eq_true q2_25))) rfl rfl rfl ?_
              refine W.rdg (Any.rd (.move rfl) _) rfl rfl rfl (rfl) rfl rfl ?_
              refine W.rdg (Any.rd (.move rfl) _) rfl rfl rfl (rfl) rfl rfl ?_
              refine W.efg rfl rfl rfl (rfl) rfl rfl ?_
              refine Ef.call go59 rfl rfl (want1_ok le w2_22) ?_
              rintro _ w2_28 ⟨rfl, h2_28⟩
              refine ⟨_, rfl, ?_⟩
              have L3 := L2.trans h2_28
              refine W.rdg (Any.rd (.not rfl) _) rfl rfl rfl (rfl) rfl rfl ?_
              refine W.any (.pickF rfl rfl rfl) rfl rfl rfl ?_
              refine W.nil ?_
              refine E.thenN ?_
              by_cases c0 : 0 ≤ le ∧ le ≤ 1048576
              · refine WC.condN rfl (congrArg not (decide_eq_true c0)) ?_
                refine WC.skip ?_
                refine E.thenN ?_
                refine WC.seq ?_
                refine WC.seq ?_
                refine WC.region ?_
                refine W.any (.move rfl) rfl rfl rfl ?_
                refine W.any (.nilCheck rfl) rfl rfl rfl ?_
                refine W.any (.field0 fa117_0 rfl) rfl rfl rfl ?_
                refine W.rd (.loadB (v := .map (some ga)) na114 rfl (hp.le L3) rfl) rfl rfl rfl ?_
                refine W.any (.move rfl) rfl rfl rfl ?_
                refine W.rd (.as (.lookup2 (key := nm) Try.underlying114 kint z123 rfl rfl (hA.le L3)) (by rw [hg] <;> rfl)) rfl rfl rfl ?_
                refine W.any (.move rfl) rfl rfl rfl ?_
                refine W.any (.extract (v := .pointer (some ⟨gq, 0, none⟩)) rfl rfl) rfl rfl rfl ?_
                refine W.any (.extract (v := .bool true) rfl rfl) rfl rfl rfl ?_
                refine W.any (.assign rfl) rfl rfl rfl ?_
                refine W.any (.assign rfl) rfl rfl rfl ?_
                refine W.nil ?_
                refine E.thenN ?_
                refine WC.seq ?_
                refine WC.region ?_
                refine W.any (.move rfl) rfl rfl rfl ?_
                refine W.nil ?_
                refine E.thenN ?_
                refine WC.condT rfl ?_
                refine WC.seq ?_
                refine WC.region ?_
                refine W.any (.assign rfl) rfl rfl rfl ?_
                refine W.nil ?_
                refine E.thenN ?_
                refine WC.ret ?_
                refine E.thenR ?_
                refine E.retG1 rfl rfl ?_
                exact ⟨by rw [if_pos (by unfold wantOk; omega)], L3⟩
              · refine WC.condY rfl (congrArg not (decide_eq_false c0)) ?_
                refine WC.seq ?_
                refine WC.region ?_
                refine W.any (.assign rfl) rfl rfl rfl ?_
                refine W.nil ?_
                refine E.thenN ?_
                refine WC.ret ?_
                refine E.thenR ?_
                refine E.retG1 rfl rfl ?_
                exact ⟨by rw [if_neg (fun h => by unfold wantOk at h; omega)], L3⟩
            · refine W.any (.dec (.move rfl) (congrArg not (decide_eq_false q2_25))) rfl rfl rfl ?_
              refine W.skip rfl rfl rfl (rfl) rfl rfl ?_
              refine W.skip rfl rfl rfl (rfl) rfl rfl ?_
              refine W.skip rfl rfl rfl (rfl) rfl rfl ?_
              refine W.skip rfl rfl rfl (rfl) rfl rfl ?_
              refine W.any (.pickT rfl rfl rfl) rfl rfl rfl ?_
              refine W.nil ?_
              refine E.thenN ?_
              refine WC.condT rfl ?_
              refine WC.seq ?_
              refine WC.region ?_
              refine W.any (.assign rfl) rfl rfl rfl ?_
              refine W.nil ?_
              refine E.thenN ?_
              refine WC.ret ?_
              refine E.thenR ?_
              refine E.retG1 rfl rfl ?_
              exact ⟨by rw [if_neg (fun h => by unfold wantOk at h; omega)], L2⟩
      · refine W.any (.dec (.move rfl) (congrArg not (decide_eq_false q2_11))) rfl rfl rfl ?_
        refine W.skip rfl rfl rfl (rfl) rfl rfl ?_
        refine W.skip rfl rfl rfl (rfl) rfl rfl ?_
        refine W.any (.pickT rfl rfl rfl) rfl rfl rfl ?_
        refine W.any (.move rfl) rfl rfl rfl ?_
        refine W.skip rfl rfl rfl (rfl) rfl rfl ?_
        refine W.skip rfl rfl rfl (rfl) rfl rfl ?_
        refine W.any (.pickT rfl rfl rfl) rfl rfl rfl ?_
        refine W.any (.move rfl) rfl rfl rfl ?_
        refine W.skip rfl rfl rfl (rfl) rfl rfl ?_
        refine W.skip rfl rfl rfl (rfl) rfl rfl ?_
        refine W.skip rfl rfl rfl (rfl) rfl rfl ?_
        refine W.skip rfl rfl rfl (rfl) rfl rfl ?_
        refine W.any (.pickT rfl rfl rfl) rfl rfl rfl ?_
        refine W.any (.move rfl) rfl rfl rfl ?_
        refine W.skip rfl rfl rfl (rfl) rfl rfl ?_
        refine W.skip rfl rfl rfl (rfl) rfl rfl ?_
        refine W.skip rfl rfl rfl (rfl) rfl rfl ?_
        refine W.skip rfl rfl rfl (rfl) rfl rfl ?_
        refine W.any (.pickT rfl rfl rfl) rfl rfl rfl ?_
        refine W.nil ?_
        refine E.thenN ?_
        refine WC.condT rfl ?_
        refine WC.seq ?_
        refine WC.region ?_
        refine W.any (.assign rfl) rfl rfl rfl ?_
        refine W.nil ?_
        refine E.thenN ?_
        refine WC.ret ?_
        refine E.thenR ?_
        refine E.retG1 rfl rfl ?_
        exact ⟨by rw [if_neg (fun h => by unfold wantOk at h; omega)], L1⟩

theorem want_none {gp ga gh ca : Nat} {la : List (Nat × Int × Nat)} (nm : Int) (sc : Nat) (to by_ le : Int) (w : World) (hp : Blk w gp 117 #[.map (some ga), .map (some gh)]) (hA : MapG w ikf ptf ga la ca) (hg : getG nm la = none) (n1 : gp ≠ ga) : Calls Try.prog 17 #[.pointer (some ⟨gp, 0, none⟩), .int .i64 (nm), .int .u64 (((sc : Nat) : Int)), .int .i64 (to), .int .i64 (by_), .int .i64 (le)] w fun r w' => ChP w w' (fun k => k = ga) ∧ ((¬ wantOk nm sc to by_ le ∧ r = .returned (.int .i64 1) ∧ MapG w' ikf ptf ga la ca) ∨ (wantOk nm sc to by_ le ∧ r = .returned (.int .i64 0) ∧ ∃ g, w.heap.size ≤ g ∧ Blk w' g 126 #[.int .u64 ((sc : Nat) : Int), .int .i64 to, .int .i64 by_, .int .i64 le, .slice none 0 0, .int .i64 0, .bool false, .bool false] ∧ MapG w' ikf ptf ga (la ++ [(ca, nm, g)]) (ca + 1))) := by
  refine enter Try.func17 rfl rfl ?_
  have L0 := ChP.refl w (fun k => k = ga)
  refine WC.seq ?_
  refine WC.region ?_
  refine W.any (.assign rfl) rfl rfl rfl ?_
  refine W.nil ?_
  refine E.thenN ?_
  refine WC.seq ?_
  refine WC.region ?_
  refine W.any (.assign rfl) rfl rfl rfl ?_
  refine W.nil ?_
  refine E.thenN ?_
  refine WC.seq ?_
  refine WC.seq ?_
  refine WC.region ?_
  refine W.any (.move rfl) rfl rfl rfl ?_
  refine W.any (.lss rfl rfl) rfl rfl rfl ?_
  by_cases q2_2 : nm < 0
  · refine W.any (.dec (.move rfl) (decide_eq_true q2_2)) rfl rfl rfl ?_
    refine W.skip rfl rfl rfl (rfl) rfl rfl ?_
    refine W.skip rfl rfl rfl (rfl) rfl rfl ?_
    refine W.any (.pickT rfl rfl rfl) rfl rfl rfl ?_
    refine W.any (.move rfl) rfl rfl rfl ?_
    refine W.skip rfl rfl rfl (rfl) rfl rfl ?_
    refine W.skip rfl rfl rfl (rfl) rfl rfl ?_
    refine W.skip rfl rfl rfl (rfl) rfl rfl ?_
    refine W.any (.pickT rfl rfl rfl) rfl rfl rfl ?_
    refine W.any (.move rfl) rfl rfl rfl ?_
    refine W.skip rfl rfl rfl (rfl) rfl rfl ?_
    refine W.skip rfl rfl rfl (rfl) rfl rfl ?_
    refine W.any (.pickT rfl rfl rfl) rfl rfl rfl ?_
    refine W.any (.move rfl) rfl rfl rfl ?_
    refine W.skip rfl rfl rfl (rfl) rfl rfl ?_
    refine W.skip rfl rfl rfl (rfl) rfl rfl ?_
    refine W.any (.pickT rfl rfl rfl) rfl rfl rfl ?_
    refine W.any (.move rfl) rfl rfl rfl ?_
    refine W.skip rfl rfl rfl (rfl) rfl rfl ?_
    refine W.skip rfl rfl rfl (rfl) rfl rfl ?_
    refine W.skip rfl rfl rfl (rfl) rfl rfl ?_
    refine W.skip rfl rfl rfl (rfl) rfl rfl ?_
    refine W.any (.pickT rfl rfl rfl) rfl rfl rfl ?_
    refine W.any (.move rfl) rfl rfl rfl ?_
    refine W.skip rfl rfl rfl (rfl) rfl rfl ?_
    refine W.skip rfl rfl rfl (rfl) rfl rfl ?_
    refine W.skip rfl rfl rfl (rfl) rfl rfl ?_
    refine W.skip rfl rfl rfl (rfl) rfl rfl ?_
    refine W.any (.pickT rfl rfl rfl) rfl rfl rfl ?_
    refine W.nil ?_
    refine E.thenN ?_
    refine WC.condT rfl ?_
    refine WC.seq ?_
    refine WC.region ?_
    refine W.any (.assign rfl) rfl rfl rfl ?_
    refine W.nil ?_
    refine E.thenN ?_
    refine WC.ret ?_
    refine E.thenR ?_
    refine E.retG1 rfl rfl ?_
    exact ⟨L0, .inl ⟨(fun h => by unfold wantOk at h; omega), rfl, hA⟩⟩
  · refine W.any (.dec (.move rfl) (decide_eq_false q2_2)) rfl rfl rfl ?_
    refine W.rdg (Any.rd (.move rfl) _) rfl rfl rfl (rfl) rfl rfl ?_
    refine W.rdg (Any.rd (.eql rfl rfl) _) rfl rfl rfl (rfl) rfl rfl ?_
    refine W.any (.pickF rfl rfl rfl) rfl rfl rfl ?_
    by_cases q2_6 : ((sc : Nat) : Int) = 0
    · refine W.any (.dec (.move rfl) (decide_eq_true q2_6)) rfl rfl rfl ?_
      refine W.skip rfl rfl rfl (rfl) rfl rfl ?_
      refine W.skip rfl rfl rfl (rfl) rfl rfl ?_
      refine W.skip rfl rfl rfl (rfl) rfl rfl ?_
      refine W.any (.pickT rfl rfl rfl) rfl rfl rfl ?_
      refine W.any (.move rfl) rfl rfl rfl ?_
      refine W.skip rfl rfl rfl (rfl) rfl rfl ?_
      refine W.skip rfl rfl rfl (rfl) rfl rfl ?_
      refine W.any (.pickT rfl rfl rfl) rfl rfl rfl ?_
      refine W.any (.move rfl) rfl rfl rfl ?_
      refine W.skip rfl rfl rfl (rfl) rfl rfl ?_
      refine W.skip rfl rfl rfl (rfl) rfl rfl ?_
      refine W.any (.pickT rfl rfl rfl) rfl rfl rfl ?_
      refine W.any (.move rfl) rfl rfl rfl ?_
      refine W.skip rfl rfl rfl (rfl) rfl rfl ?_
      refine W.skip rfl rfl rfl (rfl) rfl rfl ?_
      refine W.skip rfl rfl rfl (rfl) rfl rfl ?_
      refine W.skip rfl rfl rfl (rfl) rfl rfl ?_
      refine W.any (.pickT rfl rfl rfl) rfl rfl rfl ?_
      refine W.any (.move rfl) rfl rfl rfl ?_
      refine W.skip rfl rfl rfl (rfl) rfl rfl ?_
      refine W.skip rfl rfl rfl (rfl) rfl rfl ?_
      refine W.skip rfl rfl rfl (rfl) rfl rfl ?_
      refine W.skip rfl rfl rfl (rfl) rfl rfl ?_
      refine W.any (.pickT rfl rfl rfl) rfl rfl rfl ?_
      refine W.nil ?_
      refine E.thenN ?_
      refine WC.condT rfl ?_
      refine WC.seq ?_
      refine WC.region ?_
      refine W.any (.assign rfl) rfl rfl rfl ?_
      refine W.nil ?_
      refine E.thenN ?_
      refine WC.ret ?_
      refine E.thenR ?_
      refine E.retG1 rfl rfl ?_
      exact ⟨L0, .inl ⟨(fun h => by unfold wantOk at h; omega), rfl, hA⟩⟩
    · refine W.any (.dec (.move rfl) (decide_eq_false q2_6)) rfl rfl rfl ?_
      refine W.rdg (Any.rd (.move rfl) _) rfl rfl rfl (rfl) rfl rfl ?_
      refine W.efg rfl rfl rfl (rfl) rfl rfl ?_
      refine Ef.call go60 rfl rfl (fright_ok sc w) ?_
      rintro _ w2_8 ⟨rfl, h2_8⟩
      refine ⟨_, rfl, ?_⟩
      have L1 := L0.le h2_8
      refine W.rdg (Any.rd (.not rfl) _) rfl rfl rfl (rfl) rfl rfl ?_
      refine W.any (.pickF rfl rfl rfl) rfl rfl rfl ?_
      by_cases q2_11 : sc < q
      · refine W.any (.dec (.move rfl) (congrArg not (decide_eq_true q2_11))) rfl rfl rfl ?_
        refine W.rdg (Any.rd (.move rfl) _) rfl rfl rfl (rfl) rfl rfl ?_
        refine W.rdg (Any.rd (.lss rfl rfl) _) rfl rfl rfl (rfl) rfl rfl ?_
        refine W.any (.pickF rfl rfl rfl) rfl rfl rfl ?_
        by_cases q2_15 : to < 1
        · refine W.any (.dec (.move rfl) (decide_eq_true q2_15)) rfl rfl rfl ?_
          refine W.skip rfl rfl rfl (rfl) rfl rfl ?_
          refine W.skip rfl rfl rfl (rfl) rfl rfl ?_
          refine W.any (.pickT rfl rfl rfl) rfl rfl rfl ?_
          refine W.any (.move rfl) rfl rfl rfl ?_
          refine W.skip rfl rfl rfl (rfl) rfl rfl ?_
          refine W.skip rfl rfl rfl (rfl) rfl rfl ?_
          refine W.skip rfl rfl rfl (rfl) rfl rfl ?_
          refine W.skip rfl rfl rfl (rfl) rfl rfl ?_
          refine W.any (.pickT rfl rfl rfl) rfl rfl rfl ?_
          refine W.any (.move rfl) rfl rfl rfl ?_
          refine W.skip rfl rfl rfl (rfl) rfl rfl ?_
          refine W.skip rfl rfl rfl (rfl) rfl rfl ?_
          refine W.skip rfl rfl rfl (rfl) rfl rfl ?_
          refine W.skip rfl rfl rfl (rfl) rfl rfl ?_
          refine W.any (.pickT rfl rfl rfl) rfl rfl rfl ?_
          refine W.nil ?_
          refine E.thenN ?_
          refine WC.condT rfl ?_
          refine WC.seq ?_
          refine WC.region ?_
          refine W.any (.assign rfl) rfl rfl rfl ?_
          refine W.nil ?_
          refine E.thenN ?_
          refine WC.ret ?_
          refine E.thenR ?_
          have f2 := (hA.le h2_8)
          refine E.retG1 rfl rfl ?_
          exact ⟨L1, .inl ⟨(fun h => by unfold wantOk at h; omega), rfl, f2⟩⟩
        · refine W.any (.dec (.move rfl) (decide_eq_false q2_15)) rfl rfl rfl ?_
          refine W.rdg (Any.rd (.move rfl) _) rfl rfl rfl (rfl) rfl rfl ?_
          refine W.rdg (Any.rd (.gtr rfl rfl) _) rfl rfl rfl (rfl) rfl rfl ?_
          refine W.any (.pickF rfl rfl rfl) rfl rfl rfl ?_
          by_cases q2_19 : 1125899906842624 < to
          · refine W.any (.dec (.move rfl) (decide_eq_true q2_19)) rfl rfl rfl ?_
            refine W.skip rfl rfl rfl (rfl) rfl rfl ?_
            refine W.skip rfl rfl rfl (rfl) rfl rfl ?_
            refine W.skip rfl rfl rfl (rfl) rfl rfl ?_
            refine W.skip rfl rfl rfl (rfl) rfl rfl ?_
            refine W.any (.pickT rfl rfl rfl) rfl rfl rfl ?_
            refine W.any (.move rfl) rfl rfl rfl ?_
            refine W.skip rfl rfl rfl (rfl) rfl rfl ?_
            refine W.skip rfl rfl rfl (rfl) rfl rfl ?_
            refine W.skip rfl rfl rfl (rfl) rfl rfl ?_
            refine W.skip rfl rfl rfl (rfl) rfl rfl ?_
            refine W.any (.pickT rfl rfl rfl) rfl rfl rfl ?_
            refine W.nil ?_
            refine E.thenN ?_
            refine WC.condT rfl ?_
            refine WC.seq ?_
            refine WC.region ?_
            refine W.any (.assign rfl) rfl rfl rfl ?_
            refine W.nil ?_
            refine E.thenN ?_
            refine WC.ret ?_
            refine E.thenR ?_
            have f3 := (hA.le h2_8)
            refine E.retG1 rfl rfl ?_
            exact ⟨L1, .inl ⟨(fun h => by unfold wantOk at h; omega), rfl, f3⟩⟩
          · refine W.any (.dec (.move rfl) (decide_eq_false q2_19)) rfl rfl rfl ?_
            refine W.rdg (Any.rd (.move rfl) _) rfl rfl rfl (rfl) rfl rfl ?_
            refine W.rdg (Any.rd (.move rfl) _) rfl rfl rfl (rfl) rfl rfl ?_
            refine W.efg rfl rfl rfl (rfl) rfl rfl ?_
            refine Ef.call go59 rfl rfl (want1_ok by_ w2_8) ?_
            rintro _ w2_22 ⟨rfl, h2_22⟩
            refine ⟨_, rfl, ?_⟩
            have L4 := L1.le h2_22
            refine W.rdg (Any.rd (.not rfl) _) rfl rfl rfl (rfl) rfl rfl ?_
            refine W.any (.pickF rfl rfl rfl) rfl rfl rfl ?_
            by_cases q2_25 : 0 ≤ by_ ∧ by_ ≤ 1048576
            · refine W.any (.dec (.move rfl) (congrArg not (decide_eq_true q2_25))) rfl rfl rfl ?_
              refine W.rdg (Any.rd (.move rfl) _) rfl rfl rfl (rfl) rfl rfl ?_
              refine W.rdg (Any.rd (.move rfl) _) rfl rfl rfl (rfl) rfl rfl ?_
              refine W.efg rfl rfl rfl (rfl) rfl rfl ?_
              refine Ef.call go59 rfl rfl (want1_ok le w2_22) ?_
              rintro _ w2_28 ⟨rfl, h2_28⟩
              refine ⟨_, rfl, ?_⟩
              have L5 := L4.le h2_28
              refine W.rdg (Any.rd (.not rfl) _) rfl rfl rfl (rfl) rfl rfl ?_
              refine W.any (.pickF rfl rfl rfl) rfl rfl rfl ?_
              refine W.nil ?_
              refine E.thenN ?_
              by_cases c0 : 0 ≤ le ∧ le ≤ 1048576
              · refine WC.condN rfl (congrArg not (decide_eq_true c0)) ?_
                refine WC.skip ?_
                refine E.thenN ?_
                refine WC.seq ?_
                refine WC.seq ?_
                refine WC.region ?_
                refine W.any (.move rfl) rfl rfl rfl ?_
                refine W.any (.nilCheck rfl) rfl rfl rfl ?_
                refine W.any (.field0 fa117_0 rfl) rfl rfl rfl ?_
                have f6 := (hp.le (h2_8.trans (h2_22.trans h2_28)))
                refine W.rd (.loadB (v := .map (some ga)) na114 rfl f6 rfl) rfl rfl rfl ?_
                refine W.any (.move rfl) rfl rfl rfl ?_
                have f7 := (hA.le (h2_8.trans (h2_22.trans h2_28)))
                refine W.rd (.as (.lookup2 (key := nm) Try.underlying114 kint z123 rfl rfl f7) (by rw [hg] <;> rfl)) rfl rfl rfl ?_
                refine W.any (.move rfl) rfl rfl rfl ?_
                refine W.any (.extract (v := .pointer none) rfl rfl) rfl rfl rfl ?_
                refine W.any (.extract (v := .bool false) rfl rfl) rfl rfl rfl ?_
                refine W.any (.assign rfl) rfl rfl rfl ?_
                refine W.any (.assign rfl) rfl rfl rfl ?_
                refine W.nil ?_
                refine E.thenN ?_
                refine WC.seq ?_
                refine WC.region ?_
                refine W.any (.move rfl) rfl rfl rfl ?_
                refine W.nil ?_
                refine E.thenN ?_
                refine WC.condF rfl ?_
                refine WC.skip ?_
                refine E.thenN ?_
                refine WC.seq ?_
                refine WC.region ?_
                refine W.any (.move rfl) rfl rfl rfl ?_
                refine W.any (.nilCheck rfl) rfl rfl rfl ?_
                refine W.any (.field0 fa117_0 rfl) rfl rfl rfl ?_
                refine W.rd (.loadB (v := .map (some ga)) na114 rfl f6 rfl) rfl rfl rfl ?_
                refine W.any (.move rfl) rfl rfl rfl ?_
                refine W.any (.move rfl) rfl rfl rfl ?_
                refine W.any (.move rfl) rfl rfl rfl ?_
                refine W.any (.move rfl) rfl rfl rfl ?_
                refine W.any (.move rfl) rfl rfl rfl ?_
                refine W.any (.buildP [.int .u64 (((sc : Nat) : Int)), .int .i64 (to), .int .i64 (by_), .int .i64 (le), .slice none 0 0, .int .i64 (0), .bool false, .bool false] pl126 z126 rfl rfl) rfl rfl rfl ?_
                refine W.ef rfl rfl rfl ?_
                refine Ef.boxA rfl ?_
                intro g7_10 w7_10 hg7_10 b7_10 h7_10
                have L8 := L5.le h7_10
                have b7_10 : Blk w7_10 g7_10 126 #[.int .u64 (((sc : Nat) : Int)), .int .i64 (to), .int .i64 (by_), .int .i64 (le), .slice none 0 0, .int .i64 (0), .bool false, .bool false] := b7_10
                have f9 := (f7.le h7_10)
                refine W.ef0 rfl rfl ?_
                refine Ef.insertG (key := nm) (u := g7_10) Try.underlying114 kint rfl rfl rfl f9 (hg) ?_
                intro w7_11 b7_11 h7_11
                have L10 : ChP w w7_11 (fun k => k = ga) := L8.ch h7_11 (fun i hi _ => by cases hi; exact rfl)
                refine W.nil ?_
                refine E.thenN ?_
                refine WC.seq ?_
                refine WC.region ?_
                refine W.any (.assign rfl) rfl rfl rfl ?_
                refine W.nil ?_
                refine E.thenN ?_
                refine WC.ret ?_
                have f11 := (b7_10.ch h7_11 (fun h => (show ga ≠ g7_10 from by have := f7.lt; omega) (Option.some.inj h)))
                refine E.retG1 rfl rfl ?_
                exact ⟨L10, .inr ⟨(by unfold wantOk; omega), rfl, _, (by have := L5.size; omega), f11, b7_11⟩⟩
              · refine WC.condY rfl (congrArg not (decide_eq_false c0)) ?_
                refine WC.seq ?_
                refine WC.region ?_
                refine W.any (.assign rfl) rfl rfl rfl ?_
                refine W.nil ?_
                refine E.thenN ?_
                refine WC.ret ?_
                refine E.thenR ?_
                have f12 := (hA.le (h2_8.trans (h2_22.trans h2_28)))
                refine E.retG1 rfl rfl ?_
                exact ⟨L5, .inl ⟨(fun h => by unfold wantOk at h; omega), rfl, f12⟩⟩
            · refine W.any (.dec (.move rfl) (congrArg not (decide_eq_false q2_25))) rfl rfl rfl ?_
              refine W.skip rfl rfl rfl (rfl) rfl rfl ?_
              refine W.skip rfl rfl rfl (rfl) rfl rfl ?_
              refine W.skip rfl rfl rfl (rfl) rfl rfl ?_
              refine W.skip rfl rfl rfl (rfl) rfl rfl ?_
              refine W.any (.pickT rfl rfl rfl) rfl rfl rfl ?_
              refine W.nil ?_
              refine E.thenN ?_
              refine WC.condT rfl ?_
              refine WC.seq ?_
              refine WC.region ?_
              refine W.any (.assign rfl) rfl rfl rfl ?_
              refine W.nil ?_
              refine E.thenN ?_
              refine WC.ret ?_
              refine E.thenR ?_
              have f13 := (hA.le (h2_8.trans h2_22))
              refine E.retG1 rfl rfl ?_
              exact ⟨L4, .inl ⟨(fun h => by unfold wantOk at h; omega), rfl, f13⟩⟩
      · refine W.any (.dec (.move rfl) (congrArg not (decide_eq_false q2_11))) rfl rfl rfl ?_
        refine W.skip rfl rfl rfl (rfl) rfl rfl ?_
        refine W.skip rfl rfl rfl (rfl) rfl rfl ?_
        refine W.any (.pickT rfl rfl rfl) rfl rfl rfl ?_
        refine W.any (.move rfl) rfl rfl rfl ?_
        refine W.skip rfl rfl rfl (rfl) rfl rfl ?_
        refine W.skip rfl rfl rfl (rfl) rfl rfl ?_
        refine W.any (.pickT rfl rfl rfl) rfl rfl rfl ?_
        refine W.any (.move rfl) rfl rfl rfl ?_
        refine W.skip rfl rfl rfl (rfl) rfl rfl ?_
        refine W.skip rfl rfl rfl (rfl) rfl rfl ?_
        refine W.skip rfl rfl rfl (rfl) rfl rfl ?_
        refine W.skip rfl rfl rfl (rfl) rfl rfl ?_
        refine W.any (.pickT rfl rfl rfl) rfl rfl rfl ?_
        refine W.any (.move rfl) rfl rfl rfl ?_
        refine W.skip rfl rfl rfl (rfl) rfl rfl ?_
        refine W.skip rfl rfl rfl (rfl) rfl rfl ?_
        refine W.skip rfl rfl rfl (rfl) rfl rfl ?_
        refine W.skip rfl rfl rfl (rfl) rfl rfl ?_
        refine W.any (.pickT rfl rfl rfl) rfl rfl rfl ?_
        refine W.nil ?_
        refine E.thenN ?_
        refine WC.condT rfl ?_
        refine WC.seq ?_
        refine WC.region ?_
        refine W.any (.assign rfl) rfl rfl rfl ?_
        refine W.nil ?_
        refine E.thenN ?_
        refine WC.ret ?_
        refine E.thenR ?_
        have f14 := (hA.le h2_8)
        refine E.retG1 rfl rfl ?_
        exact ⟨L1, .inl ⟨(fun h => by unfold wantOk at h; omega), rfl, f14⟩⟩
end Go.Proofs.Ytfgakofjkldcjaa

namespace Go.Proofs.Ytfgakofjkldcjaa
open Go Go.Sx Go.Hsp Go.Num Go.Osp Go.Gsp
set_option maxRecDepth 20000
set_option linter.unusedSimpArgs false
set_option linter.unusedVariables false
theorem getD_false {lh : List (Nat × (Int × Int) × Bool)} (ht : ∀ y ∈ lh, y.2.2 = true) {k : Int × Int} (h : (getG k lh).getD false = false) : getG k lh = none := by
  cases e : getG k lh with
  | none => rfl
  | some v =>
    obtain ⟨b, hb⟩ := getG_mem e
    have := ht _ hb
    rw [e] at h
    simp at h this
    rw [this] at h
    cases h
theorem mayP_twice {p : Pay} {hk : Int × Int → Bool} {x : Part} {ht : Int} (h : (mayP p hk x ht).2 = 0) : hk (keyP x) = false := by
  cases e : hk (keyP x)
  · rfl
  · exfalso
    unfold mayP at h
    simp only [e] at h
    split at h
    · simp at h
    split at h
    · simp at h
    split at h
    · simp at h
    split at h
    · simp at h
    simp at h
theorem paid_snoc (s : Nat) (l : List Part) (k : Nat) (h : k < l.length) : (l.take k).map (paidOf s) ++ [(⟨(l.getD k noPart).ch, (l.getD k noPart).id, addS s (l.getD k noPart).bl⟩ : Paid)] = (l.take (k + 1)).map (paidOf s) := by
  rw [List.take_add_one, getS l noPart h, List.map_append]
  rfl
def hkOf (lh : List (Nat × (Int × Int) × Bool)) : Int × Int → Bool := fun k => (getG k lh).getD false
theorem add_none {gp ga gh ca ck : Nat} {la : List (Nat × Int × Nat)} {lh : List (Nat × (Int × Int) × Bool)} (nm : Int) (y : Part) (ht : Int) (w : World) (hp : Blk w gp 117 #[.map (some ga), .map (some gh)]) (hA : MapG w ikf ptf ga la ca) (hg : getG nm la = none) : Calls Try.prog 19 #[.pointer (some ⟨gp, 0, none⟩), .int .i64 (nm), .agg (partV y).toArray, .int .i64 (ht)] w fun r w' => r = .returned (.tuple #[.slice none 0 0, .int .i64 5]) ∧ Le w w' := by
  refine enter Try.func19 rfl rfl ?_
  have L0 := Le.refl w
  refine WC.seq ?_
  refine WC.region ?_
  refine W.ef rfl rfl rfl ?_
  refine Ef.boxA rfl ?_
  intro g0_0 w0_0 hg0_0 b0_0 h0_0
  have L1 := L0.trans h0_0
  have b0_0 : Blk w0_0 g0_0 33 (partV y).toArray := b0_0
  refine W.any (.assign rfl) rfl rfl rfl ?_
  refine W.any (.assign rfl) rfl rfl rfl ?_
  refine W.nil ?_
  refine E.thenN ?_
  refine WC.seq ?_
  refine WC.region ?_
  refine W.any (.move rfl) rfl rfl rfl ?_
  refine W.any (.nilCheck rfl) rfl rfl rfl ?_
  refine W.any (.field0 fa117_0 rfl) rfl rfl rfl ?_
  refine W.rd (.loadB (v := .map (some ga)) na114 rfl (hp.le L1) rfl) rfl rfl rfl ?_
  refine W.any (.move rfl) rfl rfl rfl ?_
  refine W.rd (.as (.lookup1 (key := nm) Try.underlying114 kint z123 rfl rfl (hA.le L1)) (by rw [hg] <;> rfl)) rfl rfl rfl ?_
  refine W.any (.assign rfl) rfl rfl rfl ?_
  refine W.nil ?_
  refine E.thenN ?_
  refine WC.seq ?_
  refine WC.seq ?_
  refine WC.region ?_
  refine W.any (.move rfl) rfl rfl rfl ?_
  refine W.any (.dec (.isNilP (by kernel_rfl) rfl) rfl) rfl rfl rfl ?_
  refine W.nil ?_
  refine E.thenN ?_
  refine WC.condT rfl ?_
  refine WC.seq ?_
  refine WC.region ?_
  refine W.any (.assign rfl) rfl rfl rfl ?_
  refine W.any (.assign rfl) rfl rfl rfl ?_
  refine W.nil ?_
  refine E.thenN ?_
  refine WC.ret ?_
  refine E.thenR ?_
  refine E.retG2 rfl rfl rfl ?_
  exact ⟨rfl, L1⟩

theorem add_some {gp ga gh ca ck : Nat} {la : List (Nat × Int × Nat)} {lh : List (Nat × (Int × Int) × Bool)} {gq cq : Nat} {Aq : Option Addr} (nm : Int) (p : Pay) (y : Part) (ht : Int) (w : World) (hp : Blk w gp 117 #[.map (some ga), .map (some gh)]) (hA : MapG w ikf ptf ga la ca) (hg : getG nm la = some gq) (hq : Blk w gq 126 #[.int .u64 (((p.sec : Nat) : Int)), .int .i64 (p.tot), .int .i64 (p.by_), .int .i64 (p.lst), .slice Aq p.held.length cq, .int .i64 (p.sum), .bool (p.ovr), .bool (p.paid)]) (hM : MapG w ckf Value.bool gh lh ck) (hO : OVec w 0 33 partV 6 Aq p.held.length cq p.held) (hhl : p.held.length ≤ 1000) (htr : ∀ z ∈ lh, z.2.2 = true) (n1 : gp ≠ gq) (n2 : gp ≠ gh) (n3 : gq ≠ gh) (n4 : rowOf Aq cq ≠ some gh) (n5 : rowOf Aq cq ≠ some gq) (n6 : rowOf Aq cq ≠ some gp) (n7 : rowOf Aq cq ≠ some ga) (n8 : ga ≠ gq) (n9 : ga ≠ gh) : Calls Try.prog 19 #[.pointer (some ⟨gp, 0, none⟩), .int .i64 (nm), .agg (partV y).toArray, .int .i64 (ht)] w fun r w' => ChP w w' (fun k => k = gq ∨ k = gh ∨ rowOf Aq cq = some k) ∧ (((mayP p (hkOf lh) y ht).2 ≠ 0 ∧ r = .returned (.tuple #[.slice none 0 0, .int .i64 (mayP p (hkOf lh) y ht).2]) ∧ Blk w' gq 126 #[.int .u64 (((p.sec : Nat) : Int)), .int .i64 (p.tot), .int .i64 (p.by_), .int .i64 (p.lst), .slice Aq p.held.length cq, .int .i64 (p.sum), .bool (p.ovr), .bool (p.paid)] ∧ OVec w' 0 33 partV 6 Aq p.held.length cq p.held ∧ MapG w' ckf Value.bool gh lh ck) ∨ ((mayP p (hkOf lh) y ht).2 = 0 ∧ (mayP p (hkOf lh) y ht).1 < p.tot ∧ r = .returned (.tuple #[.slice none 0 0, .int .i64 0]) ∧ ∃ A' c', At w Aq cq A' c' ∧ Blk w' gq 126 #[.int .u64 (((p.sec : Nat) : Int)), .int .i64 (p.tot), .int .i64 (p.by_), .int .i64 (p.lst), .slice A' (p.held.length + 1) c', .int .i64 ((mayP p (hkOf lh) y ht).1), .bool (p.ovr), .bool (p.paid)] ∧ OVec w' 0 33 partV 6 A' (p.held.length + 1) c' (p.held ++ [y]) ∧ MapG w' ckf Value.bool gh (lh ++ [(ck, keyP y, true)]) (ck + 1)) ∨ ((mayP p (hkOf lh) y ht).2 = 0 ∧ ¬ (mayP p (hkOf lh) y ht).1 < p.tot ∧ ∃ A' c', r = .returned (.tuple #[.slice A' (p.held.length + 1) c', .int .i64 0]) ∧ OVec w' w.heap.size 57 paidV 3 A' (p.held.length + 1) c' ((p.held ++ [y]).map (paidOf p.sec)) ∧ Blk w' gq 126 #[.int .u64 (((p.sec : Nat) : Int)), .int .i64 (p.tot), .int .i64 (p.by_), .int .i64 (p.lst), .slice none 0 0, .int .i64 ((mayP p (hkOf lh) y ht).1), .bool true, .bool true] ∧ MapG w' ckf Value.bool gh (delK (p.held ++ [y]) (lh ++ [(ck, keyP y, true)])) (ck + 1))) := by
  refine enter Try.func19 rfl rfl ?_
  have L0 := ChP.refl w (fun k => k = gq ∨ k = gh ∨ rowOf Aq cq = some k)
  refine WC.seq ?_
  refine WC.region ?_
  refine W.ef rfl rfl rfl ?_
  refine Ef.boxA rfl ?_
  intro g0_0 w0_0 hg0_0 b0_0 h0_0
  have L1 := L0.le h0_0
  have b0_0 : Blk w0_0 g0_0 33 (partV y).toArray := b0_0
  refine W.any (.assign rfl) rfl rfl rfl ?_
  refine W.any (.assign rfl) rfl rfl rfl ?_
  refine W.nil ?_
  refine E.thenN ?_
  refine WC.seq ?_
  refine WC.region ?_
  refine W.any (.move rfl) rfl rfl rfl ?_
  refine W.any (.nilCheck rfl) rfl rfl rfl ?_
  refine W.any (.field0 fa117_0 rfl) rfl rfl rfl ?_
  have f2 := (hp.le h0_0)
  refine W.rd (.loadB (v := .map (some ga)) na114 rfl f2 rfl) rfl rfl rfl ?_
  refine W.any (.move rfl) rfl rfl rfl ?_
  have f3 := (hA.le h0_0)
  refine W.rd (.as (.lookup1 (key := nm) Try.underlying114 kint z123 rfl rfl f3) (by rw [hg] <;> rfl)) rfl rfl rfl ?_
  refine W.any (.assign rfl) rfl rfl rfl ?_
  refine W.nil ?_
  refine E.thenN ?_
  refine WC.seq ?_
  refine WC.seq ?_
  refine WC.region ?_
  refine W.any (.move rfl) rfl rfl rfl ?_
  refine W.any (.dec (.isNilP (by kernel_rfl) rfl) rfl) rfl rfl rfl ?_
  refine W.nil ?_
  refine E.thenN ?_
  refine WC.condF rfl ?_
  refine WC.skip ?_
  refine E.thenN ?_
  refine WC.seq ?_
  refine WC.region ?_
  refine W.any (.move rfl) rfl rfl rfl ?_
  refine W.any (.move rfl) rfl rfl rfl ?_
  refine W.rd (.loadAll ag33 (by rfl) rfl b0_0) rfl rfl rfl ?_
  refine W.any (.move rfl) rfl rfl rfl ?_
  have f4 := (hq.le h0_0)
  have f5 := (hM.le h0_0)
  refine W.ef rfl rfl rfl ?_
  refine Ef.call go64 rfl rfl (may_ok3 p y ht w0_0 f2 f4 f5 (by omega)) ?_
  rintro _ w4_4 ⟨rfl, h4_4⟩
  refine ⟨_, rfl, ?_⟩
  have L6 := L1.le h4_4
  refine W.any (.move rfl) rfl rfl rfl ?_
  refine W.any (.extract (v := .int .i64 ((mayP p (hkOf lh) y ht).1)) rfl rfl) rfl rfl rfl ?_
  refine W.any (.extract (v := .int .i64 ((mayP p (hkOf lh) y ht).2)) rfl rfl) rfl rfl rfl ?_
  refine W.any (.assign rfl) rfl rfl rfl ?_
  refine W.any (.assign rfl) rfl rfl rfl ?_
  refine W.nil ?_
  refine E.thenN ?_
  refine WC.seq ?_
  refine WC.seq ?_
  refine WC.region ?_
  refine W.any (.move rfl) rfl rfl rfl ?_
  refine W.any (.neq rfl rfl) rfl rfl rfl ?_
  refine W.nil ?_
  refine E.thenN ?_
  by_cases c1 : ((mayP p (hkOf lh) y ht).2) ≠ 0
  · refine WC.condY rfl (decide_eq_true c1) ?_
    refine WC.seq ?_
    refine WC.region ?_
    refine W.any (.move rfl) rfl rfl rfl ?_
    refine W.any (.assign rfl) rfl rfl rfl ?_
    refine W.any (.assign rfl) rfl rfl rfl ?_
    refine W.nil ?_
    refine E.thenN ?_
    refine WC.ret ?_
    refine E.thenR ?_
    have f7 := (f4.le h4_4)
    have f8 := (hO.le (h0_0.trans h4_4))
    have f9 := (f5.le h4_4)
    refine E.retG2 rfl rfl rfl ?_
    exact ⟨L6, .inl ⟨c1, rfl, f7, f8, f9⟩⟩
  · refine WC.condN rfl (decide_eq_false c1) ?_
    refine WC.skip ?_
    refine E.thenN ?_
    refine WC.seq ?_
    refine WC.draw [0, 1, 2, 3, 4, 5, 6, 9, 7, 8, 10, 11, 12, 13, 14, 15] mixed (by kernel_rfl) ?_
    intro w7 d7
    have L10 := L6.le d7
    refine G.any rfl rfl (.move rfl) rfl rfl rfl ?_
    refine G.any rfl rfl (.move rfl) rfl rfl rfl ?_
    refine G.any rfl rfl (.move rfl) rfl rfl rfl ?_
    refine G.any rfl rfl (.nilCheck rfl) rfl rfl rfl ?_
    refine G.any rfl rfl (.field0 fa126_4 rfl) rfl rfl rfl ?_
    have f11 := (f4.le (h4_4.trans d7))
    refine G.rd rfl rfl (.loadB (v := .slice Aq p.held.length cq) na46 rfl f11 rfl) rfl rfl rfl ?_
    have f12 := (b0_0.le (h4_4.trans d7))
    refine G.rd rfl rfl (.loadAll ag33 (by rfl) rfl f12) rfl rfl rfl ?_
    refine G.any rfl rfl (.move rfl) rfl rfl rfl ?_
    refine G.ef rfl rfl rfl rfl rfl ?_
    refine Ef.buildSliceV (len := 1) [_] Try.underlying46 el33 rfl (by simp [Value.cells, partV_row.len]) rfl (by decide) (by decide) ?_
    intro g7_7 w7_7 hg7_7 b7_7 h7_7
    refine ⟨fun _ => h7_7, ?_⟩
    have L13 := L10.le h7_7
    have b7_7 : Blk w7_7 g7_7 33 (([y]).map partV).flatten.toArray := b7_7
    have o7_7 : OVec w7_7 w7.heap.size 33 partV 6 (some ⟨g7_7, 0, none⟩) 1 1 ([y]) := b7_7.ovec hg7_7 partV_row rfl rfl (by decide)
    have f14 := (hO.le (h0_0.trans (h4_4.trans (d7.trans h7_7))))
    refine G.ef rfl rfl rfl rfl rfl ?_
    refine Ef.vpush (a := y) Try.underlying46 el33 Try.underlying46 partV_row rfl f14 rfl b7_7 (by omega) (by unfold maxLen; omega) (Nat.zero_le _) ?_
    intro A7_8 c7_8 w7_8 o7_8 h7_8 at7_8
    refine ⟨fun h => absurd h (ne_true_of_eq_false (by kernel_rfl)), ?_⟩
    have L15 : ChP w w7_8 (fun k => k = gq ∨ k = gh ∨ rowOf Aq cq = some k) := L13.ch h7_8 (fun i hi _ => (fun i hi => Or.inr (Or.inr hi)) i hi)
    refine G.any rfl rfl (.nilCheck rfl) rfl rfl rfl ?_
    refine G.any rfl rfl (.field0 fa126_4 rfl) rfl rfl rfl ?_
    have f16 := ((f11.le h7_7).ch h7_8 n5)
    refine G.ef0 rfl rfl rfl rfl ?_
    refine Ef.store sz46 rfl rfl f16 (by first | decide | simp) (rfl) ?_
    intro w7_12 b7_12 h7_12
    refine ⟨fun h => absurd h (ne_true_of_eq_false (by kernel_rfl)), ?_⟩
    have b7_12 : Blk w7_12 gq 126 #[.int .u64 (((p.sec : Nat) : Int)), .int .i64 (p.tot), .int .i64 (p.by_), .int .i64 (p.lst), .slice A7_8 (p.held.length + 1) c7_8, .int .i64 (p.sum), .bool (p.ovr), .bool (p.paid)] := b7_12
    have L17 : ChP w w7_12 (fun k => k = gq ∨ k = gh ∨ rowOf Aq cq = some k) := L15.ch h7_12 (fun i hi _ => by cases hi; exact Or.inl rfl)
    refine G.any rfl rfl (.nilCheck rfl) rfl rfl rfl ?_
    refine G.any rfl rfl (.field0 fa126_5 rfl) rfl rfl rfl ?_
    refine G.ef0 rfl rfl rfl rfl ?_
    refine Ef.store sz3 rfl rfl b7_12 (by first | decide | simp) (rfl) ?_
    intro w7_15 b7_15 h7_15
    refine ⟨fun h => absurd h (ne_true_of_eq_false (by kernel_rfl)), ?_⟩
    have b7_15 : Blk w7_15 gq 126 #[.int .u64 (((p.sec : Nat) : Int)), .int .i64 (p.tot), .int .i64 (p.by_), .int .i64 (p.lst), .slice A7_8 (p.held.length + 1) c7_8, .int .i64 ((mayP p (hkOf lh) y ht).1), .bool (p.ovr), .bool (p.paid)] := b7_15
    have L18 : ChP w w7_15 (fun k => k = gq ∨ k = gh ∨ rowOf Aq cq = some k) := L17.ch h7_15 (fun i hi _ => by cases hi; exact Or.inl rfl)
    refine G.nil ?_
    refine E.thenN ?_
    refine WC.seq ?_
    refine WC.draw [0, 1, 2, 3, 4, 5, 6, 7, 8, 9] mixed (by kernel_rfl) ?_
    intro w8 d8
    have L19 := L18.le d8
    refine G.any rfl rfl (.move rfl) rfl rfl rfl ?_
    refine G.any rfl rfl (.nilCheck rfl) rfl rfl rfl ?_
    refine G.any rfl rfl (.field0 fa117_1 rfl) rfl rfl rfl ?_
    have f20 := (((((f2.le (h4_4.trans (d7.trans h7_7))).ch h7_8 n6).ch h7_12 (fun h => (Ne.symm n1) (Option.some.inj h))).ch h7_15 (fun h => (Ne.symm n1) (Option.some.inj h))).le d8)
    refine G.rd rfl rfl (.loadB (v := .map (some gh)) na115 rfl f20 rfl) rfl rfl rfl ?_
    refine G.any rfl rfl (.field0 fa33_0 rfl) rfl rfl rfl ?_
    have f21 := (((((f12.le h7_7).ch h7_8 (fun he => by have := (hO.row he).2; omega)).ch h7_12 (fun h => (show gq ≠ g0_0 from by have := hq.lt; omega) (Option.some.inj h))).ch h7_15 (fun h => (show gq ≠ g0_0 from by have := hq.lt; omega) (Option.some.inj h))).le d8)
    refine G.rd rfl rfl (.loadB (v := .int .i64 (y.ch)) na3 rfl f21 rfl) rfl rfl rfl ?_
    refine G.any rfl rfl (.field0 fa33_1 rfl) rfl rfl rfl ?_
    refine G.rd rfl rfl (.loadB (v := .int .i64 (y.id)) na3 rfl f21 rfl) rfl rfl rfl ?_
    refine G.any rfl rfl (.buildP (ckV (y.ch, y.id)) pl135 z135 rfl rfl) rfl rfl rfl ?_
    have f22 := (((((f5.le (h4_4.trans (d7.trans h7_7))).ch h7_8 n4).ch h7_12 (fun h => n3 (Option.some.inj h))).ch h7_15 (fun h => n3 (Option.some.inj h))).le d8)
    refine G.ef0 rfl rfl rfl rfl ?_
    refine Ef.insertG (key := (y.ch, y.id)) (u := true) Try.underlying115 kcond rfl rfl rfl f22 (getD_false htr (mayP_twice (Classical.not_not.1 c1))) ?_
    intro w8_9 b8_9 h8_9
    refine ⟨fun h => absurd h (ne_true_of_eq_false (by kernel_rfl)), ?_⟩
    have L23 : ChP w w8_9 (fun k => k = gq ∨ k = gh ∨ rowOf Aq cq = some k) := L19.ch h8_9 (fun i hi _ => by cases hi; exact Or.inr (Or.inl rfl))
    refine G.nil ?_
    refine E.thenN ?_
    refine WC.seq ?_
    refine WC.seq ?_
    refine WC.region ?_
    refine W.any (.move rfl) rfl rfl rfl ?_
    refine W.any (.move rfl) rfl rfl rfl ?_
    refine W.any (.nilCheck rfl) rfl rfl rfl ?_
    refine W.any (.field0 fa126_1 rfl) rfl rfl rfl ?_
    have f24 := ((b7_15.le d8).ch h8_9 (fun h => (Ne.symm n3) (Option.some.inj h)))
    refine W.rd (.loadB (v := .int .i64 (p.tot)) na3 rfl f24 rfl) rfl rfl rfl ?_
    refine W.any (.lss rfl rfl) rfl rfl rfl ?_
    refine W.nil ?_
    refine E.thenN ?_
    by_cases c2 : ((mayP p (hkOf lh) y ht).1) < p.tot
    · refine WC.condY rfl (decide_eq_true c2) ?_
      refine WC.seq ?_
      refine WC.region ?_
      refine W.any (.assign rfl) rfl rfl rfl ?_
      refine W.any (.assign rfl) rfl rfl rfl ?_
      refine W.nil ?_
      refine E.thenN ?_
      refine WC.ret ?_
      refine E.thenR ?_
      have f25 := ((((o7_8.ch h7_12 (fun q hq => by cases hq; exact (at7_8.off (by have := f11.lt; have := h7_7.size; omega) n5))).ch h7_15 (fun q hq => by cases hq; exact (at7_8.off (by have := f11.lt; have := h7_7.size; omega) n5))).le d8).ch h8_9 (fun q hq => by cases hq; exact (at7_8.off (by have := f5.lt; have := h4_4.size; have := d7.size; have := h7_7.size; omega) n4)))
      refine E.retG2 rfl rfl rfl ?_
      exact ⟨L23, .inr (.inl ⟨Classical.not_not.1 c1, c2, rfl, _, _, (fun g h => (at7_8 g h).imp_right (fun z => Nat.le_trans L13.size z)), f24, f25, b8_9⟩)⟩
    · refine WC.condN rfl (decide_eq_false c2) ?_
      refine WC.skip ?_
      refine E.thenN ?_
      refine WC.seq ?_
      refine WC.seq ?_
      refine WC.region ?_
      refine W.any (.move rfl) rfl rfl rfl ?_
      refine W.any (.move rfl) rfl rfl rfl ?_
      have f26 := (f20.ch h8_9 (fun h => (Ne.symm n2) (Option.some.inj h)))
      have f27 := ((((o7_8.ch h7_12 (fun q hq => by cases hq; exact (at7_8.off (by have := f11.lt; have := h7_7.size; omega) n5))).ch h7_15 (fun q hq => by cases hq; exact (at7_8.off (by have := f11.lt; have := h7_7.size; omega) n5))).le d8).ch h8_9 (fun q hq => by cases hq; exact (at7_8.off (by have := f5.lt; have := h4_4.size; have := d7.size; have := h7_7.size; omega) n4)))
      refine W.ef rfl rfl rfl ?_
      refine Ef.call go65 rfl rfl (clear_ok (nq := (p.held.length + 1)) ({ p with held := p.held ++ [y], sum := (mayP p (hkOf lh) y ht).1 }) w8_9 f26 f24 b8_9 f27 (by omega) n1 n2 n3 (at7_8.off (by have := f5.lt; have := h4_4.size; have := d7.size; have := h7_7.size; omega) n4) (at7_8.off (by have := f11.lt; have := h7_7.size; omega) n5)) ?_
      rintro _ w11_2 ⟨rfl, bq11_2, bm11_2, h11_2⟩
      refine ⟨_, rfl, ?_⟩
      have L28 := L23.sub h11_2 (fun i hi hlt => by rcases hi with hi | hi <;> subst hi <;> first | (exact Or.inl rfl) | (exact Or.inr (Or.inl rfl)))
      refine W.rd (.len Try.underlying46 rfl) rfl rfl rfl ?_
      refine W.any (.move rfl) rfl rfl rfl ?_
      refine W.nil ?_
      refine E.thenN ?_
      refine WC.block ?_
      have f29 := (f27.chP h11_2 (fun q hqq hF => by rcases hF with hF | hF <;> subst hF <;> first | exact (at7_8.off (by have := f11.lt; have := h7_7.size; omega) n5) hqq | exact (at7_8.off (by have := f5.lt; have := h4_4.size; have := d7.size; have := h7_7.size; omega) n4) hqq))
      refine WC.loop (ι := Nat × (Option Addr) × Nat) (fun ⟨k, A, c⟩ => [(8, .slice A k c), (10, .pointer (some ⟨gq, 0, none⟩)), (64, .slice A7_8 (p.held.length + 1) c7_8), (65, .int .i64 ((((p.held.length + 1) : Nat) : Int))), (66, .int .i64 (((k : Nat) : Int)))]) (fun ⟨k, A, c⟩ wl0 => (k ≤ p.held.length + 1) ∧ ChP w wl0 (fun k => k = gq ∨ k = gh ∨ rowOf Aq cq = some k) ∧ w11_2.heap.size ≤ wl0.heap.size ∧ OVec wl0 w11_2.heap.size 57 paidV 3 A k c (((p.held ++ [y]).take k).map (paidOf p.sec)) ∧ Blk wl0 gq 126 #[.int .u64 (((p.sec : Nat) : Int)), .int .i64 (p.tot), .int .i64 (p.by_), .int .i64 (p.lst), .slice none 0 0, .int .i64 ((mayP p (hkOf lh) y ht).1), .bool true, .bool (p.paid)] ∧ OVec wl0 0 33 partV 6 A7_8 (p.held.length + 1) c7_8 (p.held ++ [y]) ∧ MapG wl0 ckf Value.bool gh (delK (p.held ++ [y]) (lh ++ [(ck, (y.ch, y.id), true)])) (ck + 1)) (fun ⟨k, A, c⟩ => p.held.length + 1 - k) (0, none, 0) ?_ ?_ ?_
      · exact .cons rfl (.cons rfl (.cons rfl (.cons rfl (.cons rfl (.nil _)))))
      · exact ⟨by omega, L28, Nat.le_refl _, (OVec.nil w11_2 w11_2.heap.size 57 paidV 3 none), bq11_2, f29, bm11_2⟩
      · rintro ⟨k, A, c⟩ wl0 ⟨hk, Ll0, sz0, f0_0, f0_1, f0_2, f0_3⟩
        have lb0_9 : w11_2.heap.size ≤ wl0.heap.size := by omega
        have hln : (p.held ++ [y]).length = p.held.length + 1 := by simp
        refine WC.seq ?_
        refine WC.region ?_
        refine W.any (.lss rfl rfl) rfl rfl rfl ?_
        refine W.nil ?_
        refine E.thenN ?_
        refine WC.seq ?_
        by_cases c3 : ((k : Nat) : Int) < (((p.held.length + 1) : Nat) : Int)
        · refine WC.condY rfl (decide_eq_true c3) ?_
          refine WC.skip ?_
          refine E.thenN ?_
          refine WC.seq ?_
          refine WC.block ?_
          refine WC.seq ?_
          refine WC.region ?_
          refine W.any (.idxS (k) Try.underlying46 sz33 rfl rfl (o7_8.vec.isSome partV_row (by omega)) (rfl) (by omega)) rfl rfl rfl ?_
          refine W.rd (.vload ag33 rfl f0_2.vec partV_row (getS (p.held ++ [y]) noPart (by first | omega | (simp only [List.length_cons, List.length_nil]; omega)))) rfl rfl rfl ?_
          refine W.ef rfl rfl rfl ?_
          refine Ef.allocA z33 ?_
          intro g13_2 w13_2 hg13_2 b13_2 h13_2
          have L30 := Ll0.le h13_2
          have b13_2 : Blk w13_2 g13_2 33 (partV noPart).toArray := b13_2
          refine W.ef0 rfl rfl ?_
          refine Ef.storeAll sz33 (by rfl) rfl rfl b13_2 (by rfl) (partV_row.one ((p.held ++ [y]).getD k noPart)) ?_
          intro w13_3 b13_3 h13_3
          have b13_3 : Blk w13_3 g13_2 33 (partV ((p.held ++ [y]).getD k noPart)).toArray := b13_3
          have L31 : ChP w w13_3 (fun k => k = gq ∨ k = gh ∨ rowOf Aq cq = some k) := L30.ch h13_3 (fun i hi hlt => by cases hi; exact absurd hlt (by have := Ll0.size; have := hg13_2; omega))
          refine W.nil ?_
          refine E.thenN ?_
          refine WC.draw [0, 1, 2, 3, 4, 5, 6, 7, 8, 9, 10, 11, 12, 13, 14, 15] mixed (by kernel_rfl) ?_
          intro w14 d14
          have L32 := L31.le d14
          refine G.any rfl rfl (.move rfl) rfl rfl rfl ?_
          refine G.any rfl rfl (.field0 fa33_0 rfl) rfl rfl rfl ?_
          have f33 := (b13_3.le d14)
          refine G.rd rfl rfl (.loadB (v := .int .i64 (((p.held ++ [y]).getD k noPart).ch)) na3 rfl f33 rfl) rfl rfl rfl ?_
          refine G.any rfl rfl (.field0 fa33_1 rfl) rfl rfl rfl ?_
          refine G.rd rfl rfl (.loadB (v := .int .i64 (((p.held ++ [y]).getD k noPart).id)) na3 rfl f33 rfl) rfl rfl rfl ?_
          refine G.any rfl rfl (.move rfl) rfl rfl rfl ?_
          refine G.any rfl rfl (.nilCheck rfl) rfl rfl rfl ?_
          refine G.any rfl rfl (.field0 fa126_0 rfl) rfl rfl rfl ?_
          have f34 := (((f0_1.le h13_2).ch h13_3 (fun h => (show g13_2 ≠ gq from by have := f0_1.lt; omega) (Option.some.inj h))).le d14)
          refine G.rd rfl rfl (.loadB (v := .int .u64 (((p.sec : Nat) : Int))) na30 rfl f34 rfl) rfl rfl rfl ?_
          refine G.any rfl rfl (.field0 fa33_5 rfl) rfl rfl rfl ?_
          refine G.rd rfl rfl (.loadB (v := .int .u64 (((((p.held ++ [y]).getD k noPart).bl : Nat) : Int))) na30 rfl f33 rfl) rfl rfl rfl ?_
          refine G.ef rfl rfl rfl rfl rfl ?_
          refine Ef.call go55 rfl rfl (fadd_ok p.sec (((p.held ++ [y]).getD k noPart).bl) w14) ?_
          rintro _ w14_11 ⟨rfl, h14_11⟩
          refine ⟨_, rfl, ?_⟩
          refine ⟨fun _ => h14_11, ?_⟩
          have L35 := L32.le h14_11
          refine G.any rfl rfl (.buildP (paidV (⟨((p.held ++ [y]).getD k noPart).ch, ((p.held ++ [y]).getD k noPart).id, addS p.sec (((p.held ++ [y]).getD k noPart).bl)⟩ : Paid)) pl57 z57 rfl rfl) rfl rfl rfl ?_
          refine G.ef rfl rfl rfl rfl rfl ?_
          refine Ef.buildSliceV (len := 1) [_] Try.underlying38 el57 rfl (by simp [Value.cells, paidV_row.len]) rfl (by decide) (by decide) ?_
          intro g14_13 w14_13 hg14_13 b14_13 h14_13
          refine ⟨fun _ => h14_13, ?_⟩
          have L36 := L35.le h14_13
          have b14_13 : Blk w14_13 g14_13 57 (([(⟨((p.held ++ [y]).getD k noPart).ch, ((p.held ++ [y]).getD k noPart).id, addS p.sec (((p.held ++ [y]).getD k noPart).bl)⟩ : Paid)]).map paidV).flatten.toArray := b14_13
          have o14_13 : OVec w14_13 w14_11.heap.size 57 paidV 3 (some ⟨g14_13, 0, none⟩) 1 1 ([(⟨((p.held ++ [y]).getD k noPart).ch, ((p.held ++ [y]).getD k noPart).id, addS p.sec (((p.held ++ [y]).getD k noPart).bl)⟩ : Paid)]) := b14_13.ovec hg14_13 paidV_row rfl rfl (by decide)
          have f37 := (((f0_0.le h13_2).ch h13_3 (fun q hq => by cases hq; exact (fun he => by have := (f0_0.row he).2; omega))).le (d14.trans (h14_11.trans h14_13)))
          refine G.ef rfl rfl rfl rfl rfl ?_
          refine Ef.vpush (a := (⟨((p.held ++ [y]).getD k noPart).ch, ((p.held ++ [y]).getD k noPart).id, addS p.sec (((p.held ++ [y]).getD k noPart).bl)⟩ : Paid)) Try.underlying38 el57 Try.underlying38 paidV_row rfl f37 rfl b14_13 (by omega) (by unfold maxLen; omega) (by have := lb0_9; have := h13_2.size; have := h13_3.size; have := d14.size; have := h14_11.size; have := h14_13.size; omega) ?_
          intro A14_14 c14_14 w14_14 o14_14 h14_14 at14_14
          refine ⟨fun h => absurd h (ne_true_of_eq_false (by kernel_rfl)), ?_⟩
          have L38 : ChP w w14_14 (fun k => k = gq ∨ k = gh ∨ rowOf Aq cq = some k) := L36.ch h14_14 (fun i hi hlt => absurd hlt (by have := (f37.row hi).1; have := L28.size; omega))
          refine G.any rfl rfl (.assign rfl) rfl rfl rfl ?_
          refine G.nil ?_
          refine E.blkN ?_
          refine E.thenN ?_
          refine WC.region ?_
          refine W.any (.add rfl rfl (by omega)) rfl rfl rfl ?_
          refine W.any (.move rfl) rfl rfl rfl ?_
          refine W.nil ?_
          have f39 := ((f34.le (h14_11.trans h14_13)).ch h14_14 (fun he => by have := (f37.row he).1; have := bq11_2.lt; omega))
          have f40 := ((((f0_2.le h13_2).ch h13_3 (fun q hq => by cases hq; exact (fun he => by have := (f0_2.row he).2; omega))).le (d14.trans (h14_11.trans h14_13))).ch h14_14 ((Apart.symm (fun q h1 h2 => by have := (f29.row h1).2; have := (f37.row h2).1; omega))))
          have f41 := ((((f0_3.le h13_2).ch h13_3 (fun h => (show g13_2 ≠ gh from by have := f0_3.lt; omega) (Option.some.inj h))).le (d14.trans (h14_11.trans h14_13))).ch h14_14 (fun he => by have := (f37.row he).1; have := bm11_2.lt; omega))
          refine E.again (k + 1, A14_14, c14_14) (.cons rfl (.cons rfl (.cons rfl (.cons rfl (.cons rfl (.nil _)))))) ?_ ?_
          · exact ⟨by omega, L38, by have := sz0; have := h13_2.size; have := h13_3.size; have := d14.size; have := h14_11.size; have := h14_13.size; have := h14_14.size; omega, (o14_14.cast rfl (paid_snoc p.sec (p.held ++ [y]) k (by omega))), f39, f40, f41⟩
          · first | omega | (simp only []; omega)
        · refine WC.condN rfl (decide_eq_false c3) ?_
          refine WC.exit ?_
          refine E.thenX ?_
          refine E.thenX ?_
          refine E.blkH ?_
          refine E.thenN ?_
          refine WC.seq ?_
          refine WC.region ?_
          refine W.any (.move rfl) rfl rfl rfl ?_
          refine W.any (.nilCheck rfl) rfl rfl rfl ?_
          refine W.any (.field0 fa126_7 rfl) rfl rfl rfl ?_
          refine W.ef0 rfl rfl ?_
          refine Ef.store sz4 rfl rfl f0_1 (by first | decide | simp) (rfl) ?_
          intro w16_3 b16_3 h16_3
          have b16_3 : Blk w16_3 gq 126 #[.int .u64 (((p.sec : Nat) : Int)), .int .i64 (p.tot), .int .i64 (p.by_), .int .i64 (p.lst), .slice none 0 0, .int .i64 ((mayP p (hkOf lh) y ht).1), .bool true, .bool true] := b16_3
          have L42 : ChP w w16_3 (fun k => k = gq ∨ k = gh ∨ rowOf Aq cq = some k) := Ll0.ch h16_3 (fun i hi _ => by cases hi; exact Or.inl rfl)
          refine W.nil ?_
          refine E.thenN ?_
          refine WC.seq ?_
          refine WC.region ?_
          refine W.any (.move rfl) rfl rfl rfl ?_
          refine W.any (.assign rfl) rfl rfl rfl ?_
          refine W.any (.assign rfl) rfl rfl rfl ?_
          refine W.nil ?_
          refine E.thenN ?_
          refine WC.ret ?_
          have f43 := (f0_0.ch h16_3 (fun q hq => by cases hq; exact (fun he => by have := (f0_0.row he).1; have := bq11_2.lt; omega)))
          have f44 := (f0_3.ch h16_3 (fun h => n3 (Option.some.inj h)))
          refine E.retG2 rfl rfl rfl ?_
          obtain rfl : k = p.held.length + 1 := (by omega); exact ⟨L42, .inr (.inr ⟨Classical.not_not.1 c1, c2, _, _, rfl, (by have e := (f43.mono L28.size); rw [List.take_of_length_le (by omega)] at e; exact e), b16_3, f44⟩)⟩
end Go.Proofs.Ytfgakofjkldcjaa

namespace Go.Proofs.Ytfgakofjkldcjaa
open Go Go.Sx Go.Hsp Go.Num Go.Osp Go.Gsp
set_option maxRecDepth 20000
set_option linter.unusedSimpArgs false
set_option linter.unusedVariables false
/-- A payment of a pool, and where it lies. -/
structure Ent where
  born : Nat
  name : Int
  g : Nat
  A : Option Addr
  c : Nat
  pay : Pay
def Ent.arr (e : Ent) : Array Value := #[.int .u64 (((e.pay.sec : Nat) : Int)), .int .i64 (e.pay.tot), .int .i64 (e.pay.by_), .int .i64 (e.pay.lst), .slice e.A e.pay.held.length e.c, .int .i64 (e.pay.sum), .bool (e.pay.ovr), .bool (e.pay.paid)]
def Ent.has (e : Ent) (k : Nat) : Prop := k = e.g ∨ rowOf e.A e.c = some k
def PayAt (w : World) (e : Ent) : Prop := Blk w e.g 126 e.arr ∧ OVec w 0 33 partV 6 e.A e.pay.held.length e.c e.pay.held
def Pays (w : World) (L : List Ent) : Prop := ∀ e ∈ L, PayAt w e
section
variable {w w' : World} {L : List Ent} {e : Ent}
theorem PayAt.chP {F : Nat → Prop} (h : PayAt w e) (hc : ChP w w' F) (hne : ∀ k, e.has k → ¬ F k) : PayAt w' e := ⟨h.1.chP hc (hne _ (.inl rfl)), h.2.chP hc (fun g hg => hne g (.inr hg))⟩
theorem PayAt.lt (h : PayAt w e) {k : Nat} (hk : e.has k) : k < w.heap.size := by
  rcases hk with rfl | hk
  · exact h.1.lt
  · exact (h.2.row hk).2
theorem Pays.chP {F : Nat → Prop} (h : Pays w L) (hc : ChP w w' F) (hne : ∀ k, (∃ e ∈ L, e.has k) → ¬ F k) : Pays w' L := fun e he => (h e he).chP hc (fun k hk => hne k ⟨e, he, hk⟩)
theorem Pays.ch {r : Option Nat} (h : Pays w L) (hc : Ch w w' r) (hne : ∀ k, r = some k → ∀ e ∈ L, ¬ e.has k) : Pays w' L := h.chP (hc.chP (F := fun k => r = some k) (fun i hi => hi)) (fun k hk hr => by obtain ⟨e, he, hh⟩ := hk; exact hne k hr e he hh)
theorem Pays.le (h : Pays w L) (hl : Le w w') : Pays w' L := h.chP (hl.chP (fun _ => False)) (fun _ _ hf => hf)
theorem Pays.lt (h : Pays w L) {e : Ent} (he : e ∈ L) {k : Nat} (hk : e.has k) : k < w.heap.size := (h e he).lt hk
end
/-- The entries of the map of payments. -/
def laOf (L : List Ent) : List (Nat × Int × Nat) := L.map fun e => (e.born, e.name, e.g)
theorem laOf_names (L : List Ent) : (laOf L).map (fun x => x.2.1) = L.map (·.name) := by simp [laOf, List.map_map, Function.comp_def]
/-- Blocks that do not touch. -/
structure Sep (gp ga gh : Nat) (L : List Ent) : Prop where
  names : (L.map (·.name)).Nodup
  pw : ∀ a ∈ L, ∀ b ∈ L, a.name ≠ b.name → ∀ k, a.has k → ¬ b.has k
  own : ∀ e ∈ L, rowOf e.A e.c ≠ some e.g
  p : ∀ e ∈ L, ¬ e.has gp
  a : ∀ e ∈ L, ¬ e.has ga
  h : ∀ e ∈ L, ¬ e.has gh
  pa : gp ≠ ga
  ph : gp ≠ gh
  ah : ga ≠ gh
theorem nodup_name {L : List Ent} (h : (L.map (·.name)).Nodup) {a b : Ent} (ha : a ∈ L) (hb : b ∈ L) (hn : a.name = b.name) : a = b := nodup_inj (·.name) L h ha hb hn
theorem getG_laOf {L : List Ent} (h : (L.map (·.name)).Nodup) {e : Ent} (he : e ∈ L) : getG e.name (laOf L) = some e.g := by
  cases e1 : getG e.name (laOf L) with
  | none =>
    have := getG_none.1 e1 (e.born, e.name, e.g) (List.mem_map.2 ⟨e, he, rfl⟩)
    exact absurd rfl this
  | some v =>
    obtain ⟨b, hb⟩ := getG_mem e1
    obtain ⟨e2, he2, e3⟩ := List.mem_map.1 hb
    simp only [Prod.mk.injEq] at e3
    have := nodup_name h he2 he e3.2.1
    subst this
    rw [e3.2.2]
def lateE (ht : Int) (e : Ent) : Ent := if dueP ht e.pay then { e with A := none, c := 0, pay := { e.pay with held := [], ovr := true } } else e
theorem lateE_name (ht : Int) (e : Ent) : (lateE ht e).name = e.name := by unfold lateE; split <;> rfl
theorem lateE_has {ht : Int} {e : Ent} {k : Nat} (h : (lateE ht e).has k) : e.has k := by
  unfold lateE at h
  split at h
  · rcases h with h | h
    · exact .inl h
    · simp [rowOf] at h
  · exact h
def lateL (ht : Int) (L : List Ent) (ns : List Int) (k : Nat) : List Ent := L.map fun e => if e.name ∈ ns.take k then lateE ht e else e
def lateOut (ht : Int) (L : List Ent) (n : Int) : List Part := match L.find? (fun e => decide (e.name = n)) with
  | some e => if dueP ht e.pay then e.pay.held else []
  | none => []
def outK (ht : Int) (L : List Ent) (ns : List Int) (k : Nat) : List Part := (ns.take k).flatMap (lateOut ht L)
theorem lateL_zero (ht : Int) (L : List Ent) (ns : List Int) : lateL ht L ns 0 = L := by simp [lateL]
theorem lateL_mem {ht : Int} {L : List Ent} {ns : List Int} {k : Nat} {x : Ent} (h : x ∈ lateL ht L ns k) : ∃ e ∈ L, x.name = e.name ∧ (∀ j, x.has j → e.has j) := by
  obtain ⟨e, he, rfl⟩ := List.mem_map.1 h
  refine ⟨e, he, ?_, ?_⟩
  · split
    · exact lateE_name ht e
    · rfl
  · intro j
    split
    · exact lateE_has
    · exact id
theorem takeS {ns : List Int} {k : Nat} (hk : k < ns.length) : ns.take (k + 1) = ns.take k ++ [ns.getD k 0] := by rw [List.take_add_one, getS ns 0 hk]; rfl
theorem not_before {ns : List Int} (hn : ns.Nodup) {k : Nat} (hk : k < ns.length) : ns.getD k 0 ∉ ns.take k := by
  intro h
  have h2 : (ns.take (k + 1)).Nodup := hn.sublist (List.take_sublist _ _)
  rw [takeS hk, List.nodup_append] at h2
  exact h2.2.2 _ h _ (by simp) rfl
theorem late_open {w : World} {L : List Ent} {ns : List Int} {ht : Int} {k gp ga gh : Nat} {B : Nat} (hS : Sep gp ga gh L) (hP : Pays w (lateL ht L ns k)) (hns : ns.Perm ((laOf L).map fun x => x.2.1)) (hk : k < ns.length) (hB : ∀ e ∈ L, ∀ k, e.has k → k < B) :
    ∃ (b gq : Nat) (Aq : Option Addr) (cq : Nat) (p : Pay), (⟨b, ns.getD k 0, gq, Aq, cq, p⟩ : Ent) ∈ L ∧ getG (ns.getD k 0) (laOf L) = some gq ∧ Blk w gq 126 #[.int .u64 (((p.sec : Nat) : Int)), .int .i64 (p.tot), .int .i64 (p.by_), .int .i64 (p.lst), .slice Aq p.held.length cq, .int .i64 (p.sum), .bool (p.ovr), .bool (p.paid)] ∧ OVec w 0 33 partV 6 Aq p.held.length cq p.held ∧
      Pays w ((lateL ht L ns k).filter fun x => decide (x.name ≠ ns.getD k 0)) ∧ gp ≠ gq ∧ gq ≠ gh ∧ ga ≠ gq ∧ rowOf Aq cq ≠ some gp ∧ rowOf Aq cq ≠ some ga ∧ rowOf Aq cq ≠ some gh ∧ rowOf Aq cq ≠ some gq ∧
      (∀ e ∈ (lateL ht L ns k).filter (fun x => decide (x.name ≠ ns.getD k 0)), ¬ e.has gq) ∧ (∀ e ∈ (lateL ht L ns k).filter (fun x => decide (x.name ≠ ns.getD k 0)), ¬ e.has gh) ∧ (∀ e ∈ (lateL ht L ns k).filter (fun x => decide (x.name ≠ ns.getD k 0)), ∀ j, e.has j → j < B) := by
  rw [laOf_names] at hns
  have hnd : ns.Nodup := hns.nodup_iff.2 hS.names
  have hm : ns.getD k 0 ∈ L.map (·.name) := hns.mem_iff.1 (List.mem_of_getElem? (getS ns 0 hk))
  obtain ⟨e, he, hn⟩ := List.mem_map.1 hm
  have hel : e ∈ lateL ht L ns k := List.mem_map.2 ⟨e, he, by rw [if_neg]; rw [hn]; exact not_before hnd hk⟩
  have h1 := hP e hel
  have hf : ∀ x ∈ (lateL ht L ns k).filter (fun x => decide (x.name ≠ ns.getD k 0)), ∃ y ∈ L, y.name ≠ e.name ∧ ∀ j, x.has j → y.has j := by
    intro x hx
    obtain ⟨hx1, hx2⟩ := List.mem_filter.1 hx
    obtain ⟨y, hy, hyn, hyh⟩ := lateL_mem hx1
    refine ⟨y, hy, ?_, hyh⟩
    rw [← hyn, hn]
    simpa using hx2
  obtain ⟨b, n, gq, Aq, cq, p⟩ := e
  simp only at hn
  subst hn
  refine ⟨b, gq, Aq, cq, p, he, getG_laOf hS.names he, h1.1, h1.2, fun x hx => hP x (List.mem_filter.1 hx).1, fun h => hS.p _ he (.inl h), fun h => hS.h _ he (.inl h.symm), fun h => hS.a _ he (.inl h), fun h => hS.p _ he (.inr h), fun h => hS.a _ he (.inr h), fun h => hS.h _ he (.inr h), fun h => hS.own _ he h, ?_, ?_, ?_⟩
  · intro x hx hh
    obtain ⟨y, hy, hyn, hyh⟩ := hf x hx
    exact hS.pw y hy _ he hyn _ (hyh _ hh) (.inl rfl)
  · intro x hx hh
    obtain ⟨y, hy, hyn, hyh⟩ := hf x hx
    exact hS.h y hy (hyh _ hh)
  · intro x hx j hh
    obtain ⟨y, hy, hyn, hyh⟩ := hf x hx
    exact hB y hy j (hyh _ hh)
theorem late_close {w : World} {L : List Ent} {ns : List Int} {ht : Int} {k : Nat} {e : Ent} (hN : (L.map (·.name)).Nodup) (h : Pays w ((lateL ht L ns k).filter fun x => decide (x.name ≠ ns.getD k 0))) (he : e ∈ L) (hn : e.name = ns.getD k 0) (hk : k < ns.length) (h2 : PayAt w (lateE ht e)) : Pays w (lateL ht L ns (k + 1)) := by
  intro x hx
  obtain ⟨e0, h0, rfl⟩ := List.mem_map.1 hx
  by_cases hc : e0.name = ns.getD k 0
  · have := nodup_name hN h0 he (hc.trans hn.symm)
    subst this
    rw [if_pos (by rw [takeS hk, hc]; simp)]
    exact h2
  · refine h _ (List.mem_filter.2 ⟨List.mem_map.2 ⟨e0, h0, ?_⟩, ?_⟩)
    · have : e0.name ∈ ns.take (k + 1) ↔ e0.name ∈ ns.take k := by rw [takeS hk]; simp [-List.getD_eq_getElem?_getD, hc]
      by_cases h3 : e0.name ∈ ns.take k
      · rw [if_pos h3, if_pos (this.2 h3)]
      · rw [if_neg h3, if_neg (fun h => h3 (this.1 h))]
    · have : (if e0.name ∈ ns.take (k + 1) then lateE ht e0 else e0).name = e0.name := by split; exact lateE_name ht e0; rfl
      rw [this]
      simpa [-List.getD_eq_getElem?_getD] using hc
theorem outK_next {L : List Ent} {ns : List Int} {ht : Int} {k : Nat} {e : Ent} (hN : (L.map (·.name)).Nodup) (he : e ∈ L) (hn : e.name = ns.getD k 0) (hk : k < ns.length) : outK ht L ns (k + 1) = outK ht L ns k ++ (if dueP ht e.pay then e.pay.held else []) := by
  unfold outK
  rw [takeS hk, List.flatMap_append, List.flatMap_singleton, ← hn]
  congr 1
  unfold lateOut
  cases hf : L.find? (fun x => decide (x.name = e.name)) with
  | none =>
    have := List.find?_eq_none.1 hf e he
    simp at this
  | some y =>
    have h1 := List.mem_of_find?_eq_some hf
    have h2 := List.find?_some hf
    have := nodup_name hN h1 he (by simpa using h2)
    subst this
    rfl
theorem delK_delK (a b : List Part) (m : List (Nat × (Int × Int) × Bool)) : delK b (delK a m) = delK (a ++ b) m := by
  unfold delK
  rw [List.filter_filter]
  apply List.filter_congr
  intro y _
  rw [List.any_append]
  simp [Bool.and_comm]
theorem lateL_all {L : List Ent} {ns : List Int} {ht : Int} {k : Nat} (hns : ns.Perm ((laOf L).map fun x => x.2.1)) (hk : ns.length ≤ k) : lateL ht L ns k = L.map (lateE ht) := by
  rw [laOf_names] at hns
  unfold lateL
  apply List.map_congr_left
  intro e he
  rw [List.take_of_length_le hk, if_pos (hns.mem_iff.2 (List.mem_map.2 ⟨e, he, rfl⟩))]
theorem late_ok {gp ga gh ca ck : Nat} {L : List Ent} {lh : List (Nat × (Int × Int) × Bool)} (ht : Int) (w : World) (hp : Blk w gp 117 #[.map (some ga), .map (some gh)]) (hA : MapG w ikf ptf ga (laOf L) ca) (hM : MapG w ckf Value.bool gh lh ck) (hP : Pays w L) (hS : Sep gp ga gh L) (hr : ∀ e ∈ L, inI e.name) (hl : L.length ≤ 1000) (hhl : ∀ e ∈ L, e.pay.held.length ≤ 1000) : Calls Try.prog 22 #[.pointer (some ⟨gp, 0, none⟩), .int .i64 (ht)] w fun r w' => ∃ (ns : List Int) (m : Nat) (A : Option Addr) (c : Nat), r = .returned (.slice A m c) ∧ ns.Perm (L.map (·.name)) ∧ ns.Pairwise (· ≤ ·) ∧ OVec w' w.heap.size 33 partV 6 A m c (ns.flatMap (lateOut ht L)) ∧ MapG w' ckf Value.bool gh (delK (ns.flatMap (lateOut ht L)) lh) ck ∧ Pays w' (L.map (lateE ht)) ∧ ChP w w' (fun k => k = gh ∨ ∃ e ∈ L, k = e.g) := by
  have hold : ∀ e ∈ L, ∀ k, e.has k → k < w.heap.size := fun e he k hk => hP.lt he hk
  have hr2 : ∀ x ∈ laOf L, inI x.2.1 := fun x hx => by obtain ⟨e, he, rfl⟩ := List.mem_map.1 hx; exact hr e he
  have hl2 : (laOf L).length ≤ 1000000 := by simp only [laOf, List.length_map]; omega
  have hl3 : (laOf L).length ≤ 1000 := by simp only [laOf, List.length_map]; omega
  have n1 := hS.pa; have n2 := hS.ph; have n3 := hS.ah
  refine enter Try.func22 rfl rfl ?_
  have L0 := ChP.refl w (fun k => k = gh ∨ ∃ e ∈ L, k = e.g)
  refine WC.seq ?_
  refine WC.region ?_
  refine W.any (.assign rfl) rfl rfl rfl ?_
  refine W.nil ?_
  refine E.thenN ?_
  refine WC.seq ?_
  refine WC.seq ?_
  refine WC.region ?_
  refine W.any (.move rfl) rfl rfl rfl ?_
  refine W.ef rfl rfl rfl ?_
  refine Ef.call go27 rfl rfl (names_ok w hp hA hr2 hl2) ?_
  rintro _ w1_1 ⟨An, cn, ns, rfl, hpm, hpw, hon, h1_1⟩
  refine ⟨_, rfl, ?_⟩
  have L1 := L0.le h1_1
  refine W.rd (.len Try.underlying53 rfl) rfl rfl rfl ?_
  refine W.any (.move rfl) rfl rfl rfl ?_
  refine W.nil ?_
  refine E.thenN ?_
  refine WC.block ?_
  have f2 := (hM.le h1_1)
  have f3 := (hP.le h1_1)
  have f4 := (hp.le h1_1)
  have f5 := (hA.le h1_1)
  refine WC.loop (ι := Nat × Nat × (Option Addr) × Nat) (fun ⟨k, m, A, c⟩ => [(0, .pointer (some ⟨gp, 0, none⟩)), (1, .int .i64 (ht)), (4, .slice A m c), (9, .slice An ((laOf L).length) cn), (10, .int .i64 ((((laOf L).length : Nat) : Int))), (11, .int .i64 (((k : Nat) : Int)))]) (fun ⟨k, m, A, c⟩ wl0 => (k ≤ (laOf L).length) ∧ (m ≤ k * 1000) ∧ ChP w wl0 (fun k => k = gh ∨ ∃ e ∈ L, k = e.g) ∧ w1_1.heap.size ≤ wl0.heap.size ∧ Blk wl0 gp 117 #[.map (some ga), .map (some gh)] ∧ MapG wl0 ikf ptf ga (laOf L) ca ∧ MapG wl0 ckf Value.bool gh (delK (outK ht L ns k) lh) ck ∧ OVec wl0 w1_1.heap.size 33 partV 6 A m c (outK ht L ns k) ∧ OVec wl0 w.heap.size 3 iv 1 An ((laOf L).length) cn ns ∧ Pays wl0 (lateL ht L ns k)) (fun ⟨k, m, A, c⟩ => (laOf L).length - k) (0, 0, none, 0) ?_ ?_ ?_
  · exact .cons rfl (.cons rfl (.cons rfl (.cons rfl (.cons rfl (.cons rfl (.nil _))))))
  · exact ⟨Nat.zero_le _, by omega, L1, Nat.le_refl _, f4, f5, (by simp only [outK, List.take_zero, List.flatMap_nil, delK_nil]; exact f2), (OVec.nil w1_1 w1_1.heap.size 33 partV 6 none), hon, (by rw [lateL_zero]; exact f3)⟩
  · rintro ⟨k, m, A, c⟩ wl0 ⟨hk, hm, Ll0, sz0, f0_0, f0_1, f0_2, f0_3, f0_4, f0_5⟩
    have lb0_6 : w1_1.heap.size ≤ wl0.heap.size := by omega
    have lb0_5 : w.heap.size ≤ wl0.heap.size := by have := h1_1.size; omega
    have hnl := hon.1
    refine WC.seq ?_
    refine WC.region ?_
    refine W.any (.lss rfl rfl) rfl rfl rfl ?_
    refine W.nil ?_
    refine E.thenN ?_
    refine WC.seq ?_
    by_cases c0 : ((k : Nat) : Int) < (((laOf L).length : Nat) : Int)
    · refine WC.condY rfl (decide_eq_true c0) ?_
      refine WC.skip ?_
      refine E.thenN ?_
      refine WC.seq ?_
      refine WC.block ?_
      refine WC.seq ?_
      refine WC.region ?_
      refine W.any (.idxS (k) Try.underlying53 sz3 rfl rfl (hon.vec.isSome iv_row (by omega)) (rfl) (by omega)) rfl rfl rfl ?_
      refine W.rd (.vone (v := .int .i64 ((ns.getD k 0))) na3 rfl f0_4.vec iv_row (getS ns 0 (by first | omega | (simp only [List.length_cons, List.length_nil]; omega))) rfl) rfl rfl rfl ?_
      refine W.any (.assign rfl) rfl rfl rfl ?_
      refine W.nil ?_
      refine E.thenN ?_
      refine WC.seq ?_
      refine WC.region ?_
      refine W.any (.move rfl) rfl rfl rfl ?_
      refine W.any (.nilCheck rfl) rfl rfl rfl ?_
      refine W.any (.field0 fa117_0 rfl) rfl rfl rfl ?_
      refine W.rd (.loadB (v := .map (some ga)) na114 rfl f0_0 rfl) rfl rfl rfl ?_
      refine W.any (.move rfl) rfl rfl rfl ?_
      have hkn : k < ns.length := by omega
      obtain ⟨bq, gq, Aq, cq, p, heL, hg, hq, hO, hR, m1, m2, m3, m4, m5, m6, m7, m8, m9, m10⟩ := late_open hS f0_5 hpm hkn hold
      have hgq : gq < w.heap.size := hold _ heL gq (.inl rfl)
      have hpl : p.held.length ≤ 1000 := hhl _ heL
      refine W.rd (.as (.lookup1 (key := (ns.getD k 0)) Try.underlying114 kint z123 rfl rfl f0_1) (by rw [hg] <;> rfl)) rfl rfl rfl ?_
      refine W.any (.assign rfl) rfl rfl rfl ?_
      refine W.nil ?_
      refine E.thenN ?_
      refine WC.seq ?_
      refine WC.region ?_
      refine W.any (.move rfl) rfl rfl rfl ?_
      refine W.any (.nilCheck rfl) rfl rfl rfl ?_
      refine W.any (.field0 fa126_6 rfl) rfl rfl rfl ?_
      refine W.rd (.loadB (v := .bool (p.ovr)) na4 rfl hq rfl) rfl rfl rfl ?_
      refine W.any (.not rfl) rfl rfl rfl ?_
      by_cases q5_5 : p.ovr = true
      · refine W.any (.dec (.move rfl) (congrArg not (q5_5))) rfl rfl rfl ?_
        refine W.skip rfl rfl rfl (rfl) rfl rfl ?_
        refine W.skip rfl rfl rfl (rfl) rfl rfl ?_
        refine W.skip rfl rfl rfl (rfl) rfl rfl ?_
        refine W.skip rfl rfl rfl (rfl) rfl rfl ?_
        refine W.skip rfl rfl rfl (rfl) rfl rfl ?_
        refine W.skip rfl rfl rfl (rfl) rfl rfl ?_
        refine W.any (.pickF rfl rfl rfl) rfl rfl rfl ?_
        refine W.nil ?_
        refine E.thenN ?_
        refine WC.condF rfl ?_
        refine WC.skip ?_
        refine E.blkN ?_
        refine E.thenN ?_
        refine WC.region ?_
        refine W.any (.add rfl rfl (by omega)) rfl rfl rfl ?_
        refine W.any (.move rfl) rfl rfl rfl ?_
        refine W.nil ?_
        have hdu : dueP ht p = false := by unfold dueP; simp [c0, q5_5]
        have hno : outK ht L ns (k + 1) = outK ht L ns k := by rw [outK_next hS.names heL rfl hkn]; simp [hdu]
        refine E.again (k + 1, m, A, c) (.cons rfl (.cons rfl (.cons rfl (.cons rfl (.cons rfl (.cons rfl (.nil _))))))) ?_ ?_
        · exact ⟨by omega, by omega, Ll0, by have := sz0; omega, f0_0, f0_1, (by rw [hno]; exact f0_2), (f0_3.cast rfl hno.symm), f0_4, (late_close hS.names hR heL rfl hkn (by unfold lateE; simp only [hdu]; exact ⟨hq, hO⟩))⟩
        · first | omega | (simp only []; omega)
      · refine W.any (.dec (.move rfl) (congrArg not ((Bool.eq_false_iff.2 q5_5)))) rfl rfl rfl ?_
        refine W.rdg (Any.rd (.move rfl) _) rfl rfl rfl (rfl) rfl rfl ?_
        refine W.rdg (Any.rd (.nilCheck rfl) _) rfl rfl rfl (rfl) rfl rfl ?_
        refine W.rdg (Any.rd (.field0 fa126_2 rfl) _) rfl rfl rfl (rfl) rfl rfl ?_
        refine W.rdg (.loadB (v := .int .i64 (p.by_)) na3 rfl hq rfl) rfl rfl rfl (rfl) rfl rfl ?_
        refine W.rdg (Any.rd (.move rfl) _) rfl rfl rfl (rfl) rfl rfl ?_
        refine W.rdg (Any.rd (.leq rfl rfl) _) rfl rfl rfl (rfl) rfl rfl ?_
        refine W.any (.pickT rfl rfl rfl) rfl rfl rfl ?_
        refine W.nil ?_
        refine E.thenN ?_
        by_cases c1 : p.by_ ≤ ht
        · refine WC.condY rfl (decide_eq_true c1) ?_
          refine WC.region ?_
          refine W.any (.move rfl) rfl rfl rfl ?_
          refine W.any (.move rfl) rfl rfl rfl ?_
          refine W.any (.move rfl) rfl rfl rfl ?_
          refine W.ef rfl rfl rfl ?_
          refine Ef.call go65 rfl rfl (clear_ok (nq := p.held.length) p wl0 f0_0 hq f0_2 hO (by omega) m1 n2 m2 m6 m7) ?_
          rintro _ w6_3 ⟨rfl, bq6_3, bm6_3, h6_3⟩
          refine ⟨_, rfl, ?_⟩
          have L6 := Ll0.sub h6_3 (fun i hi hlt => by rcases hi with hi | hi <;> subst hi <;> first | (exact Or.inr ⟨_, heL, rfl⟩) | (exact Or.inl rfl))
          have f7 := (f0_3.chP h6_3 (fun q hqq hF => by rcases hF with hF | hF <;> subst hF <;> first | exact (fun he => by have := (f0_3.row he).1; have := hgq; have := L1.size; omega) hqq | exact (fun he => by have := (f0_3.row he).1; have := f2.lt; omega) hqq))
          have f8 := (hO.chP h6_3 (fun q hqq hF => by rcases hF with hF | hF <;> subst hF <;> first | exact m7 hqq | exact m6 hqq))
          refine W.ef rfl rfl rfl ?_
          refine Ef.vcat Try.underlying46 el33 Try.underlying46 partV_row rfl f7 rfl f8.vec (by omega) (by unfold maxLen; omega) (by have := lb0_6; have := h6_3.size; omega) ?_
          intro A6_4 c6_4 w6_4 o6_4 h6_4 at6_4
          have L9 : ChP w w6_4 (fun k => k = gh ∨ ∃ e ∈ L, k = e.g) := L6.ch h6_4 (fun i hi hlt => absurd hlt (by have := (f7.row hi).1; have := L1.size; omega))
          refine W.any (.assign rfl) rfl rfl rfl ?_
          refine W.nil ?_
          refine E.blkN ?_
          refine E.thenN ?_
          refine WC.region ?_
          refine W.any (.add rfl rfl (by omega)) rfl rfl rfl ?_
          refine W.any (.move rfl) rfl rfl rfl ?_
          refine W.nil ?_
          have f10 := (bq6_3.ch h6_4 (fun he => by have := (f0_3.row he).1; have := hgq; have := L1.size; omega))
          have hdu : dueP ht p = true := by unfold dueP; simp [c0, q5_5, c1]
          have hno : outK ht L ns (k + 1) = outK ht L ns k ++ p.held := by rw [outK_next hS.names heL rfl hkn]; simp only [hdu, if_true]
          have f11 := ((f0_0.chP h6_3 (fun hF => by rcases hF with hF | hF <;> first | exact m1 hF | exact n2 hF)).ch h6_4 (fun he => by have := (f7.row he).1; have := f4.lt; omega))
          have f12 := ((f0_1.chP h6_3 (fun hF => by rcases hF with hF | hF <;> first | exact m3 hF | exact n3 hF)).ch h6_4 (fun he => by have := (f7.row he).1; have := f5.lt; omega))
          have f13 := (bm6_3.ch h6_4 (fun he => by have := (f7.row he).1; have := f2.lt; omega))
          have f14 := ((f0_4.chP h6_3 (fun q hqq hF => by rcases hF with hF | hF <;> subst hF <;> first | exact (fun he => by have := (f0_4.row he).1; have := hgq; have := L0.size; omega) hqq | exact (fun he => by have := (f0_4.row he).1; have := hM.lt; omega) hqq)).ch h6_4 ((Apart.symm (fun q h1 h2 => by have := (hon.row h1).2; have := (f7.row h2).1; omega))))
          have f15 := ((hR.chP h6_3 (fun q hqq hF => by obtain ⟨ee, he, hh⟩ := hqq; rcases hF with hF | hF <;> subst hF <;> first | exact m8 ee he hh | exact m9 ee he hh)).ch h6_4 (fun q hqq ee he hh => by have := (f7.row hqq).1; have := m10 ee he _ hh; have := L1.size; omega))
          refine E.again (k + 1, m + p.held.length, A6_4, c6_4) (.cons rfl (.cons rfl (.cons rfl (.cons rfl (.cons rfl (.cons rfl (.nil _))))))) ?_ ?_
          · exact ⟨by omega, by omega, L9, by have := sz0; have := h6_3.size; have := h6_4.size; omega, f11, f12, (by rw [hno, ← delK_delK]; exact f13), (o6_4.cast rfl hno.symm), f14, (late_close hS.names f15 heL rfl hkn (by unfold lateE; simp only [hdu, if_true]; exact ⟨f10, OVec.nil _ _ _ _ _ _⟩))⟩
          · first | omega | (simp only []; omega)
        · refine WC.condN rfl (decide_eq_false c1) ?_
          refine WC.skip ?_
          refine E.blkN ?_
          refine E.thenN ?_
          refine WC.region ?_
          refine W.any (.add rfl rfl (by omega)) rfl rfl rfl ?_
          refine W.any (.move rfl) rfl rfl rfl ?_
          refine W.nil ?_
          have hdu : dueP ht p = false := by unfold dueP; simp [c0, q5_5, c1]
          have hno : outK ht L ns (k + 1) = outK ht L ns k := by rw [outK_next hS.names heL rfl hkn]; simp [hdu]
          refine E.again (k + 1, m, A, c) (.cons rfl (.cons rfl (.cons rfl (.cons rfl (.cons rfl (.cons rfl (.nil _))))))) ?_ ?_
          · exact ⟨by omega, by omega, Ll0, by have := sz0; omega, f0_0, f0_1, (by rw [hno]; exact f0_2), (f0_3.cast rfl hno.symm), f0_4, (late_close hS.names hR heL rfl hkn (by unfold lateE; simp only [hdu]; exact ⟨hq, hO⟩))⟩
          · first | omega | (simp only []; omega)
    · refine WC.condN rfl (decide_eq_false c0) ?_
      refine WC.exit ?_
      refine E.thenX ?_
      refine E.thenX ?_
      refine E.blkH ?_
      refine E.thenN ?_
      refine WC.seq ?_
      refine WC.region ?_
      refine W.any (.move rfl) rfl rfl rfl ?_
      refine W.any (.assign rfl) rfl rfl rfl ?_
      refine W.nil ?_
      refine E.thenN ?_
      refine WC.ret ?_
      refine E.retG1 rfl rfl ?_
      have ek : ns.length ≤ k := (by omega); have eo : outK ht L ns k = ns.flatMap (lateOut ht L) := (by unfold outK; rw [List.take_of_length_le ek]); exact ⟨ns, m, A, c, rfl, (by rw [laOf_names] at hpm; exact hpm), hpw, (by rw [← eo]; exact (f0_3.mono L1.size)), (by rw [← eo]; exact f0_2), (by rw [← lateL_all hpm ek]; exact f0_5), Ll0⟩
end Go.Proofs.Ytfgakofjkldcjaa

namespace Go.Proofs.Ytfgakofjkldcjaa
open Go Go.Sx Go.Hsp Go.Num Go.Osp Go.Gsp
set_option maxRecDepth 20000
set_option linter.unusedSimpArgs false
set_option linter.unusedVariables false
def trP (e : Ent) : Int × Pay := (e.name, e.pay)
def stOf (L : List Ent) : PSt := srtP (L.map trP)
structure PoolL (w : World) (gp ga gh : Nat) (L : List Ent) (lh : List (Nat × (Int × Int) × Bool)) (ca ck : Nat) : Prop where
  hp : Blk w gp 117 #[.map (some ga), .map (some gh)]
  hA : MapG w ikf ptf ga (laOf L) ca
  hM : MapG w ckf Value.bool gh lh ck
  hP : Pays w L
  hS : Sep gp ga gh L
  good : GoodP (stOf L)
  tru : ∀ z ∈ lh, z.2.2 = true
  hk : ∀ k, hkOf lh k = hkS (stOf L) k
def PF (gp ga gh : Nat) (L : List Ent) (k : Nat) : Prop := k = gp ∨ k = ga ∨ k = gh ∨ ∃ e ∈ L, e.has k
/-- A pool of a state, in the blocks F, all of them new behind 'base'. -/
def Pool (w : World) (base gp : Nat) (F : Nat → Prop) (s : PSt) : Prop := ∃ ga gh L lh ca ck, PoolL w gp ga gh L lh ca ck ∧ s = stOf L ∧ (∀ k, F k ↔ PF gp ga gh L k) ∧ ∀ k, F k → base ≤ k
section
variable {w w' : World} {gp ga gh : Nat} {L : List Ent} {lh : List (Nat × (Int × Int) × Bool)} {ca ck : Nat} {F : Nat → Prop} {s : PSt} {base : Nat}
theorem PoolL.chP {F' : Nat → Prop} (h : PoolL w gp ga gh L lh ca ck) (hc : ChP w w' F') (hne : ∀ k, PF gp ga gh L k → ¬ F' k) : PoolL w' gp ga gh L lh ca ck :=
  ⟨h.hp.chP hc (hne _ (.inl rfl)), h.hA.chP hc (hne _ (.inr (.inl rfl))), h.hM.chP hc (hne _ (.inr (.inr (.inl rfl)))), h.hP.chP hc (fun k hk => hne k (.inr (.inr (.inr hk)))), h.hS, h.good, h.tru, h.hk⟩
theorem PoolL.lt (h : PoolL w gp ga gh L lh ca ck) {k : Nat} (hk : PF gp ga gh L k) : k < w.heap.size := by
  rcases hk with rfl | rfl | rfl | ⟨e, he, hh⟩
  · exact h.hp.lt
  · exact h.hA.lt
  · exact h.hM.lt
  · exact h.hP.lt he hh
theorem Pool.chP {F' : Nat → Prop} (h : Pool w base gp F s) (hc : ChP w w' F') (hne : ∀ k, F k → ¬ F' k) : Pool w' base gp F s := by
  obtain ⟨ga, gh, L, lh, ca, ck, h1, h2, h3, h4⟩ := h
  exact ⟨ga, gh, L, lh, ca, ck, h1.chP hc (fun k hk => hne k ((h3 k).2 hk)), h2, h3, h4⟩
theorem Pool.ch {r : Option Nat} (h : Pool w base gp F s) (hc : Ch w w' r) (hne : ∀ k, r = some k → ¬ F k) : Pool w' base gp F s := h.chP (hc.chP (F := fun k => r = some k) (fun i hi => hi)) (fun k hk hr => hne k hr hk)
theorem Pool.le (h : Pool w base gp F s) (hl : Le w w') : Pool w' base gp F s := h.chP (hl.chP (fun _ => False)) (fun _ _ hf => hf)
theorem Pool.lt (h : Pool w base gp F s) {k : Nat} (hk : F k) : k < w.heap.size := by
  obtain ⟨ga, gh, L, lh, ca, ck, h1, h2, h3, h4⟩ := h
  exact h1.lt ((h3 k).1 hk)
theorem Pool.good (h : Pool w base gp F s) : GoodP s := by
  obtain ⟨ga, gh, L, lh, ca, ck, h1, rfl, h3, h4⟩ := h
  exact h1.good
theorem Pool.old (h : Pool w base gp F s) {k : Nat} (hk : F k) : base ≤ k := by
  obtain ⟨ga, gh, L, lh, ca, ck, h1, h2, h3, h4⟩ := h
  exact h4 k hk
theorem Pool.size (h : Pool w base gp F s) : base ≤ w.heap.size := by
  obtain ⟨ga, gh, L, lh, ca, ck, h1, h2, h3, h4⟩ := h
  have := h4 gp ((h3 gp).2 (.inl rfl))
  have := h1.hp.lt
  omega
end
theorem st_len (L : List Ent) : (stOf L).length = L.length := by rw [stOf, (srtP_perm _).length_eq, List.length_map]
theorem st_names (L : List Ent) : ((stOf L).map (·.1)).Perm (L.map (·.name)) := by
  refine ((srtP_perm _).map _).trans ?_
  rw [List.map_map]
  exact List.Perm.refl _
theorem st_mem {L : List Ent} {e : Ent} (he : e ∈ L) : (e.name, e.pay) ∈ stOf L := (srtP_perm _).mem_iff.2 (List.mem_map.2 ⟨e, he, rfl⟩)
theorem mem_st {L : List Ent} {n : Int} {p : Pay} (h : (n, p) ∈ stOf L) : ∃ e ∈ L, e.name = n ∧ e.pay = p := by
  obtain ⟨e, he, e1⟩ := List.mem_map.1 ((srtP_perm _).mem_iff.1 h)
  simp only [trP, Prod.mk.injEq] at e1
  exact ⟨e, he, e1.1, e1.2⟩
theorem get_none {L : List Ent} {n : Int} (h : getP n (stOf L) = none) : getG n (laOf L) = none := by
  rw [getG_none]
  intro x hx
  obtain ⟨e, he, rfl⟩ := List.mem_map.1 hx
  exact getP_none.1 h _ (st_mem he)
theorem get_some {L : List Ent} {n : Int} {p : Pay} (hN : (L.map (·.name)).Nodup) (h : getP n (stOf L) = some p) : ∃ e ∈ L, e.name = n ∧ e.pay = p ∧ getG n (laOf L) = some e.g := by
  obtain ⟨e, he, rfl, rfl⟩ := mem_st (getP_mem h)
  exact ⟨e, he, rfl, rfl, getG_laOf hN he⟩
theorem over_pool {w : World} {base gp : Nat} {F : Nat → Prop} {s : PSt} (nm : Int) (h : Pool w base gp F s) : Calls Try.prog 25 #[.pointer (some ⟨gp, 0, none⟩), .int .i64 nm] w fun r w' => r = .returned (.tuple #[.bool (overP s nm).1, .bool (overP s nm).2]) ∧ Le w w' := by
  obtain ⟨ga, gh, L, lh, ca, ck, h1, rfl, h3, h4⟩ := h
  unfold overP
  cases hg : getP nm (stOf L) with
  | none => exact over_none nm w h1.hp h1.hA (get_none hg)
  | some p =>
    obtain ⟨e, he, rfl, rfl, hgg⟩ := get_some h1.hS.names hg
    exact over_some e.name e.pay w h1.hp h1.hA hgg (h1.hP e he).1
theorem held_pool {w : World} {base gp : Nat} {F : Nat → Prop} {s : PSt} (nm : Int) (h : Pool w base gp F s) : Calls Try.prog 29 #[.pointer (some ⟨gp, 0, none⟩), .int .i64 nm] w fun r w' => ∃ (A : Option Addr) (c : Nat), r = .returned (.slice A (heldP s nm).length c) ∧ OVec w' w.heap.size 33 partV 6 A (heldP s nm).length c (heldP s nm) ∧ Le w w' := by
  obtain ⟨ga, gh, L, lh, ca, ck, h1, rfl, h3, h4⟩ := h
  unfold heldP
  cases hg : getP nm (stOf L) with
  | none => exact held_none nm w h1.hp h1.hA (get_none hg)
  | some p =>
    obtain ⟨e, he, rfl, rfl, hgg⟩ := get_some h1.hS.names hg
    have := (h1.good.pay _ (st_mem he)).few
    exact held_some e.name e.pay w h1.hp h1.hA hgg (h1.hP e he).1 (h1.hP e he).2.vec (by simp only at this; omega)
theorem names_pool {w : World} {base gp : Nat} {F : Nat → Prop} {s : PSt} (h : Pool w base gp F s) (hl : s.length ≤ 1000) : Calls Try.prog 27 #[.pointer (some ⟨gp, 0, none⟩)] w fun r w' => ∃ (A : Option Addr) (c : Nat), r = .returned (.slice A s.length c) ∧ OVec w' w.heap.size 3 iv 1 A s.length c (s.map (·.1)) ∧ Le w w' := by
  obtain ⟨ga, gh, L, lh, ca, ck, h1, rfl, h3, h4⟩ := h
  have hr : ∀ x ∈ laOf L, inI x.2.1 := by
    intro x hx
    obtain ⟨e, he, rfl⟩ := List.mem_map.1 hx
    have := h1.good.nat _ (st_mem he)
    unfold inI
    simp only at this ⊢
    omega
  have e1 : (laOf L).length = (stOf L).length := by rw [st_len]; simp [laOf]
  refine Calls.mono (names_ok w h1.hp h1.hA hr (by omega)) ?_
  rintro r w' ⟨A, c, ns, rfl, hpm, hpw, ho, hL⟩
  have : ns = (stOf L).map (·.1) := by
    rw [laOf_names] at hpm
    exact sorted_one (hpm.trans (st_names L).symm) hpw (List.pairwise_map.2 h1.good.srt)
  subst this
  rw [e1] at ho ⊢
  exact ⟨A, c, rfl, ho, hL⟩
end Go.Proofs.Ytfgakofjkldcjaa

namespace Go.Proofs.Ytfgakofjkldcjaa
open Go Go.Sx Go.Hsp Go.Num Go.Osp Go.Gsp
set_option maxRecDepth 20000
set_option linter.unusedSimpArgs false
set_option linter.unusedVariables false
def updE (L : List Ent) (e' : Ent) : List Ent := L.map fun x => if x.name = e'.name then e' else x
section
variable {w w' : World} {gp ga gh : Nat} {L : List Ent} {lh lh' : List (Nat × (Int × Int) × Bool)} {ca ck ck' : Nat}
theorem updE_la {L : List Ent} {e e' : Ent} (hN : (L.map (·.name)).Nodup) (he : e ∈ L) (hn : e'.name = e.name) (hb : e'.born = e.born) (hg : e'.g = e.g) : laOf (updE L e') = laOf L := by
  unfold laOf updE
  rw [List.map_map]
  apply List.map_congr_left
  intro x hx
  simp only [Function.comp]
  by_cases h : x.name = e'.name
  · rw [if_pos h]
    have := nodup_name hN hx he (h.trans hn)
    subst this
    rw [hn, hb, hg]
  · rw [if_neg h]
theorem updE_st {L : List Ent} {e e' : Ent} (hn : e'.name = e.name) : stOf (updE L e') = updP e.name e'.pay (stOf L) := by
  unfold stOf updE updP
  rw [← srtP_map _ (updP_fst e.name e'.pay), List.map_map, List.map_map]
  congr 1
  apply List.map_congr_left
  intro x hx
  show trP (if x.name = e'.name then e' else x) = if (trP x).1 = e.name then (e.name, e'.pay) else trP x
  by_cases h : x.name = e.name
  · rw [if_pos (h.trans hn.symm), if_pos (show (trP x).1 = e.name from h)]
    simp [trP, hn]
  · rw [if_neg (fun hh => h (hh.trans hn)), if_neg (show ¬ (trP x).1 = e.name from h)]
theorem updE_mem {L : List Ent} {e' x : Ent} (h : x ∈ updE L e') : x = e' ∨ (x ∈ L ∧ x.name ≠ e'.name) := by
  obtain ⟨y, hy, rfl⟩ := List.mem_map.1 h
  by_cases h : y.name = e'.name
  · rw [if_pos h]; exact .inl rfl
  · rw [if_neg h]; exact .inr ⟨hy, h⟩
theorem PoolL.step {e e' : Ent} (h : PoolL w gp ga gh L lh ca ck) (he : e ∈ L) (hn : e'.name = e.name) (hb : e'.born = e.born) (hg : e'.g = e.g) (hc : ChP w w' (fun k => k = e.g ∨ k = gh ∨ rowOf e.A e.c = some k)) (hB : PayAt w' e')
    (hat : ∀ k, rowOf e'.A e'.c = some k → rowOf e.A e.c = some k ∨ w.heap.size ≤ k) (hM' : MapG w' ckf Value.bool gh lh' ck') (tru' : ∀ z ∈ lh', z.2.2 = true) (good' : GoodP (updP e.name e'.pay (stOf L))) (hk' : ∀ k, hkOf lh' k = hkS (updP e.name e'.pay (stOf L)) k) :
    PoolL w' gp ga gh (updE L e') lh' ca ck' ∧ stOf (updE L e') = updP e.name e'.pay (stOf L) ∧ (∀ k, PF gp ga gh (updE L e') k → PF gp ga gh L k ∨ (w.heap.size ≤ k ∧ rowOf e'.A e'.c = some k)) := by
  have hS := h.hS
  have hst := updE_st (L := L) hn
  have has' : ∀ k, e'.has k → e.has k ∨ w.heap.size ≤ k := by
    intro k hk
    rcases hk with hk | hk
    · exact .inl (.inl (hk.trans hg))
    · exact (hat k hk).imp_left .inr
  have hlt : ∀ x ∈ L, ∀ k, x.has k → k < w.heap.size := fun x hx k hk => h.hP.lt hx hk
  have ltp := h.hp.lt
  have lta := h.hA.lt
  have lth := h.hM.lt
  refine ⟨⟨?_, ?_, hM', ?_, ⟨?_, ?_, ?_, ?_, ?_, ?_, hS.pa, hS.ph, hS.ah⟩, by rw [hst]; exact good', tru', by rw [hst]; exact hk'⟩, hst, ?_⟩
  · refine h.hp.chP hc ?_
    rintro (hh | hh | hh)
    · exact hS.p e he (.inl hh)
    · exact hS.ph hh
    · exact hS.p e he (.inr hh)
  · rw [updE_la hS.names he hn hb hg]
    refine h.hA.chP hc ?_
    rintro (hh | hh | hh)
    · exact hS.a e he (.inl hh)
    · exact hS.ah hh
    · exact hS.a e he (.inr hh)
  · intro x hx
    rcases updE_mem hx with rfl | ⟨hx, hxn⟩
    · exact hB
    · refine (h.hP x hx).chP hc ?_
      intro k hk hF
      have := hS.pw x hx e he (fun hh => hxn (hh.trans hn.symm)) k hk
      rcases hF with rfl | rfl | hF
      · exact this (.inl rfl)
      · exact hS.h x hx hk
      · exact this (.inr hF)
  · have : (updE L e').map (·.name) = L.map (·.name) := by
      unfold updE
      rw [List.map_map]
      apply List.map_congr_left
      intro x hx
      simp only [Function.comp]
      by_cases hh : x.name = e'.name
      · rw [if_pos hh]; exact hh.symm
      · rw [if_neg hh]
    rw [this]
    exact hS.names
  · intro a ha b hb' hab k hka hkb
    rcases updE_mem ha with ea | ⟨ha2, han⟩ <;> rcases updE_mem hb' with eb | ⟨hb2, hbn⟩
    · exact hab (by rw [ea, eb])
    · rw [ea] at hka
      rcases has' k hka with h1 | h1
      · exact hS.pw e he b hb2 (fun hh => hbn (hh.symm.trans hn.symm)) k h1 hkb
      · have := hlt b hb2 k hkb; omega
    · rw [eb] at hkb
      rcases has' k hkb with h1 | h1
      · exact hS.pw a ha2 e he (fun hh => han (hh.trans hn.symm)) k hka h1
      · have := hlt a ha2 k hka; omega
    · exact hS.pw a ha2 b hb2 hab k hka hkb
  · intro x hx
    rcases updE_mem hx with rfl | ⟨hx, hxn⟩
    · intro hh
      rw [hg] at hh
      rcases hat _ hh with h1 | h1
      · exact hS.own e he h1
      · have := hlt e he e.g (.inl rfl); omega
    · exact hS.own x hx
  · intro x hx hh
    rcases updE_mem hx with rfl | ⟨hx, hxn⟩
    · rcases has' _ hh with h1 | h1
      · exact hS.p e he h1
      · omega
    · exact hS.p x hx hh
  · intro x hx hh
    rcases updE_mem hx with rfl | ⟨hx, hxn⟩
    · rcases has' _ hh with h1 | h1
      · exact hS.a e he h1
      · omega
    · exact hS.a x hx hh
  · intro x hx hh
    rcases updE_mem hx with rfl | ⟨hx, hxn⟩
    · rcases has' _ hh with h1 | h1
      · exact hS.h e he h1
      · omega
    · exact hS.h x hx hh
  · intro k hk
    rcases hk with hk | hk | hk | ⟨x, hx, hk⟩
    · exact .inl (.inl hk)
    · exact .inl (.inr (.inl hk))
    · exact .inl (.inr (.inr (.inl hk)))
    · rcases updE_mem hx with rfl | ⟨hx, hxn⟩
      · rcases hk with h1 | h1
        · exact .inl (.inr (.inr (.inr ⟨e, he, .inl (h1.trans hg)⟩)))
        · rcases hat k h1 with h2 | h2
          · exact .inl (.inr (.inr (.inr ⟨e, he, .inr h2⟩)))
          · exact .inr ⟨h2, h1⟩
      · exact .inl (.inr (.inr (.inr ⟨x, hx, hk⟩)))
end
theorem updP_self {n : Int} {p : Pay} {s : PSt} (hn : (s.map (·.1)).Nodup) (h : getP n s = some p) : updP n p s = s := by
  obtain ⟨a, b, e1, e2⟩ := getP_split hn h
  rw [e2 p]
  exact e1.symm
theorem hk_self {n : Int} {p : Pay} {s : PSt} (hn : (s.map (·.1)).Nodup) (h : getP n s = some p) (k : Int × Int) : k ∈ keysS s ↔ (k ∈ p.held.map keyP ∨ (∃ y ∈ s, y.1 ≠ n ∧ k ∈ y.2.held.map keyP)) := by
  have := hk_upd (p' := p) hn h k
  rwa [updP_self hn h] at this
theorem hkOf_push {lh : List (Nat × (Int × Int) × Bool)} {ck : Nat} {key k : Int × Int} (hn : getG key lh = none) : hkOf (lh ++ [(ck, key, true)]) k = true ↔ (k = key ∨ hkOf lh k = true) := by
  unfold hkOf
  rw [getG_push hn]
  by_cases h : k = key
  · simp [h]
  · simp [h]
theorem getG_delK {l : List Part} {m : List (Nat × (Int × Int) × Bool)} {k : Int × Int} : hkOf (delK l m) k = true ↔ (k ∉ l.map keyP ∧ hkOf m k = true) := by
  unfold hkOf delK
  rw [getG_eq, getG_eq]
  induction m with
  | nil => simp
  | cons y m ih =>
    by_cases hk : y.2.1 = k
    · by_cases hl : k ∈ l.map keyP
      · have : (l.any fun p => decide (y.2.1 = keyP p)) = true := by
          obtain ⟨x, hx, e⟩ := List.mem_map.1 hl
          exact List.any_eq_true.2 ⟨x, hx, by simp [hk, e]⟩
        rw [List.filter_cons, if_neg (by simp [this]), ih]
        simp [hl]
      · have : (l.any fun p => decide (y.2.1 = keyP p)) = false := by
          rw [List.any_eq_false]
          intro x hx
          simp only [decide_eq_true_eq]
          intro e
          exact hl (List.mem_map.2 ⟨x, hx, by rw [← e, hk]⟩)
        rw [List.filter_cons, if_pos (by simp [this])]
        simp only [List.find?_cons, hk, decide_true]
        simp only [hl, not_false_eq_true, true_and]
    · rw [List.find?_cons, List.filter_cons]
      simp only [hk, decide_false]
      split
      · rw [List.find?_cons]
        simp only [hk, decide_false]
        exact ih
      · exact ih
theorem mono_true {lh : List (Nat × (Int × Int) × Bool)} (h : ∀ z ∈ lh, z.2.2 = true) (ck : Nat) (key : Int × Int) : ∀ z ∈ lh ++ [(ck, key, true)], z.2.2 = true := by
  intro z hz
  rcases List.mem_append.1 hz with hz | hz
  · exact h z hz
  · simp at hz; rw [hz]
theorem delK_true {lh : List (Nat × (Int × Int) × Bool)} (h : ∀ z ∈ lh, z.2.2 = true) (l : List Part) : ∀ z ∈ delK l lh, z.2.2 = true := fun z hz => h z (List.mem_filter.1 hz).1
/-- What comes of an act: the pool's blocks are the old ones, or new. -/
def Grown (w : World) (F F' : Nat → Prop) : Prop := ∀ k, F' k → F k ∨ w.heap.size ≤ k
theorem Pool.mk' {w w' : World} {base gp ga gh : Nat} {F : Nat → Prop} {L L' : List Ent} {lh' : List (Nat × (Int × Int) × Bool)} {ca' ck' : Nat} {s' : PSt} (h : PoolL w' gp ga gh L' lh' ca' ck') (hs : s' = stOf L') (hF : ∀ k, F k ↔ PF gp ga gh L k) (hb : ∀ k, F k → base ≤ k) (hbw : base ≤ w.heap.size) (hg : ∀ k, PF gp ga gh L' k → PF gp ga gh L k ∨ w.heap.size ≤ k) :
    ∃ F', Pool w' base gp F' s' ∧ Grown w F F' ∧ ∀ k, F' k → PF gp ga gh L' k := by
  refine ⟨PF gp ga gh L', ⟨ga, gh, L', lh', ca', ck', h, hs, fun _ => Iff.rfl, fun k hk => ?_⟩, fun k hk => (hg k hk).imp_left (fun q => (hF k).2 q), fun _ hk => hk⟩
  rcases hg k hk with h1 | h1
  · exact hb k ((hF k).2 h1)
  · omega
theorem add_pool {w : World} {base gp : Nat} {F : Nat → Prop} {s : PSt} (nm : Int) (y : Part) (ht : Int) (h : Pool w base gp F s) : Calls Try.prog 19 #[.pointer (some ⟨gp, 0, none⟩), .int .i64 nm, .agg (partV y).toArray, .int .i64 ht] w fun r w' =>
    ∃ (F' : Nat → Prop) (A : Option Addr) (c : Nat), r = .returned (.tuple #[.slice A (addT s nm y ht).2.1.length c, .int .i64 (addT s nm y ht).2.2]) ∧ OVec w' w.heap.size 57 paidV 3 A (addT s nm y ht).2.1.length c (addT s nm y ht).2.1 ∧ Pool w' base gp F' (addT s nm y ht).1 ∧ Grown w F F' ∧ (∀ g, rowOf A c = some g → ¬ F' g) ∧ ChP w w' F := by
  have hbw := h.size
  obtain ⟨ga, gh, L, lh, ca, ck, h1, rfl, h3, h4⟩ := h
  cases hg : getP nm (stOf L) with
  | none =>
    have e : addT (stOf L) nm y ht = (stOf L, [], 5) := by unfold addT; rw [hg]
    rw [e]
    refine Calls.mono (add_none (lh := lh) (ck := ck) nm y ht w h1.hp h1.hA (get_none hg)) ?_
    rintro r w' ⟨rfl, hL⟩
    have h1' := h1.chP (hL.chP (fun _ => False)) (fun _ _ hf => hf)
    obtain ⟨F', hP, hG, hFF⟩ := Pool.mk' (w := w) h1' rfl h3 h4 hbw (fun k hk => .inl hk)
    exact ⟨F', none, 0, rfl, OVec.nil _ _ _ _ _ _, hP, hG, by simp [rowOf], hL.chP F⟩
  | some p =>
    obtain ⟨e, he, hen, hep, hgg⟩ := get_some h1.hS.names hg
    have hS := h1.hS
    have hnd := h1.good.names
    have hpo := h1.good.pay _ (getP_mem hg)
    have hfew : p.held.length ≤ 8 := hpo.few
    have hkeq : hkOf lh = hkS (stOf L) := funext h1.hk
    obtain ⟨b, n, g, A, c, p0⟩ := e
    simp only at hen hep
    subst hen hep
    have hq := h1.hP _ he
    have hcF : ∀ k, (k = g ∨ k = gh ∨ rowOf A c = some k) → k < w.heap.size → F k := by
      intro k hk _
      refine (h3 k).2 ?_
      rcases hk with rfl | rfl | hk
      · exact .inr (.inr (.inr ⟨_, he, .inl rfl⟩))
      · exact .inr (.inr (.inl rfl))
      · exact .inr (.inr (.inr ⟨_, he, .inr hk⟩))
    refine Calls.mono (add_some n p0 y ht w h1.hp h1.hA hgg hq.1 h1.hM hq.2 (by omega) h1.tru (fun hh => hS.p _ he (.inl hh)) hS.ph (fun hh => hS.h _ he (.inl hh.symm)) (fun hh => hS.h _ he (.inr hh)) (fun hh => hS.own _ he hh) (fun hh => hS.p _ he (.inr hh)) (fun hh => hS.a _ he (.inr hh)) (fun hh => hS.a _ he (.inl hh)) hS.ah) ?_
    rw [hkeq]
    rintro r w' ⟨hc, hr⟩
    have hcw := hc.mono hcF
    have hgood := h1.good.add n y ht
    rcases hr with ⟨hm, rfl, b1, b2, b3⟩ | ⟨hm, hlt, rfl, A', c', hat, b1, b2, b3⟩ | ⟨hm, hlt, A', c', rfl, b0, b1, b3⟩
    · have e : addT (stOf L) n y ht = (stOf L, [], (mayP p0 (hkS (stOf L)) y ht).2) := by unfold addT; rw [hg]; simp only [hm, ne_eq, not_false_eq_true, if_true]
      rw [e]
      obtain ⟨q1, q2, q3⟩ := h1.step (e' := ⟨b, n, g, A, c, p0⟩) he rfl rfl rfl hc ⟨b1, b2⟩ (fun k hk => .inl hk) b3 h1.tru (by rw [updP_self hnd hg]; exact h1.good) (by rw [updP_self hnd hg]; exact h1.hk)
      obtain ⟨F', hP, hG, hFF⟩ := Pool.mk' (w := w) q1 (by rw [q2, updP_self hnd hg]) h3 h4 hbw (fun k hk => (q3 k hk).imp_right And.left)
      exact ⟨F', none, 0, rfl, OVec.nil _ _ _ _ _ _, hP, hG, by simp [rowOf], hcw⟩
    · have e : addT (stOf L) n y ht = (updP n { p0 with held := p0.held ++ [y], sum := (mayP p0 (hkS (stOf L)) y ht).1 } (stOf L), [], 0) := by unfold addT; rw [hg]; simp only [hm, ne_eq, not_true_eq_false, if_false, hlt, if_true]
      rw [e] at hgood ⊢
      have hnone : getG (keyP y) lh = none := getD_false h1.tru (by have := (mayP_ok hm).2.2.2.2.2.1; rw [← h1.hk] at this; exact this)
      have hl : (p0.held ++ [y]).length = p0.held.length + 1 := by simp
      obtain ⟨q1, q2, q3⟩ := h1.step (e' := ⟨b, n, g, A', c', { p0 with held := p0.held ++ [y], sum := (mayP p0 (hkS (stOf L)) y ht).1 }⟩) he rfl rfl rfl hc ⟨by unfold Ent.arr; simp only [hl]; exact b1, by simp only [hl]; exact b2⟩ hat b3 (mono_true h1.tru _ _) hgood (by
        intro k
        rw [Bool.eq_iff_iff, hkOf_push hnone, hkS_iff, hk_upd hnd hg, h1.hk, hkS_iff, hk_self hnd hg]
        simp only [List.map_append, List.mem_append, List.map_cons, List.map_nil, List.mem_singleton]
        constructor
        · rintro (h | h | h)
          · exact .inl (.inr h)
          · exact .inl (.inl h)
          · exact .inr h
        · rintro ((h | h) | h)
          · exact .inr (.inl h)
          · exact .inl h
          · exact .inr (.inr h))
      obtain ⟨F', hP, hG, hFF⟩ := Pool.mk' (w := w) q1 q2.symm h3 h4 hbw (fun k hk => (q3 k hk).imp_right And.left)
      exact ⟨F', none, 0, rfl, OVec.nil _ _ _ _ _ _, hP, hG, by simp [rowOf], hcw⟩
    · have e : addT (stOf L) n y ht = (updP n { p0 with held := [], sum := (mayP p0 (hkS (stOf L)) y ht).1, ovr := true, paid := true } (stOf L), (p0.held ++ [y]).map (paidOf p0.sec), 0) := by unfold addT; rw [hg]; simp only [hm, ne_eq, not_true_eq_false, if_false, hlt]
      rw [e] at hgood ⊢
      have hkx : keyP y ∉ keysS (stOf L) := fun hh => by have := (mayP_ok hm).2.2.2.2.2.1; rw [(hkS_iff _ _).2 hh] at this; cases this
      have hnone : getG (keyP y) lh = none := getD_false h1.tru (by have := (mayP_ok hm).2.2.2.2.2.1; rw [← h1.hk] at this; exact this)
      have hl : ((p0.held ++ [y]).map (paidOf p0.sec)).length = p0.held.length + 1 := by simp
      obtain ⟨q1, q2, q3⟩ := h1.step (e' := ⟨b, n, g, none, 0, { p0 with held := [], sum := (mayP p0 (hkS (stOf L)) y ht).1, ovr := true, paid := true }⟩) he rfl rfl rfl hc ⟨b1, OVec.nil _ _ _ _ _ _⟩ (by simp [rowOf]) b3 (delK_true (mono_true h1.tru _ _) _) hgood (by
        intro k
        rw [Bool.eq_iff_iff, getG_delK, hkOf_push hnone, hkS_iff, hk_upd hnd hg, h1.hk, hkS_iff, hk_self hnd hg]
        simp only [List.map_append, List.mem_append, List.map_cons, List.map_nil, List.mem_singleton, List.not_mem_nil, false_or, not_or]
        constructor
        · rintro ⟨⟨h5, h6⟩, h | h | h⟩
          · exact absurd h h6
          · exact absurd h h5
          · exact h
        · rintro ⟨z, hz, hzn, hzk⟩
          refine ⟨⟨keys_part hnd h1.good.keys hg hz hzn hzk, fun hh => hkx ?_⟩, .inr (.inr ⟨z, hz, hzn, hzk⟩)⟩
          rw [← hh]
          exact (hk_self hnd hg k).2 (.inr ⟨z, hz, hzn, hzk⟩))
      obtain ⟨F', hP, hG, hFF⟩ := Pool.mk' (w := w) q1 q2.symm h3 h4 hbw (fun k hk => (q3 k hk).imp_right And.left)
      simp only [hl]
      refine ⟨F', A', c', rfl, b0, hP, hG, fun g hg2 hF' => ?_, hcw⟩
      have hge := (b0.row hg2).1
      rcases q3 g (hFF g hF') with h5 | h5
      · have := h1.lt h5; omega
      · simp [rowOf] at h5
end Go.Proofs.Ytfgakofjkldcjaa

namespace Go.Proofs.Ytfgakofjkldcjaa
open Go Go.Sx Go.Hsp Go.Num Go.Osp Go.Gsp
set_option maxRecDepth 20000
set_option linter.unusedSimpArgs false
set_option linter.unusedVariables false
theorem new_ok (w : World) : Calls Try.prog 15 #[] w fun r w' => ∃ gp ga gh, r = .returned (.pointer (some ⟨gp, 0, none⟩)) ∧ Blk w' gp 117 #[.map (some ga), .map (some gh)] ∧ MapG w' ikf ptf ga [] 0 ∧ MapG w' ckf Value.bool gh [] 0 ∧ gp ≠ ga ∧ gp ≠ gh ∧ ga ≠ gh ∧ w.heap.size ≤ gp ∧ w.heap.size ≤ ga ∧ w.heap.size ≤ gh ∧ Le w w' := by
  refine enter Try.func15 rfl rfl ?_
  have L0 := Le.refl w
  refine WC.seq ?_
  refine WC.region ?_
  refine W.any (.assign rfl) rfl rfl rfl ?_
  refine W.nil ?_
  refine E.thenN ?_
  refine WC.seq ?_
  refine WC.region ?_
  refine W.ef rfl rfl rfl ?_
  refine Ef.makeMapG ikf ptf ?_
  intro g1_0 w1_0 hg1_0 b1_0 h1_0
  have L1 := L0.trans h1_0
  refine W.ef rfl rfl rfl ?_
  refine Ef.makeMapG ckf Value.bool ?_
  intro g1_1 w1_1 hg1_1 b1_1 h1_1
  have L2 := L1.trans h1_1
  refine W.any (.buildP [.map (some g1_0), .map (some g1_1)] pl117 z117 rfl rfl) rfl rfl rfl ?_
  refine W.ef rfl rfl rfl ?_
  refine Ef.boxA rfl ?_
  intro g1_3 w1_3 hg1_3 b1_3 h1_3
  have L3 := L2.trans h1_3
  have b1_3 : Blk w1_3 g1_3 117 #[.map (some g1_0), .map (some g1_1)] := b1_3
  refine W.any (.assign rfl) rfl rfl rfl ?_
  refine W.nil ?_
  refine E.thenN ?_
  refine WC.ret ?_
  have f4 := (b1_0.le (h1_1.trans h1_3))
  have f5 := (b1_1.le h1_3)
  refine E.retG1 rfl rfl ?_
  exact ⟨_, _, _, rfl, b1_3, f4, f5, (show g1_3 ≠ g1_0 from by have := b1_0.lt; have := h1_1.size; omega), (show g1_3 ≠ g1_1 from by have := b1_1.lt; omega), (show g1_0 ≠ g1_1 from by have := b1_0.lt; omega), (by have := hg1_3; have := L2.size; omega), (by have := hg1_0; have := L0.size; omega), (by have := hg1_1; have := L1.size; omega), L3⟩
theorem new_pool (w : World) : Calls Try.prog 15 #[] w fun r w' => ∃ (gp : Nat) (F : Nat → Prop), r = .returned (.pointer (some ⟨gp, 0, none⟩)) ∧ Pool w' w.heap.size gp F [] ∧ Le w w' := by
  refine Calls.mono (new_ok w) ?_
  rintro r w' ⟨gp, ga, gh, rfl, h1, h2, h3, n1, n2, n3, g1, g2, g3, hL⟩
  refine ⟨gp, PF gp ga gh [], rfl, ⟨ga, gh, [], [], 0, 0, ⟨h1, h2, h3, fun _ h => (by cases h), ⟨by simp, by simp, by simp, by simp, by simp, by simp, n1, n2, n3⟩, GoodP.nil, by simp, fun k => rfl⟩, rfl, fun _ => Iff.rfl, ?_⟩, hL⟩
  rintro k (rfl | rfl | rfl | ⟨e, he, _⟩)
  · exact g1
  · exact g2
  · exact g3
  · cases he
theorem laOf_snoc (L : List Ent) (e : Ent) : laOf (L ++ [e]) = laOf L ++ [(e.born, e.name, e.g)] := by simp [laOf]
theorem want_pool {w : World} {base gp : Nat} {F : Nat → Prop} {s : PSt} (nm : Int) (sc : Nat) (to by_ le : Int) (hnm : nm ≤ 9223372036854775807) (h : Pool w base gp F s) : Calls Try.prog 17 #[.pointer (some ⟨gp, 0, none⟩), .int .i64 nm, .int .u64 ((sc : Nat) : Int), .int .i64 to, .int .i64 by_, .int .i64 le] w fun r w' =>
    ∃ (F' : Nat → Prop), r = .returned (.int .i64 (wantS s nm sc to by_ le).2) ∧ Pool w' base gp F' (wantS s nm sc to by_ le).1 ∧ Grown w F F' ∧ ChP w w' F := by
  have hbw := h.size
  have hgood := h.good.want nm sc to by_ le hnm
  obtain ⟨ga, gh, L, lh, ca, ck, h1, rfl, h3, h4⟩ := h
  cases hg : getP nm (stOf L) with
  | some p =>
    obtain ⟨e, he, hen, hep, hgg⟩ := get_some h1.hS.names hg
    refine Calls.mono (want_some nm sc to by_ le w h1.hp h1.hA hgg) ?_
    rintro r w' ⟨rfl, hL⟩
    have e2 : wantS (stOf L) nm sc to by_ le = (stOf L, if wantOk nm sc to by_ le then 4 else 1) := by
      unfold wantS
      split
      · rw [hg]; rfl
      · rfl
    rw [e2]
    have h1' := h1.chP (hL.chP (fun _ => False)) (fun _ _ hf => hf)
    obtain ⟨F', hP, hG, _⟩ := Pool.mk' (w := w) h1' rfl h3 h4 hbw (fun k hk => .inl hk)
    exact ⟨F', rfl, hP, hG, hL.chP F⟩
  | none =>
    have hS := h1.hS
    refine Calls.mono (want_none nm sc to by_ le w h1.hp h1.hA (get_none hg) hS.pa) ?_
    rintro r w' ⟨hc, hr⟩
    have hcF : ChP w w' F := hc.mono (fun k hk _ => (h3 k).2 (by subst hk; exact .inr (.inl rfl)))
    have b1 := h1.hp.chP hc hS.pa
    have b2 := h1.hM.chP hc (fun hh => hS.ah hh.symm)
    have b3 : Pays w' L := h1.hP.chP hc (fun k hk hh => by subst hh; obtain ⟨e, he, hh⟩ := hk; exact hS.a e he hh)
    rcases hr with ⟨hw, rfl, hA⟩ | ⟨hw, rfl, g, hgs, hB, hA⟩
    · have e2 : wantS (stOf L) nm sc to by_ le = (stOf L, 1) := by unfold wantS; rw [if_neg hw]
      rw [e2]
      obtain ⟨F', hP, hG, _⟩ := Pool.mk' (w := w) (L' := L) ⟨b1, hA, b2, b3, hS, h1.good, h1.tru, h1.hk⟩ rfl h3 h4 hbw (fun k hk => .inl hk)
      exact ⟨F', rfl, hP, hG, hcF⟩
    · have e2 : wantS (stOf L) nm sc to by_ le = (insP (nm, newP sc to by_ le) (stOf L), 0) := by unfold wantS; rw [if_pos hw, hg]; rfl
      rw [e2] at hgood ⊢
      have est : stOf (L ++ [⟨ca, nm, g, none, 0, newP sc to by_ le⟩]) = insP (nm, newP sc to by_ le) (stOf L) := by unfold stOf; rw [List.map_append]; exact srtP_snoc _ _
      have hlt : ∀ x ∈ L, ∀ k, x.has k → k < w.heap.size := fun x hx k hk => h1.hP.lt hx hk
      have hnew : ∀ k, (⟨ca, nm, g, none, 0, newP sc to by_ le⟩ : Ent).has k → k = g := by
        rintro k (hk | hk)
        · exact hk
        · simp [rowOf] at hk
      have hmem : ∀ x ∈ L ++ [(⟨ca, nm, g, none, 0, newP sc to by_ le⟩ : Ent)], x ∈ L ∨ x = ⟨ca, nm, g, none, 0, newP sc to by_ le⟩ := fun x hx => by simpa using hx
      have ltp := h1.hp.lt
      have lta := h1.hA.lt
      have lth := h1.hM.lt
      have hL' : PoolL w' gp ga gh (L ++ [⟨ca, nm, g, none, 0, newP sc to by_ le⟩]) lh (ca + 1) ck := by
        refine ⟨b1, by rw [laOf_snoc]; exact hA, b2, ?_, ⟨?_, ?_, ?_, ?_, ?_, ?_, hS.pa, hS.ph, hS.ah⟩, by rw [est]; exact hgood, h1.tru, ?_⟩
        · intro x hx
          rcases hmem x hx with hx | rfl
          · exact b3 x hx
          · exact ⟨hB, OVec.nil _ _ _ _ _ _⟩
        · rw [List.map_append, List.nodup_append]
          refine ⟨hS.names, by simp, ?_⟩
          intro a ha b hb
          simp at hb
          subst hb
          obtain ⟨x, hx, rfl⟩ := List.mem_map.1 ha
          exact getP_none.1 hg _ (st_mem hx)
        · intro a ha b hb hab k hka hkb
          rcases hmem a ha with ha | rfl <;> rcases hmem b hb with hb | rfl
          · exact hS.pw a ha b hb hab k hka hkb
          · have := hlt a ha k hka; have := hnew k hkb; omega
          · have := hlt b hb k hkb; have := hnew k hka; omega
          · exact hab rfl
        · intro x hx
          rcases hmem x hx with hx | rfl
          · exact hS.own x hx
          · simp [rowOf]
        · intro x hx hh
          rcases hmem x hx with hx | rfl
          · exact hS.p x hx hh
          · have := hnew _ hh; omega
        · intro x hx hh
          rcases hmem x hx with hx | rfl
          · exact hS.a x hx hh
          · have := hnew _ hh; omega
        · intro x hx hh
          rcases hmem x hx with hx | rfl
          · exact hS.h x hx hh
          · have := hnew _ hh; omega
        · intro k
          rw [est, h1.hk, Bool.eq_iff_iff, hkS_iff, hkS_iff]
          unfold keysS
          rw [((insP_perm (nm, newP sc to by_ le) (stOf L)).flatMap_right _).mem_iff]
          simp [List.flatMap_cons, newP]
      obtain ⟨F', hP, hG, _⟩ := Pool.mk' (w := w) hL' est.symm h3 h4 hbw (by
        rintro k (hk | hk | hk | ⟨x, hx, hk⟩)
        · exact .inl (.inl hk)
        · exact .inl (.inr (.inl hk))
        · exact .inl (.inr (.inr (.inl hk)))
        · rcases hmem x hx with hx | rfl
          · exact .inl (.inr (.inr (.inr ⟨x, hx, hk⟩)))
          · have := hnew k hk; exact .inr (by omega))
      exact ⟨F', rfl, hP, hG, hcF⟩
theorem flat_late (ht : Int) (L : List Ent) (hN : (L.map (·.name)).Nodup) (s : PSt) (hs : ∀ y ∈ s, y ∈ stOf L) : (s.map (·.1)).flatMap (lateOut ht L) = s.flatMap fun y => if dueP ht y.2 then y.2.held else [] := by
  rw [List.flatMap_map]
  have : ∀ y ∈ s, lateOut ht L y.1 = if dueP ht y.2 then y.2.held else [] := by
    intro y hy
    obtain ⟨e, he, e1, e2⟩ := mem_st (hs y hy)
    have := outK_next (ns := [e.name]) (ht := ht) (k := 0) hN he rfl (by simp)
    simp only [outK, List.take_zero, List.flatMap_nil, List.nil_append, List.take_succ_cons, List.flatMap_cons, List.append_nil] at this
    rw [← e1, this, e2]
  induction s with
  | nil => rfl
  | cons y s ih =>
    simp only [List.flatMap_cons]
    rw [this y (List.mem_cons_self), ih (fun z hz => hs z (List.mem_cons_of_mem _ hz)) (fun z hz => this z (List.mem_cons_of_mem _ hz))]
theorem lateE_pay (ht : Int) (e : Ent) : (lateE ht e).pay = lateP ht e.pay := by
  unfold lateE lateP
  by_cases hd : dueP ht e.pay = true
  · rw [if_pos hd, if_pos hd]
  · rw [if_neg hd, if_neg hd]
theorem late_st (ht : Int) (L : List Ent) : stOf (L.map (lateE ht)) = (lateS (stOf L) ht).1 := by
  unfold stOf lateS
  simp only
  rw [← srtP_map (fun y => (y.1, lateP ht y.2)) (fun _ => rfl), List.map_map, List.map_map]
  congr 1
  apply List.map_congr_left
  intro e he
  show ((lateE ht e).name, (lateE ht e).pay) = (e.name, lateP ht e.pay)
  rw [lateE_name, lateE_pay]
theorem late_pool {w : World} {base gp : Nat} {F : Nat → Prop} {s : PSt} (ht : Int) (h : Pool w base gp F s) (hl : s.length ≤ 1000) : Calls Try.prog 22 #[.pointer (some ⟨gp, 0, none⟩), .int .i64 ht] w fun r w' =>
    ∃ (F' : Nat → Prop) (A : Option Addr) (c : Nat), r = .returned (.slice A (lateS s ht).2.length c) ∧ OVec w' w.heap.size 33 partV 6 A (lateS s ht).2.length c (lateS s ht).2 ∧ Pool w' base gp F' (lateS s ht).1 ∧ Grown w F F' ∧ (∀ g, rowOf A c = some g → ¬ F' g) ∧ ChP w w' F := by
  have hbw := h.size
  have hgood := h.good.late ht
  obtain ⟨ga, gh, L, lh, ca, ck, h1, rfl, h3, h4⟩ := h
  have hS := h1.hS
  have hnd := h1.good.names
  refine Calls.mono (late_ok ht w h1.hp h1.hA h1.hM h1.hP hS (fun e he => by have := h1.good.nat _ (st_mem he); unfold inI; simp only at this; omega) (by rw [st_len] at hl; exact hl) (fun e he => by have := (h1.good.pay _ (st_mem he)).few; simp only at this; omega)) ?_
  rintro r w' ⟨ns, m, A, c, rfl, hpm, hpw, ho, hM, hP, hc⟩
  have hns : ns = (stOf L).map (·.1) := sorted_one (hpm.trans (st_names L).symm) hpw (List.pairwise_map.2 h1.good.srt)
  have hout : ns.flatMap (lateOut ht L) = (lateS (stOf L) ht).2 := by rw [hns]; exact flat_late ht L hS.names (stOf L) (fun _ h => h)
  rw [hout] at ho hM
  have hm : m = (lateS (stOf L) ht).2.length := ho.1.symm
  subst hm
  have hcF : ChP w w' F := hc.mono (fun k hk _ => (h3 k).2 (by
    rcases hk with rfl | ⟨e, he, rfl⟩
    · exact .inr (.inr (.inl rfl))
    · exact .inr (.inr (.inr ⟨e, he, .inl rfl⟩))))
  have hmap : ∀ x ∈ L.map (lateE ht), ∃ e ∈ L, x.name = e.name ∧ x.g = e.g ∧ ∀ k, x.has k → e.has k := by
    intro x hx
    obtain ⟨e, he, rfl⟩ := List.mem_map.1 hx
    exact ⟨e, he, lateE_name ht e, by unfold lateE; split <;> rfl, fun k => lateE_has⟩
  have hla : laOf (L.map (lateE ht)) = laOf L := by
    unfold laOf
    rw [List.map_map]
    apply List.map_congr_left
    intro e he
    simp only [Function.comp, lateE]
    split <;> rfl
  have hnm : (L.map (lateE ht)).map (·.name) = L.map (·.name) := by
    rw [List.map_map]
    apply List.map_congr_left
    intro e he
    exact lateE_name ht e
  have hL' : PoolL w' gp ga gh (L.map (lateE ht)) (delK (lateS (stOf L) ht).2 lh) ca ck := by
    refine ⟨?_, ?_, hM, hP, ⟨by rw [hnm]; exact hS.names, ?_, ?_, ?_, ?_, ?_, hS.pa, hS.ph, hS.ah⟩, by rw [late_st]; exact hgood, delK_true h1.tru _, ?_⟩
    · refine h1.hp.chP hc ?_
      rintro (hh | ⟨e, he, hh⟩)
      · exact hS.ph hh
      · exact hS.p e he (.inl hh)
    · rw [hla]
      refine h1.hA.chP hc ?_
      rintro (hh | ⟨e, he, hh⟩)
      · exact hS.ah hh
      · exact hS.a e he (.inl hh)
    · intro a ha b hb hab k hka hkb
      obtain ⟨e, he, e1, _, e2⟩ := hmap a ha
      obtain ⟨f, hf, f1, _, f2⟩ := hmap b hb
      exact hS.pw e he f hf (fun hh => hab (by rw [e1, f1, hh])) k (e2 k hka) (f2 k hkb)
    · intro x hx
      obtain ⟨e, he, rfl⟩ := List.mem_map.1 hx
      unfold lateE
      split
      · simp [rowOf]
      · exact hS.own e he
    · intro x hx hh
      obtain ⟨e, he, _, _, e2⟩ := hmap x hx
      exact hS.p e he (e2 _ hh)
    · intro x hx hh
      obtain ⟨e, he, _, _, e2⟩ := hmap x hx
      exact hS.a e he (e2 _ hh)
    · intro x hx hh
      obtain ⟨e, he, _, _, e2⟩ := hmap x hx
      exact hS.h e he (e2 _ hh)
    · intro k
      rw [late_st, Bool.eq_iff_iff, getG_delK, h1.hk, hkS_iff, hkS_iff]
      unfold lateS keysS
      simp only
      rw [List.flatMap_map, List.mem_flatMap, List.mem_flatMap]
      constructor
      · rintro ⟨h5, y, hy, hk⟩
        refine ⟨y, hy, ?_⟩
        simp only
        unfold lateP
        split
        · rename_i hd
          refine absurd ?_ h5
          obtain ⟨x, hx, e⟩ := List.mem_map.1 hk
          exact List.mem_map.2 ⟨x, List.mem_flatMap.2 ⟨y, hy, by rw [if_pos hd]; exact hx⟩, e⟩
        · exact hk
      · rintro ⟨y, hy, hk⟩
        simp only at hk
        unfold lateP at hk
        split at hk
        · simp at hk
        · rename_i hd
          refine ⟨fun hh => ?_, y, hy, hk⟩
          obtain ⟨x, hx, e⟩ := List.mem_map.1 hh
          obtain ⟨z, hz, hxz⟩ := List.mem_flatMap.1 hx
          split at hxz
          · rename_i hdz
            by_cases hyz : y.1 = z.1
            · have : y.2 = z.2 := nodup_fst hnd (n := y.1) (by exact hy) (by rw [hyz]; exact hz)
              rw [this] at hd
              exact hd hdz
            · have hgz := getP_of hnd (n := z.1) (p := z.2) hz
              exact keys_part hnd h1.good.keys hgz hy hyz hk (List.mem_map.2 ⟨x, hxz, e⟩)
          · simp at hxz
  have hold : ∀ k, PF gp ga gh (L.map (lateE ht)) k → PF gp ga gh L k := by
    rintro k (hk | hk | hk | ⟨x, hx, hk⟩)
    · exact .inl hk
    · exact .inr (.inl hk)
    · exact .inr (.inr (.inl hk))
    · obtain ⟨e, he, _, _, e2⟩ := hmap x hx
      exact .inr (.inr (.inr ⟨e, he, e2 _ hk⟩))
  obtain ⟨F', hP2, hG, hFF⟩ := Pool.mk' (w := w) hL' (late_st ht L).symm h3 h4 hbw (fun k hk => .inl (hold k hk))
  refine ⟨F', A, c, rfl, ho, hP2, hG, fun g hg hF' => ?_, hcF⟩
  have := (ho.row hg).1
  have := h1.lt (hold g (hFF g hF'))
  omega
end Go.Proofs.Ytfgakofjkldcjaa

namespace Go.Proofs.Ytfgakofjkldcjaa
open Go Go.Sx Go.Hsp Go.Num Go.Osp Go.Gsp
set_option maxRecDepth 20000
set_option linter.unusedSimpArgs false
set_option linter.unusedVariables false
theorem eqv_paidV {d : Nat} (a b : Paid) : Eqv Try.prog (d + 2) 57 (.agg (paidV a).toArray) (.agg (paidV b).toArray) (decide (a = b)) := by
  have h := Eqv.ints (P := Try.prog) (d := d) (t := 57) (paidV a) (paidV b) [(.i64, 0), (.i64, 1), (.u64, 2)] (by kernel_rfl) (by kernel_rfl) (by
    rw [show (Try.prog.fieldsOf 57) = _ from (by unfold Program.fieldsOf; rw [Try.underlying57])]
    exact ⟨by decide, rfl, Try.underlying3, ⟨_, _, rfl, rfl⟩, by decide, rfl, Try.underlying3, ⟨_, _, rfl, rfl⟩, by decide, rfl, Try.underlying30, ⟨_, _, rfl, rfl⟩, trivial⟩)
  have e : eqAll (paidV a) (paidV b) [(.i64, 0), (.i64, 1), (.u64, 2)] = decide (a = b) := by
    obtain ⟨a1, a2, a3⟩ := a
    obtain ⟨b1, b2, b3⟩ := b
    simp only [eqAll, paidV, List.getElem?_cons_zero, List.getElem?_cons_succ]
    rw [Bool.eq_iff_iff]
    simp only [Bool.and_eq_true, decide_eq_true_eq, Bool.and_true, Paid.mk.injEq]
    constructor
    · rintro ⟨h1, h2, h3⟩; exact ⟨h1, h2, by omega⟩
    · rintro ⟨h1, h2, h3⟩; exact ⟨h1, h2, by omega⟩
  rw [e] at h
  exact h
def prt (i a : Int) (s b : Nat) : Part := ⟨3, i, a, 50, base (s + b), b⟩
def sm1 : PSt := [(7, ⟨100, 10, 20, 40, [], 0, false, false⟩)]
def sm2 : PSt := [(7, ⟨100, 10, 20, 40, [prt 1 6 100 5], 6, false, false⟩)]
def sm3 : PSt := [(7, ⟨100, 10, 20, 40, [], 11, true, true⟩)]
def sm4 : PSt := [(3, ⟨9, 10, 20, 0, [], 0, false, false⟩), (7, ⟨100, 10, 20, 40, [], 11, true, true⟩)]
def sm5 : PSt := [(3, ⟨9, 10, 20, 0, [prt 1 6 9 5], 6, false, false⟩), (7, ⟨100, 10, 20, 40, [], 11, true, true⟩)]
def sm6 : PSt := [(3, ⟨9, 10, 20, 0, [], 6, true, false⟩), (7, ⟨100, 10, 20, 40, [], 11, true, true⟩)]
theorem e_w1 : wantS [] 7 100 10 20 40 = (sm1, 0) := by decide +kernel
theorem e_w2 : wantS sm1 7 100 10 20 40 = (sm1, 4) := by decide +kernel
theorem e_a1 : addT sm1 7 (prt 1 6 100 5) 19 = (sm2, [], 0) := by decide +kernel
theorem e_a2 : addT sm2 7 (prt 1 6 100 5) 19 = (sm2, [], 4) := by decide +kernel
theorem e_a3 : addT sm2 7 (prt 2 6 101 5) 19 = (sm2, [], 23) := by decide +kernel
theorem e_a4 : addT sm2 7 (prt 2 6 100 5) 20 = (sm2, [], 16) := by decide +kernel
theorem e_h1 : heldP sm2 7 = [prt 1 6 100 5] := by decide +kernel
theorem e_a5 : addT sm2 7 (prt 2 5 100 6) 19 = (sm3, [⟨3, 1, 105⟩, ⟨3, 2, 106⟩], 0) := by decide +kernel
theorem e_a6 : addT sm3 7 (prt 4 5 100 6) 19 = (sm3, [], 14) := by decide +kernel
theorem e_o1 : overP sm3 7 = (true, true) := by decide +kernel
theorem e_w3 : wantS sm3 3 9 10 20 0 = (sm4, 0) := by decide +kernel
theorem e_a7 : addT sm4 3 (prt 1 6 9 5) 1 = (sm5, [], 0) := by decide +kernel
theorem e_l1 : lateS sm5 19 = (sm5, []) := by decide +kernel
theorem e_l2 : lateS sm5 20 = (sm6, [prt 1 6 9 5]) := by decide +kernel
theorem e_o2 : overP sm6 3 = (true, false) := by decide +kernel
theorem e_h2 : heldP sm6 7 = [] := by decide +kernel
theorem e_n5 : sm5.length = 2 := rfl
theorem e_n6 : sm6.length = 2 := rfl
theorem part_ok (i a : Int) (s b : Nat) (w : World) (h : s + b < 18446744073709551616) : Calls Try.prog 58 #[.int .i64 (i), .int .i64 (a), .int .u64 (((s : Nat) : Int)), .int .u64 (((b : Nat) : Int))] w fun r w' => r = .returned (.agg (partV (prt i a s b)).toArray) ∧ Le w w' := by
  refine enter Try.func58 rfl rfl ?_
  have L0 := Le.refl w
  refine WC.seq ?_
  refine WC.region ?_
  refine W.ef rfl rfl rfl ?_
  refine Ef.allocA z33 ?_
  intro g0_0 w0_0 hg0_0 b0_0 h0_0
  have L1 := L0.trans h0_0
  have b0_0 : Blk w0_0 g0_0 33 (partV noPart).toArray := b0_0
  refine W.nil ?_
  refine E.thenN ?_
  refine WC.seq ?_
  refine WC.region ?_
  refine W.any (.move rfl) rfl rfl rfl ?_
  refine W.any (.move rfl) rfl rfl rfl ?_
  refine W.any (.move rfl) rfl rfl rfl ?_
  refine W.any (.move rfl) rfl rfl rfl ?_
  refine W.any (.addN s b (s + b) rfl rfl rfl rfl (by omega)) rfl rfl rfl ?_
  refine W.ef rfl rfl rfl ?_
  refine Ef.call go49 rfl rfl (base_ok (s + b) w0_0) ?_
  rintro _ w1_5 ⟨rfl, h1_5⟩
  refine ⟨_, rfl, ?_⟩
  have L2 := L1.trans h1_5
  refine W.any (.move rfl) rfl rfl rfl ?_
  refine W.any (.buildP (partV (⟨3, i, a, 50, base (s + b), b⟩)) pl33 z33 rfl rfl) rfl rfl rfl ?_
  have f3 := (b0_0.le h1_5)
  refine W.ef0 rfl rfl ?_
  refine Ef.storeAll sz33 (by rfl) rfl rfl f3 (by rfl) (partV_row.one (⟨3, i, a, 50, base (s + b), b⟩)) ?_
  intro w1_8 b1_8 h1_8
  have b1_8 : Blk w1_8 g0_0 33 (partV (⟨3, i, a, 50, base (s + b), b⟩)).toArray := b1_8
  have L4 : Le w w1_8 := L2.then_ h1_8 (fun q hq => by cases hq; exact Nat.le_trans L0.size hg0_0)
  refine W.nil ?_
  refine E.thenN ?_
  refine WC.ret ?_
  refine E.retG1 rfl (resA rfl b1_8 ag33 (by rfl)) ?_
  exact ⟨rfl, L4⟩

theorem small34_ok (w : World) : Calls Try.prog 13 #[] w fun r w' => r = .returned (.bool true) ∧ Le w w' := by
  refine enter Try.func13 rfl rfl ?_
  have L0 := Le.refl w
  refine WC.seq ?_
  refine WC.region ?_
  refine W.any (.assign rfl) rfl rfl rfl ?_
  refine W.nil ?_
  refine E.thenN ?_
  refine WC.seq ?_
  refine WC.region ?_
  refine W.ef rfl rfl rfl ?_
  refine Ef.call go15 rfl rfl (new_pool w) ?_
  rintro _ w1_0 ⟨gp1_0, F1_0, rfl, p1_0, h1_0⟩
  refine ⟨_, rfl, ?_⟩
  have L1 := L0.trans h1_0
  refine W.any (.assign rfl) rfl rfl rfl ?_
  refine W.nil ?_
  refine E.thenN ?_
  refine WC.seq ?_
  refine WC.seq ?_
  refine WC.region ?_
  refine W.any (.move rfl) rfl rfl rfl ?_
  refine W.any (.dec (.isNilP (by kernel_rfl) rfl) rfl) rfl rfl rfl ?_
  refine W.nil ?_
  refine E.thenN ?_
  refine WC.condF rfl ?_
  refine WC.skip ?_
  refine E.thenN ?_
  refine WC.seq ?_
  refine WC.region ?_
  refine W.any (.move rfl) rfl rfl rfl ?_
  refine W.ef rfl rfl rfl ?_
  refine Ef.call go17 rfl rfl ((by have h := want_pool 7 100 10 20 40 (by omega) p1_0; simp only [e_w1] at h; exact h)) ?_
  rintro _ w4_1 ⟨F4_1, rfl, p4_1, g4_1, h4_1⟩
  refine ⟨_, rfl, ?_⟩
  have L2 := L1.chP_then h4_1 (fun i hi => Nat.le_trans L0.size (p1_0.old hi))
  refine W.any (.assign rfl) rfl rfl rfl ?_
  refine W.nil ?_
  refine E.thenN ?_
  refine WC.seq ?_
  refine WC.region ?_
  refine W.any (.move rfl) rfl rfl rfl ?_
  refine W.ef rfl rfl rfl ?_
  refine Ef.call go17 rfl rfl ((by have h := want_pool 7 100 10 20 40 (by omega) p4_1; simp only [e_w2] at h; exact h)) ?_
  rintro _ w5_1 ⟨F5_1, rfl, p5_1, g5_1, h5_1⟩
  refine ⟨_, rfl, ?_⟩
  have L3 := L2.chP_then h5_1 (fun i hi => Nat.le_trans L0.size (p4_1.old hi))
  refine W.any (.assign rfl) rfl rfl rfl ?_
  refine W.nil ?_
  refine E.thenN ?_
  refine WC.seq ?_
  refine WC.region ?_
  refine W.any (.move rfl) rfl rfl rfl ?_
  refine W.ef rfl rfl rfl ?_
  refine Ef.call go58 rfl rfl (part_ok 1 6 100 5 w5_1 (by omega)) ?_
  rintro _ w6_1 ⟨rfl, h6_1⟩
  refine ⟨_, rfl, ?_⟩
  have L4 := L3.trans h6_1
  have f5 := (p5_1.le h6_1)
  refine W.ef rfl rfl rfl ?_
  refine Ef.call go19 rfl rfl ((by have h := add_pool 7 (prt 1 6 100 5) 19 f5; simp only [e_a1, List.length_cons, List.length_nil] at h; exact h)) ?_
  rintro _ w6_2 ⟨F6_2, A6_2, c6_2, rfl, o6_2, p6_2, g6_2, n6_2, h6_2⟩
  refine ⟨_, rfl, ?_⟩
  have L6 := L4.chP_then h6_2 (fun i hi => Nat.le_trans L0.size (f5.old hi))
  refine W.any (.move rfl) rfl rfl rfl ?_
  refine W.any (.extract (v := .slice A6_2 0 c6_2) rfl rfl) rfl rfl rfl ?_
  refine W.any (.extract (v := .int .i64 (0)) rfl rfl) rfl rfl rfl ?_
  refine W.any (.assign rfl) rfl rfl rfl ?_
  refine W.any (.assign rfl) rfl rfl rfl ?_
  refine W.nil ?_
  refine E.thenN ?_
  refine WC.seq ?_
  refine WC.region ?_
  refine W.any (.move rfl) rfl rfl rfl ?_
  refine W.ef rfl rfl rfl ?_
  refine Ef.call go58 rfl rfl (part_ok 1 6 100 5 w6_2 (by omega)) ?_
  rintro _ w7_1 ⟨rfl, h7_1⟩
  refine ⟨_, rfl, ?_⟩
  have L7 := L6.trans h7_1
  have f8 := (p6_2.le h7_1)
  refine W.ef rfl rfl rfl ?_
  refine Ef.call go19 rfl rfl ((by have h := add_pool 7 (prt 1 6 100 5) 19 f8; simp only [e_a2, List.length_cons, List.length_nil] at h; exact h)) ?_
  rintro _ w7_2 ⟨F7_2, A7_2, c7_2, rfl, o7_2, p7_2, g7_2, n7_2, h7_2⟩
  refine ⟨_, rfl, ?_⟩
  have L9 := L7.chP_then h7_2 (fun i hi => Nat.le_trans L0.size (f8.old hi))
  have f10 := (o6_2.le h7_1)
  have z11n := (show ∀ g, rowOf A6_2 c6_2 = some g → ¬ F6_2 g from n6_2)
  have z11 := f10.chP h7_2 z11n
  have z11g : ∀ g, rowOf A6_2 c6_2 = some g → ¬ F7_2 g := fun g hg hF => (g7_2 _ hF).elim (z11n g hg) (fun hz => by have := (f10.row hg).2; omega)
  refine W.any (.move rfl) rfl rfl rfl ?_
  refine W.any (.extract (v := .slice A7_2 0 c7_2) rfl rfl) rfl rfl rfl ?_
  refine W.any (.extract (v := .int .i64 (4)) rfl rfl) rfl rfl rfl ?_
  refine W.any (.assign rfl) rfl rfl rfl ?_
  refine W.any (.assign rfl) rfl rfl rfl ?_
  refine W.nil ?_
  refine E.thenN ?_
  refine WC.seq ?_
  refine WC.region ?_
  refine W.any (.move rfl) rfl rfl rfl ?_
  refine W.ef rfl rfl rfl ?_
  refine Ef.call go58 rfl rfl (part_ok 2 6 101 5 w7_2 (by omega)) ?_
  rintro _ w8_1 ⟨rfl, h8_1⟩
  refine ⟨_, rfl, ?_⟩
  have L12 := L9.trans h8_1
  have f13 := (p7_2.le h8_1)
  refine W.ef rfl rfl rfl ?_
  refine Ef.call go19 rfl rfl ((by have h := add_pool 7 (prt 2 6 101 5) 19 f13; simp only [e_a3, List.length_cons, List.length_nil] at h; exact h)) ?_
  rintro _ w8_2 ⟨F8_2, A8_2, c8_2, rfl, o8_2, p8_2, g8_2, n8_2, h8_2⟩
  refine ⟨_, rfl, ?_⟩
  have L14 := L12.chP_then h8_2 (fun i hi => Nat.le_trans L0.size (f13.old hi))
  have f15 := (z11.le h8_1)
  have f16 := (o7_2.le h8_1)
  have z17n := (show ∀ g, rowOf A6_2 c6_2 = some g → ¬ F7_2 g from z11g)
  have z17 := f15.chP h8_2 z17n
  have z17g : ∀ g, rowOf A6_2 c6_2 = some g → ¬ F8_2 g := fun g hg hF => (g8_2 _ hF).elim (z17n g hg) (fun hz => by have := (f15.row hg).2; omega)
  have z18n := (show ∀ g, rowOf A7_2 c7_2 = some g → ¬ F7_2 g from n7_2)
  have z18 := f16.chP h8_2 z18n
  have z18g : ∀ g, rowOf A7_2 c7_2 = some g → ¬ F8_2 g := fun g hg hF => (g8_2 _ hF).elim (z18n g hg) (fun hz => by have := (f16.row hg).2; omega)
  refine W.any (.move rfl) rfl rfl rfl ?_
  refine W.any (.extract (v := .slice A8_2 0 c8_2) rfl rfl) rfl rfl rfl ?_
  refine W.any (.extract (v := .int .i64 (23)) rfl rfl) rfl rfl rfl ?_
  refine W.any (.assign rfl) rfl rfl rfl ?_
  refine W.any (.assign rfl) rfl rfl rfl ?_
  refine W.nil ?_
  refine E.thenN ?_
  refine WC.seq ?_
  refine WC.region ?_
  refine W.any (.move rfl) rfl rfl rfl ?_
  refine W.ef rfl rfl rfl ?_
  refine Ef.call go58 rfl rfl (part_ok 2 6 100 5 w8_2 (by omega)) ?_
  rintro _ w9_1 ⟨rfl, h9_1⟩
  refine ⟨_, rfl, ?_⟩
  have L19 := L14.trans h9_1
  have f20 := (p8_2.le h9_1)
  refine W.ef rfl rfl rfl ?_
  refine Ef.call go19 rfl rfl ((by have h := add_pool 7 (prt 2 6 100 5) 20 f20; simp only [e_a4, List.length_cons, List.length_nil] at h; exact h)) ?_
  rintro _ w9_2 ⟨F9_2, A9_2, c9_2, rfl, o9_2, p9_2, g9_2, n9_2, h9_2⟩
  refine ⟨_, rfl, ?_⟩
  have L21 := L19.chP_then h9_2 (fun i hi => Nat.le_trans L0.size (f20.old hi))
  have f22 := (z17.le h9_1)
  have f23 := (z18.le h9_1)
  have f24 := (o8_2.le h9_1)
  have z25n := (show ∀ g, rowOf A6_2 c6_2 = some g → ¬ F8_2 g from z17g)
  have z25 := f22.chP h9_2 z25n
  have z25g : ∀ g, rowOf A6_2 c6_2 = some g → ¬ F9_2 g := fun g hg hF => (g9_2 _ hF).elim (z25n g hg) (fun hz => by have := (f22.row hg).2; omega)
  have z26n := (show ∀ g, rowOf A7_2 c7_2 = some g → ¬ F8_2 g from z18g)
  have z26 := f23.chP h9_2 z26n
  have z26g : ∀ g, rowOf A7_2 c7_2 = some g → ¬ F9_2 g := fun g hg hF => (g9_2 _ hF).elim (z26n g hg) (fun hz => by have := (f23.row hg).2; omega)
  have z27n := (show ∀ g, rowOf A8_2 c8_2 = some g → ¬ F8_2 g from n8_2)
  have z27 := f24.chP h9_2 z27n
  have z27g : ∀ g, rowOf A8_2 c8_2 = some g → ¬ F9_2 g := fun g hg hF => (g9_2 _ hF).elim (z27n g hg) (fun hz => by have := (f24.row hg).2; omega)
  refine W.any (.move rfl) rfl rfl rfl ?_
  refine W.any (.extract (v := .slice A9_2 0 c9_2) rfl rfl) rfl rfl rfl ?_
  refine W.any (.extract (v := .int .i64 (16)) rfl rfl) rfl rfl rfl ?_
  refine W.any (.assign rfl) rfl rfl rfl ?_
  refine W.any (.assign rfl) rfl rfl rfl ?_
  refine W.nil ?_
  refine E.thenN ?_
  refine WC.seq ?_
  refine WC.region ?_
  refine W.any (.move rfl) rfl rfl rfl ?_
  refine W.ef rfl rfl rfl ?_
  refine Ef.call go29 rfl rfl ((by have h := held_pool 7 p9_2; simp only [e_h1, List.length_cons, List.length_nil] at h; exact h)) ?_
  rintro _ w10_1 ⟨A10_1, c10_1, rfl, o10_1, h10_1⟩
  refine ⟨_, rfl, ?_⟩
  have L28 := L21.trans h10_1
  refine W.any (.assign rfl) rfl rfl rfl ?_
  refine W.nil ?_
  refine E.thenN ?_
  refine WC.seq ?_
  refine WC.region ?_
  refine W.any (.move rfl) rfl rfl rfl ?_
  refine W.ef rfl rfl rfl ?_
  refine Ef.call go58 rfl rfl (part_ok 2 5 100 6 w10_1 (by omega)) ?_
  rintro _ w11_1 ⟨rfl, h11_1⟩
  refine ⟨_, rfl, ?_⟩
  have L29 := L28.trans h11_1
  have f30 := (p9_2.le (h10_1.trans h11_1))
  refine W.ef rfl rfl rfl ?_
  refine Ef.call go19 rfl rfl ((by have h := add_pool 7 (prt 2 5 100 6) 19 f30; simp only [e_a5, List.length_cons, List.length_nil] at h; exact h)) ?_
  rintro _ w11_2 ⟨F11_2, A11_2, c11_2, rfl, o11_2, p11_2, g11_2, n11_2, h11_2⟩
  refine ⟨_, rfl, ?_⟩
  have L31 := L29.chP_then h11_2 (fun i hi => Nat.le_trans L0.size (f30.old hi))
  have f32 := (z25.le (h10_1.trans h11_1))
  have f33 := (z26.le (h10_1.trans h11_1))
  have f34 := (z27.le (h10_1.trans h11_1))
  have f35 := (o9_2.le (h10_1.trans h11_1))
  have f36 := (o10_1.le h11_1)
  have z37n := (show ∀ g, rowOf A6_2 c6_2 = some g → ¬ F9_2 g from z25g)
  have z37 := f32.chP h11_2 z37n
  have z37g : ∀ g, rowOf A6_2 c6_2 = some g → ¬ F11_2 g := fun g hg hF => (g11_2 _ hF).elim (z37n g hg) (fun hz => by have := (f32.row hg).2; omega)
  have z38n := (show ∀ g, rowOf A7_2 c7_2 = some g → ¬ F9_2 g from z26g)
  have z38 := f33.chP h11_2 z38n
  have z38g : ∀ g, rowOf A7_2 c7_2 = some g → ¬ F11_2 g := fun g hg hF => (g11_2 _ hF).elim (z38n g hg) (fun hz => by have := (f33.row hg).2; omega)
  have z39n := (show ∀ g, rowOf A8_2 c8_2 = some g → ¬ F9_2 g from z27g)
  have z39 := f34.chP h11_2 z39n
  have z39g : ∀ g, rowOf A8_2 c8_2 = some g → ¬ F11_2 g := fun g hg hF => (g11_2 _ hF).elim (z39n g hg) (fun hz => by have := (f34.row hg).2; omega)
  have z40n := (show ∀ g, rowOf A9_2 c9_2 = some g → ¬ F9_2 g from n9_2)
  have z40 := f35.chP h11_2 z40n
  have z40g : ∀ g, rowOf A9_2 c9_2 = some g → ¬ F11_2 g := fun g hg hF => (g11_2 _ hF).elim (z40n g hg) (fun hz => by have := (f35.row hg).2; omega)
  have z41n := (show ∀ g, rowOf A10_1 c10_1 = some g → ¬ F9_2 g from (fun g hg hF => by have := p9_2.lt hF;  have := (f36.row hg).1; omega))
  have z41 := f36.chP h11_2 z41n
  have z41g : ∀ g, rowOf A10_1 c10_1 = some g → ¬ F11_2 g := fun g hg hF => (g11_2 _ hF).elim (z41n g hg) (fun hz => by have := (f36.row hg).2; omega)
  refine W.any (.move rfl) rfl rfl rfl ?_
  refine W.any (.extract (v := .slice A11_2 2 c11_2) rfl rfl) rfl rfl rfl ?_
  refine W.any (.extract (v := .int .i64 (0)) rfl rfl) rfl rfl rfl ?_
  refine W.any (.assign rfl) rfl rfl rfl ?_
  refine W.any (.assign rfl) rfl rfl rfl ?_
  refine W.nil ?_
  refine E.thenN ?_
  refine WC.seq ?_
  refine WC.region ?_
  refine W.any (.move rfl) rfl rfl rfl ?_
  refine W.ef rfl rfl rfl ?_
  refine Ef.call go58 rfl rfl (part_ok 4 5 100 6 w11_2 (by omega)) ?_
  rintro _ w12_1 ⟨rfl, h12_1⟩
  refine ⟨_, rfl, ?_⟩
  have L42 := L31.trans h12_1
  have f43 := (p11_2.le h12_1)
  refine W.ef rfl rfl rfl ?_
  refine Ef.call go19 rfl rfl ((by have h := add_pool 7 (prt 4 5 100 6) 19 f43; simp only [e_a6, List.length_cons, List.length_nil] at h; exact h)) ?_
  rintro _ w12_2 ⟨F12_2, A12_2, c12_2, rfl, o12_2, p12_2, g12_2, n12_2, h12_2⟩
  refine ⟨_, rfl, ?_⟩
  have L44 := L42.chP_then h12_2 (fun i hi => Nat.le_trans L0.size (f43.old hi))
  have f45 := (z37.le h12_1)
  have f46 := (z38.le h12_1)
  have f47 := (z39.le h12_1)
  have f48 := (z40.le h12_1)
  have f49 := (z41.le h12_1)
  have f50 := (o11_2.le h12_1)
  have z51n := (show ∀ g, rowOf A6_2 c6_2 = some g → ¬ F11_2 g from z37g)
  have z51 := f45.chP h12_2 z51n
  have z51g : ∀ g, rowOf A6_2 c6_2 = some g → ¬ F12_2 g := fun g hg hF => (g12_2 _ hF).elim (z51n g hg) (fun hz => by have := (f45.row hg).2; omega)
  have z52n := (show ∀ g, rowOf A7_2 c7_2 = some g → ¬ F11_2 g from z38g)
  have z52 := f46.chP h12_2 z52n
  have z52g : ∀ g, rowOf A7_2 c7_2 = some g → ¬ F12_2 g := fun g hg hF => (g12_2 _ hF).elim (z52n g hg) (fun hz => by have := (f46.row hg).2; omega)
  have z53n := (show ∀ g, rowOf A8_2 c8_2 = some g → ¬ F11_2 g from z39g)
  have z53 := f47.chP h12_2 z53n
  have z53g : ∀ g, rowOf A8_2 c8_2 = some g → ¬ F12_2 g := fun g hg hF => (g12_2 _ hF).elim (z53n g hg) (fun hz => by have := (f47.row hg).2; omega)
  have z54n := (show ∀ g, rowOf A9_2 c9_2 = some g → ¬ F11_2 g from z40g)
  have z54 := f48.chP h12_2 z54n
  have z54g : ∀ g, rowOf A9_2 c9_2 = some g → ¬ F12_2 g := fun g hg hF => (g12_2 _ hF).elim (z54n g hg) (fun hz => by have := (f48.row hg).2; omega)
  have z55n := (show ∀ g, rowOf A10_1 c10_1 = some g → ¬ F11_2 g from z41g)
  have z55 := f49.chP h12_2 z55n
  have z55g : ∀ g, rowOf A10_1 c10_1 = some g → ¬ F12_2 g := fun g hg hF => (g12_2 _ hF).elim (z55n g hg) (fun hz => by have := (f49.row hg).2; omega)
  have z56n := (show ∀ g, rowOf A11_2 c11_2 = some g → ¬ F11_2 g from n11_2)
  have z56 := f50.chP h12_2 z56n
  have z56g : ∀ g, rowOf A11_2 c11_2 = some g → ¬ F12_2 g := fun g hg hF => (g12_2 _ hF).elim (z56n g hg) (fun hz => by have := (f50.row hg).2; omega)
  refine W.any (.move rfl) rfl rfl rfl ?_
  refine W.any (.extract (v := .slice A12_2 0 c12_2) rfl rfl) rfl rfl rfl ?_
  refine W.any (.extract (v := .int .i64 (14)) rfl rfl) rfl rfl rfl ?_
  refine W.any (.assign rfl) rfl rfl rfl ?_
  refine W.any (.assign rfl) rfl rfl rfl ?_
  refine W.nil ?_
  refine E.thenN ?_
  refine WC.seq ?_
  refine WC.region ?_
  refine W.any (.move rfl) rfl rfl rfl ?_
  refine W.ef rfl rfl rfl ?_
  refine Ef.call go25 rfl rfl ((by have h := over_pool 7 p12_2; simp only [e_o1] at h; exact h)) ?_
  rintro _ w13_1 ⟨rfl, h13_1⟩
  refine ⟨_, rfl, ?_⟩
  have L57 := L44.trans h13_1
  refine W.any (.move rfl) rfl rfl rfl ?_
  refine W.any (.extract (v := .bool true) rfl rfl) rfl rfl rfl ?_
  refine W.any (.extract (v := .bool true) rfl rfl) rfl rfl rfl ?_
  refine W.any (.assign rfl) rfl rfl rfl ?_
  refine W.any (.assign rfl) rfl rfl rfl ?_
  refine W.nil ?_
  refine E.thenN ?_
  refine WC.seq ?_
  refine WC.region ?_
  refine W.any (.move rfl) rfl rfl rfl ?_
  have f58 := (p12_2.le h13_1)
  refine W.ef rfl rfl rfl ?_
  refine Ef.call go17 rfl rfl ((by have h := want_pool 3 9 10 20 0 (by omega) f58; simp only [e_w3] at h; exact h)) ?_
  rintro _ w14_1 ⟨F14_1, rfl, p14_1, g14_1, h14_1⟩
  refine ⟨_, rfl, ?_⟩
  have L59 := L57.chP_then h14_1 (fun i hi => Nat.le_trans L0.size (f58.old hi))
  have f60 := (z51.le h13_1)
  have f61 := (z52.le h13_1)
  have f62 := (z53.le h13_1)
  have f63 := (z54.le h13_1)
  have f64 := (z55.le h13_1)
  have f65 := (z56.le h13_1)
  have f66 := (o12_2.le h13_1)
  have z67n := (show ∀ g, rowOf A6_2 c6_2 = some g → ¬ F12_2 g from z51g)
  have z67 := f60.chP h14_1 z67n
  have z67g : ∀ g, rowOf A6_2 c6_2 = some g → ¬ F14_1 g := fun g hg hF => (g14_1 _ hF).elim (z67n g hg) (fun hz => by have := (f60.row hg).2; omega)
  have z68n := (show ∀ g, rowOf A7_2 c7_2 = some g → ¬ F12_2 g from z52g)
  have z68 := f61.chP h14_1 z68n
  have z68g : ∀ g, rowOf A7_2 c7_2 = some g → ¬ F14_1 g := fun g hg hF => (g14_1 _ hF).elim (z68n g hg) (fun hz => by have := (f61.row hg).2; omega)
  have z69n := (show ∀ g, rowOf A8_2 c8_2 = some g → ¬ F12_2 g from z53g)
  have z69 := f62.chP h14_1 z69n
  have z69g : ∀ g, rowOf A8_2 c8_2 = some g → ¬ F14_1 g := fun g hg hF => (g14_1 _ hF).elim (z69n g hg) (fun hz => by have := (f62.row hg).2; omega)
  have z70n := (show ∀ g, rowOf A9_2 c9_2 = some g → ¬ F12_2 g from z54g)
  have z70 := f63.chP h14_1 z70n
  have z70g : ∀ g, rowOf A9_2 c9_2 = some g → ¬ F14_1 g := fun g hg hF => (g14_1 _ hF).elim (z70n g hg) (fun hz => by have := (f63.row hg).2; omega)
  have z71n := (show ∀ g, rowOf A10_1 c10_1 = some g → ¬ F12_2 g from z55g)
  have z71 := f64.chP h14_1 z71n
  have z71g : ∀ g, rowOf A10_1 c10_1 = some g → ¬ F14_1 g := fun g hg hF => (g14_1 _ hF).elim (z71n g hg) (fun hz => by have := (f64.row hg).2; omega)
  have z72n := (show ∀ g, rowOf A11_2 c11_2 = some g → ¬ F12_2 g from z56g)
  have z72 := f65.chP h14_1 z72n
  have z72g : ∀ g, rowOf A11_2 c11_2 = some g → ¬ F14_1 g := fun g hg hF => (g14_1 _ hF).elim (z72n g hg) (fun hz => by have := (f65.row hg).2; omega)
  have z73n := (show ∀ g, rowOf A12_2 c12_2 = some g → ¬ F12_2 g from n12_2)
  have z73 := f66.chP h14_1 z73n
  have z73g : ∀ g, rowOf A12_2 c12_2 = some g → ¬ F14_1 g := fun g hg hF => (g14_1 _ hF).elim (z73n g hg) (fun hz => by have := (f66.row hg).2; omega)
  refine W.any (.assign rfl) rfl rfl rfl ?_
  refine W.nil ?_
  refine E.thenN ?_
  refine WC.seq ?_
  refine WC.region ?_
  refine W.any (.move rfl) rfl rfl rfl ?_
  refine W.ef rfl rfl rfl ?_
  refine Ef.call go58 rfl rfl (part_ok 1 6 9 5 w14_1 (by omega)) ?_
  rintro _ w15_1 ⟨rfl, h15_1⟩
  refine ⟨_, rfl, ?_⟩
  have L74 := L59.trans h15_1
  have f75 := (p14_1.le h15_1)
  refine W.ef rfl rfl rfl ?_
  refine Ef.call go19 rfl rfl ((by have h := add_pool 3 (prt 1 6 9 5) 1 f75; simp only [e_a7, List.length_cons, List.length_nil] at h; exact h)) ?_
  rintro _ w15_2 ⟨F15_2, A15_2, c15_2, rfl, o15_2, p15_2, g15_2, n15_2, h15_2⟩
  refine ⟨_, rfl, ?_⟩
  have L76 := L74.chP_then h15_2 (fun i hi => Nat.le_trans L0.size (f75.old hi))
  have f77 := (z67.le h15_1)
  have f78 := (z68.le h15_1)
  have f79 := (z69.le h15_1)
  have f80 := (z70.le h15_1)
  have f81 := (z71.le h15_1)
  have f82 := (z72.le h15_1)
  have f83 := (z73.le h15_1)
  have z84n := (show ∀ g, rowOf A6_2 c6_2 = some g → ¬ F14_1 g from z67g)
  have z84 := f77.chP h15_2 z84n
  have z84g : ∀ g, rowOf A6_2 c6_2 = some g → ¬ F15_2 g := fun g hg hF => (g15_2 _ hF).elim (z84n g hg) (fun hz => by have := (f77.row hg).2; omega)
  have z85n := (show ∀ g, rowOf A7_2 c7_2 = some g → ¬ F14_1 g from z68g)
  have z85 := f78.chP h15_2 z85n
  have z85g : ∀ g, rowOf A7_2 c7_2 = some g → ¬ F15_2 g := fun g hg hF => (g15_2 _ hF).elim (z85n g hg) (fun hz => by have := (f78.row hg).2; omega)
  have z86n := (show ∀ g, rowOf A8_2 c8_2 = some g → ¬ F14_1 g from z69g)
  have z86 := f79.chP h15_2 z86n
  have z86g : ∀ g, rowOf A8_2 c8_2 = some g → ¬ F15_2 g := fun g hg hF => (g15_2 _ hF).elim (z86n g hg) (fun hz => by have := (f79.row hg).2; omega)
  have z87n := (show ∀ g, rowOf A9_2 c9_2 = some g → ¬ F14_1 g from z70g)
  have z87 := f80.chP h15_2 z87n
  have z87g : ∀ g, rowOf A9_2 c9_2 = some g → ¬ F15_2 g := fun g hg hF => (g15_2 _ hF).elim (z87n g hg) (fun hz => by have := (f80.row hg).2; omega)
  have z88n := (show ∀ g, rowOf A10_1 c10_1 = some g → ¬ F14_1 g from z71g)
  have z88 := f81.chP h15_2 z88n
  have z88g : ∀ g, rowOf A10_1 c10_1 = some g → ¬ F15_2 g := fun g hg hF => (g15_2 _ hF).elim (z88n g hg) (fun hz => by have := (f81.row hg).2; omega)
  have z89n := (show ∀ g, rowOf A11_2 c11_2 = some g → ¬ F14_1 g from z72g)
  have z89 := f82.chP h15_2 z89n
  have z89g : ∀ g, rowOf A11_2 c11_2 = some g → ¬ F15_2 g := fun g hg hF => (g15_2 _ hF).elim (z89n g hg) (fun hz => by have := (f82.row hg).2; omega)
  have z90n := (show ∀ g, rowOf A12_2 c12_2 = some g → ¬ F14_1 g from z73g)
  have z90 := f83.chP h15_2 z90n
  have z90g : ∀ g, rowOf A12_2 c12_2 = some g → ¬ F15_2 g := fun g hg hF => (g15_2 _ hF).elim (z90n g hg) (fun hz => by have := (f83.row hg).2; omega)
  refine W.any (.move rfl) rfl rfl rfl ?_
  refine W.any (.extract (v := .slice A15_2 0 c15_2) rfl rfl) rfl rfl rfl ?_
  refine W.any (.extract (v := .int .i64 (0)) rfl rfl) rfl rfl rfl ?_
  refine W.any (.assign rfl) rfl rfl rfl ?_
  refine W.any (.assign rfl) rfl rfl rfl ?_
  refine W.nil ?_
  refine E.thenN ?_
  refine WC.seq ?_
  refine WC.region ?_
  refine W.any (.move rfl) rfl rfl rfl ?_
  refine W.ef rfl rfl rfl ?_
  refine Ef.call go22 rfl rfl ((by have h := late_pool 19 p15_2 (by rw [e_n5]; omega); simp only [e_l1, List.length_cons, List.length_nil] at h; exact h)) ?_
  rintro _ w16_1 ⟨F16_1, A16_1, c16_1, rfl, o16_1, p16_1, g16_1, n16_1, h16_1⟩
  refine ⟨_, rfl, ?_⟩
  have L91 := L76.chP_then h16_1 (fun i hi => Nat.le_trans L0.size (p15_2.old hi))
  have z92n := (show ∀ g, rowOf A6_2 c6_2 = some g → ¬ F15_2 g from z84g)
  have z92 := z84.chP h16_1 z92n
  have z92g : ∀ g, rowOf A6_2 c6_2 = some g → ¬ F16_1 g := fun g hg hF => (g16_1 _ hF).elim (z92n g hg) (fun hz => by have := (z84.row hg).2; omega)
  have z93n := (show ∀ g, rowOf A7_2 c7_2 = some g → ¬ F15_2 g from z85g)
  have z93 := z85.chP h16_1 z93n
  have z93g : ∀ g, rowOf A7_2 c7_2 = some g → ¬ F16_1 g := fun g hg hF => (g16_1 _ hF).elim (z93n g hg) (fun hz => by have := (z85.row hg).2; omega)
  have z94n := (show ∀ g, rowOf A8_2 c8_2 = some g → ¬ F15_2 g from z86g)
  have z94 := z86.chP h16_1 z94n
  have z94g : ∀ g, rowOf A8_2 c8_2 = some g → ¬ F16_1 g := fun g hg hF => (g16_1 _ hF).elim (z94n g hg) (fun hz => by have := (z86.row hg).2; omega)
  have z95n := (show ∀ g, rowOf A9_2 c9_2 = some g → ¬ F15_2 g from z87g)
  have z95 := z87.chP h16_1 z95n
  have z95g : ∀ g, rowOf A9_2 c9_2 = some g → ¬ F16_1 g := fun g hg hF => (g16_1 _ hF).elim (z95n g hg) (fun hz => by have := (z87.row hg).2; omega)
  have z96n := (show ∀ g, rowOf A10_1 c10_1 = some g → ¬ F15_2 g from z88g)
  have z96 := z88.chP h16_1 z96n
  have z96g : ∀ g, rowOf A10_1 c10_1 = some g → ¬ F16_1 g := fun g hg hF => (g16_1 _ hF).elim (z96n g hg) (fun hz => by have := (z88.row hg).2; omega)
  have z97n := (show ∀ g, rowOf A11_2 c11_2 = some g → ¬ F15_2 g from z89g)
  have z97 := z89.chP h16_1 z97n
  have z97g : ∀ g, rowOf A11_2 c11_2 = some g → ¬ F16_1 g := fun g hg hF => (g16_1 _ hF).elim (z97n g hg) (fun hz => by have := (z89.row hg).2; omega)
  have z98n := (show ∀ g, rowOf A12_2 c12_2 = some g → ¬ F15_2 g from z90g)
  have z98 := z90.chP h16_1 z98n
  have z98g : ∀ g, rowOf A12_2 c12_2 = some g → ¬ F16_1 g := fun g hg hF => (g16_1 _ hF).elim (z98n g hg) (fun hz => by have := (z90.row hg).2; omega)
  have z99n := (show ∀ g, rowOf A15_2 c15_2 = some g → ¬ F15_2 g from n15_2)
  have z99 := o15_2.chP h16_1 z99n
  have z99g : ∀ g, rowOf A15_2 c15_2 = some g → ¬ F16_1 g := fun g hg hF => (g16_1 _ hF).elim (z99n g hg) (fun hz => by have := (o15_2.row hg).2; omega)
  refine W.any (.assign rfl) rfl rfl rfl ?_
  refine W.nil ?_
  refine E.thenN ?_
  refine WC.seq ?_
  refine WC.region ?_
  refine W.any (.move rfl) rfl rfl rfl ?_
  refine W.ef rfl rfl rfl ?_
  refine Ef.call go22 rfl rfl ((by have h := late_pool 20 p16_1 (by rw [e_n5]; omega); simp only [e_l2, List.length_cons, List.length_nil] at h; exact h)) ?_
  rintro _ w17_1 ⟨F17_1, A17_1, c17_1, rfl, o17_1, p17_1, g17_1, n17_1, h17_1⟩
  refine ⟨_, rfl, ?_⟩
  have L100 := L91.chP_then h17_1 (fun i hi => Nat.le_trans L0.size (p16_1.old hi))
  have z101n := (show ∀ g, rowOf A6_2 c6_2 = some g → ¬ F16_1 g from z92g)
  have z101 := z92.chP h17_1 z101n
  have z101g : ∀ g, rowOf A6_2 c6_2 = some g → ¬ F17_1 g := fun g hg hF => (g17_1 _ hF).elim (z101n g hg) (fun hz => by have := (z92.row hg).2; omega)
  have z102n := (show ∀ g, rowOf A7_2 c7_2 = some g → ¬ F16_1 g from z93g)
  have z102 := z93.chP h17_1 z102n
  have z102g : ∀ g, rowOf A7_2 c7_2 = some g → ¬ F17_1 g := fun g hg hF => (g17_1 _ hF).elim (z102n g hg) (fun hz => by have := (z93.row hg).2; omega)
  have z103n := (show ∀ g, rowOf A8_2 c8_2 = some g → ¬ F16_1 g from z94g)
  have z103 := z94.chP h17_1 z103n
  have z103g : ∀ g, rowOf A8_2 c8_2 = some g → ¬ F17_1 g := fun g hg hF => (g17_1 _ hF).elim (z103n g hg) (fun hz => by have := (z94.row hg).2; omega)
  have z104n := (show ∀ g, rowOf A9_2 c9_2 = some g → ¬ F16_1 g from z95g)
  have z104 := z95.chP h17_1 z104n
  have z104g : ∀ g, rowOf A9_2 c9_2 = some g → ¬ F17_1 g := fun g hg hF => (g17_1 _ hF).elim (z104n g hg) (fun hz => by have := (z95.row hg).2; omega)
  have z105n := (show ∀ g, rowOf A10_1 c10_1 = some g → ¬ F16_1 g from z96g)
  have z105 := z96.chP h17_1 z105n
  have z105g : ∀ g, rowOf A10_1 c10_1 = some g → ¬ F17_1 g := fun g hg hF => (g17_1 _ hF).elim (z105n g hg) (fun hz => by have := (z96.row hg).2; omega)
  have z106n := (show ∀ g, rowOf A11_2 c11_2 = some g → ¬ F16_1 g from z97g)
  have z106 := z97.chP h17_1 z106n
  have z106g : ∀ g, rowOf A11_2 c11_2 = some g → ¬ F17_1 g := fun g hg hF => (g17_1 _ hF).elim (z106n g hg) (fun hz => by have := (z97.row hg).2; omega)
  have z107n := (show ∀ g, rowOf A12_2 c12_2 = some g → ¬ F16_1 g from z98g)
  have z107 := z98.chP h17_1 z107n
  have z107g : ∀ g, rowOf A12_2 c12_2 = some g → ¬ F17_1 g := fun g hg hF => (g17_1 _ hF).elim (z107n g hg) (fun hz => by have := (z98.row hg).2; omega)
  have z108n := (show ∀ g, rowOf A15_2 c15_2 = some g → ¬ F16_1 g from z99g)
  have z108 := z99.chP h17_1 z108n
  have z108g : ∀ g, rowOf A15_2 c15_2 = some g → ¬ F17_1 g := fun g hg hF => (g17_1 _ hF).elim (z108n g hg) (fun hz => by have := (z99.row hg).2; omega)
  have z109n := (show ∀ g, rowOf A16_1 c16_1 = some g → ¬ F16_1 g from n16_1)
  have z109 := o16_1.chP h17_1 z109n
  have z109g : ∀ g, rowOf A16_1 c16_1 = some g → ¬ F17_1 g := fun g hg hF => (g17_1 _ hF).elim (z109n g hg) (fun hz => by have := (o16_1.row hg).2; omega)
  refine W.any (.assign rfl) rfl rfl rfl ?_
  refine W.nil ?_
  refine E.thenN ?_
  refine WC.seq ?_
  refine WC.region ?_
  refine W.any (.move rfl) rfl rfl rfl ?_
  refine W.ef rfl rfl rfl ?_
  refine Ef.call go25 rfl rfl ((by have h := over_pool 3 p17_1; simp only [e_o2] at h; exact h)) ?_
  rintro _ w18_1 ⟨rfl, h18_1⟩
  refine ⟨_, rfl, ?_⟩
  have L110 := L100.trans h18_1
  refine W.any (.move rfl) rfl rfl rfl ?_
  refine W.any (.extract (v := .bool true) rfl rfl) rfl rfl rfl ?_
  refine W.any (.extract (v := .bool false) rfl rfl) rfl rfl rfl ?_
  refine W.any (.assign rfl) rfl rfl rfl ?_
  refine W.any (.assign rfl) rfl rfl rfl ?_
  refine W.nil ?_
  refine E.thenN ?_
  refine WC.seq ?_
  refine WC.seq ?_
  refine WC.region ?_
  refine W.any (.move rfl) rfl rfl rfl ?_
  refine W.rd (.len Try.underlying46 rfl) rfl rfl rfl ?_
  refine W.any (.dec (.neq rfl rfl) (show _ = false from by decide)) rfl rfl rfl ?_
  refine W.any (.move rfl) rfl rfl rfl ?_
  refine W.rdg (Any.rd (.move rfl) _) rfl rfl rfl (rfl) rfl rfl ?_
  refine W.rdg (.len Try.underlying38 rfl) rfl rfl rfl (rfl) rfl rfl ?_
  refine W.rdg (Any.rd (.dec (.neq rfl rfl) (show _ = false from by decide)) _) rfl rfl rfl (rfl) rfl rfl ?_
  refine W.any (.pickF rfl rfl rfl) rfl rfl rfl ?_
  refine W.any (.move rfl) rfl rfl rfl ?_
  refine W.rdg (Any.rd (.move rfl) _) rfl rfl rfl (rfl) rfl rfl ?_
  refine W.rdg (.len Try.underlying46 rfl) rfl rfl rfl (rfl) rfl rfl ?_
  refine W.rdg (Any.rd (.dec (.neq rfl rfl) (show _ = false from by decide)) _) rfl rfl rfl (rfl) rfl rfl ?_
  refine W.any (.pickF rfl rfl rfl) rfl rfl rfl ?_
  refine W.nil ?_
  refine E.thenN ?_
  refine WC.condF rfl ?_
  refine WC.skip ?_
  refine E.thenN ?_
  refine WC.seq ?_
  refine WC.region ?_
  refine W.any (.move rfl) rfl rfl rfl ?_
  refine W.any (.dec (.eql rfl rfl) (show _ = true from by decide)) rfl rfl rfl ?_
  refine W.any (.move rfl) rfl rfl rfl ?_
  refine W.rdg (Any.rd (.move rfl) _) rfl rfl rfl (rfl) rfl rfl ?_
  refine W.rdg (Any.rd (.dec (.eql rfl rfl) (show _ = true from by decide)) _) rfl rfl rfl (rfl) rfl rfl ?_
  refine W.any (.pickT rfl rfl rfl) rfl rfl rfl ?_
  refine W.any (.move rfl) rfl rfl rfl ?_
  refine W.rdg (Any.rd (.move rfl) _) rfl rfl rfl (rfl) rfl rfl ?_
  refine W.rdg (Any.rd (.dec (.eql rfl rfl) (show _ = true from by decide)) _) rfl rfl rfl (rfl) rfl rfl ?_
  refine W.any (.pickT rfl rfl rfl) rfl rfl rfl ?_
  refine W.any (.move rfl) rfl rfl rfl ?_
  refine W.rdg (Any.rd (.move rfl) _) rfl rfl rfl (rfl) rfl rfl ?_
  refine W.rdg (.len Try.underlying38 rfl) rfl rfl rfl (rfl) rfl rfl ?_
  refine W.rdg (Any.rd (.dec (.eql rfl rfl) (show _ = true from by decide)) _) rfl rfl rfl (rfl) rfl rfl ?_
  refine W.any (.pickT rfl rfl rfl) rfl rfl rfl ?_
  refine W.any (.move rfl) rfl rfl rfl ?_
  refine W.rdg (Any.rd (.move rfl) _) rfl rfl rfl (rfl) rfl rfl ?_
  refine W.rdg (Any.rd (.dec (.eql rfl rfl) (show _ = true from by decide)) _) rfl rfl rfl (rfl) rfl rfl ?_
  refine W.any (.pickT rfl rfl rfl) rfl rfl rfl ?_
  refine W.any (.move rfl) rfl rfl rfl ?_
  refine W.rdg (Any.rd (.move rfl) _) rfl rfl rfl (rfl) rfl rfl ?_
  refine W.rdg (Any.rd (.dec (.eql rfl rfl) (show _ = true from by decide)) _) rfl rfl rfl (rfl) rfl rfl ?_
  refine W.any (.pickT rfl rfl rfl) rfl rfl rfl ?_
  refine W.any (.move rfl) rfl rfl rfl ?_
  refine W.rdg (Any.rd (.move rfl) _) rfl rfl rfl (rfl) rfl rfl ?_
  refine W.rdg (Any.rd (.dec (.eql rfl rfl) (show _ = true from by decide)) _) rfl rfl rfl (rfl) rfl rfl ?_
  refine W.any (.pickT rfl rfl rfl) rfl rfl rfl ?_
  refine W.any (.move rfl) rfl rfl rfl ?_
  refine W.rdg (Any.rd (.move rfl) _) rfl rfl rfl (rfl) rfl rfl ?_
  refine W.rdg (Any.rd (.idxS (0) Try.underlying46 sz33 rfl rfl (o10_1.vec.isSome partV_row (by omega)) (rfl) (by omega)) _) rfl rfl rfl (rfl) rfl rfl ?_
  refine W.rdg (Any.rd (.vfield fa33_1 (o10_1.vec.isSome partV_row (by omega)) rfl) _) rfl rfl rfl (rfl) rfl rfl ?_
  have f111 := (z105.le h18_1)
  refine W.rdg (.vcell (j := 0) (o := 1) (v := .int .i64 ((([prt 1 6 100 5]).getD 0 noPart).id)) na3 rfl f111.vec partV_row (getS ([prt 1 6 100 5]) noPart (by first | omega | (simp only [List.length_cons, List.length_nil]; omega))) rfl) rfl rfl rfl (rfl) rfl rfl ?_
  refine W.rdg (Any.rd (.dec (.eql rfl rfl) (show _ = true from by decide)) _) rfl rfl rfl (rfl) rfl rfl ?_
  refine W.any (.pickT rfl rfl rfl) rfl rfl rfl ?_
  refine W.any (.move rfl) rfl rfl rfl ?_
  refine W.rdg (Any.rd (.move rfl) _) rfl rfl rfl (rfl) rfl rfl ?_
  refine W.rdg (Any.rd (.dec (.eql rfl rfl) (show _ = true from by decide)) _) rfl rfl rfl (rfl) rfl rfl ?_
  refine W.any (.pickT rfl rfl rfl) rfl rfl rfl ?_
  refine W.any (.move rfl) rfl rfl rfl ?_
  refine W.rdg (Any.rd (.move rfl) _) rfl rfl rfl (rfl) rfl rfl ?_
  refine W.rdg (Any.rd (.idxS (0) Try.underlying38 sz57 rfl rfl (o11_2.vec.isSome paidV_row (by omega)) (rfl) (by omega)) _) rfl rfl rfl (rfl) rfl rfl ?_
  have f112 := (z106.le h18_1)
  refine W.rdg (.vload ag57 rfl f112.vec paidV_row (getS ([(⟨3, 1, 105⟩ : Paid), ⟨3, 2, 106⟩]) noPaid (by first | omega | (simp only [List.length_cons, List.length_nil]; omega)))) rfl rfl rfl (rfl) rfl rfl ?_
  refine W.rdg (Any.rd (.buildP (paidV (⟨3, 1, 105⟩ : Paid)) pl57 z57 rfl rfl) _) rfl rfl rfl (rfl) rfl rfl ?_
  refine W.rdg (Any.rd (.dec (.eqA eg57 rfl rfl (eqv_paidV (d := 9998) _ _)) (show _ = true from by decide)) _) rfl rfl rfl (rfl) rfl rfl ?_
  refine W.any (.pickT rfl rfl rfl) rfl rfl rfl ?_
  refine W.any (.move rfl) rfl rfl rfl ?_
  refine W.rdg (Any.rd (.move rfl) _) rfl rfl rfl (rfl) rfl rfl ?_
  refine W.rdg (Any.rd (.idxS (1) Try.underlying38 sz57 rfl rfl (o11_2.vec.isSome paidV_row (by omega)) (rfl) (by omega)) _) rfl rfl rfl (rfl) rfl rfl ?_
  refine W.rdg (Any.rd (.vfield fa57_2 (o11_2.vec.isSome paidV_row (by omega)) rfl) _) rfl rfl rfl (rfl) rfl rfl ?_
  refine W.rdg (.vcell (j := 1) (o := 2) (v := .int .u64 ((((([(⟨3, 1, 105⟩ : Paid), ⟨3, 2, 106⟩]).getD 1 noPaid).sec : Nat) : Int))) na30 rfl f112.vec paidV_row (getS ([(⟨3, 1, 105⟩ : Paid), ⟨3, 2, 106⟩]) noPaid (by first | omega | (simp only [List.length_cons, List.length_nil]; omega))) rfl) rfl rfl rfl (rfl) rfl rfl ?_
  refine W.rdg (Any.rd (.dec (.eql rfl rfl) (show _ = true from by decide)) _) rfl rfl rfl (rfl) rfl rfl ?_
  refine W.any (.pickT rfl rfl rfl) rfl rfl rfl ?_
  refine W.any (.assign rfl) rfl rfl rfl ?_
  refine W.nil ?_
  refine E.thenN ?_
  refine WC.seq ?_
  refine WC.region ?_
  refine W.any (.move rfl) rfl rfl rfl ?_
  refine W.any (.move rfl) rfl rfl rfl ?_
  refine W.rdg (Any.rd (.move rfl) _) rfl rfl rfl (rfl) rfl rfl ?_
  refine W.rdg (Any.rd (.dec (.eql rfl rfl) (show _ = true from by decide)) _) rfl rfl rfl (rfl) rfl rfl ?_
  refine W.any (.pickT rfl rfl rfl) rfl rfl rfl ?_
  refine W.any (.move rfl) rfl rfl rfl ?_
  refine W.rdg (Any.rd (.move rfl) _) rfl rfl rfl (rfl) rfl rfl ?_
  refine W.any (.pickT rfl rfl rfl) rfl rfl rfl ?_
  refine W.any (.move rfl) rfl rfl rfl ?_
  refine W.rdg (Any.rd (.move rfl) _) rfl rfl rfl (rfl) rfl rfl ?_
  refine W.any (.pickT rfl rfl rfl) rfl rfl rfl ?_
  refine W.any (.move rfl) rfl rfl rfl ?_
  refine W.rdg (Any.rd (.move rfl) _) rfl rfl rfl (rfl) rfl rfl ?_
  refine W.rdg (Any.rd (.dec (.eql rfl rfl) (show _ = true from by decide)) _) rfl rfl rfl (rfl) rfl rfl ?_
  refine W.any (.pickT rfl rfl rfl) rfl rfl rfl ?_
  refine W.any (.move rfl) rfl rfl rfl ?_
  refine W.rdg (Any.rd (.move rfl) _) rfl rfl rfl (rfl) rfl rfl ?_
  refine W.rdg (Any.rd (.dec (.eql rfl rfl) (show _ = true from by decide)) _) rfl rfl rfl (rfl) rfl rfl ?_
  refine W.any (.pickT rfl rfl rfl) rfl rfl rfl ?_
  refine W.any (.move rfl) rfl rfl rfl ?_
  refine W.rdg (Any.rd (.move rfl) _) rfl rfl rfl (rfl) rfl rfl ?_
  refine W.rdg (.len Try.underlying46 rfl) rfl rfl rfl (rfl) rfl rfl ?_
  refine W.rdg (Any.rd (.dec (.eql rfl rfl) (show _ = true from by decide)) _) rfl rfl rfl (rfl) rfl rfl ?_
  refine W.any (.pickT rfl rfl rfl) rfl rfl rfl ?_
  refine W.any (.move rfl) rfl rfl rfl ?_
  refine W.rdg (Any.rd (.move rfl) _) rfl rfl rfl (rfl) rfl rfl ?_
  refine W.rdg (Any.rd (.idxS (0) Try.underlying46 sz33 rfl rfl (o17_1.vec.isSome partV_row (by omega)) (rfl) (by omega)) _) rfl rfl rfl (rfl) rfl rfl ?_
  refine W.rdg (Any.rd (.vfield fa33_1 (o17_1.vec.isSome partV_row (by omega)) rfl) _) rfl rfl rfl (rfl) rfl rfl ?_
  have f113 := (o17_1.le h18_1)
  refine W.rdg (.vcell (j := 0) (o := 1) (v := .int .i64 ((([prt 1 6 9 5]).getD 0 noPart).id)) na3 rfl f113.vec partV_row (getS ([prt 1 6 9 5]) noPart (by first | omega | (simp only [List.length_cons, List.length_nil]; omega))) rfl) rfl rfl rfl (rfl) rfl rfl ?_
  refine W.rdg (Any.rd (.dec (.eql rfl rfl) (show _ = true from by decide)) _) rfl rfl rfl (rfl) rfl rfl ?_
  refine W.any (.pickT rfl rfl rfl) rfl rfl rfl ?_
  refine W.any (.move rfl) rfl rfl rfl ?_
  refine W.rdg (Any.rd (.move rfl) _) rfl rfl rfl (rfl) rfl rfl ?_
  refine W.any (.pickT rfl rfl rfl) rfl rfl rfl ?_
  refine W.any (.move rfl) rfl rfl rfl ?_
  refine W.rdg (Any.rd (.move rfl) _) rfl rfl rfl (rfl) rfl rfl ?_
  refine W.rdg (Any.rd (.not rfl) _) rfl rfl rfl (rfl) rfl rfl ?_
  refine W.any (.pickT rfl rfl rfl) rfl rfl rfl ?_
  refine W.any (.move rfl) rfl rfl rfl ?_
  refine W.rdg (Any.rd (.move rfl) _) rfl rfl rfl (rfl) rfl rfl ?_
  have f114 := (p17_1.le h18_1)
  refine W.efg rfl rfl rfl (rfl) rfl rfl ?_
  refine Ef.call go27 rfl rfl ((by have h := names_pool f114 (by rw [e_n6]; omega); simp only [e_n6] at h; exact h)) ?_
  rintro _ w22_40 ⟨A22_40, c22_40, rfl, o22_40, h22_40⟩
  refine ⟨_, rfl, ?_⟩
  have L115 := L110.trans h22_40
  refine W.rdg (.len Try.underlying53 rfl) rfl rfl rfl (rfl) rfl rfl ?_
  refine W.rdg (Any.rd (.dec (.eql rfl rfl) (show _ = true from by decide)) _) rfl rfl rfl (rfl) rfl rfl ?_
  refine W.any (.pickT rfl rfl rfl) rfl rfl rfl ?_
  refine W.any (.move rfl) rfl rfl rfl ?_
  refine W.rdg (Any.rd (.move rfl) _) rfl rfl rfl (rfl) rfl rfl ?_
  have f116 := (f114.le h22_40)
  refine W.efg rfl rfl rfl (rfl) rfl rfl ?_
  refine Ef.call go29 rfl rfl ((by have h := held_pool 7 f116; simp only [e_h2, List.length_cons, List.length_nil] at h; exact h)) ?_
  rintro _ w22_46 ⟨A22_46, c22_46, rfl, o22_46, h22_46⟩
  refine ⟨_, rfl, ?_⟩
  have L117 := L115.trans h22_46
  refine W.rdg (.len Try.underlying46 rfl) rfl rfl rfl (rfl) rfl rfl ?_
  refine W.rdg (Any.rd (.dec (.eql rfl rfl) (show _ = true from by decide)) _) rfl rfl rfl (rfl) rfl rfl ?_
  refine W.any (.pickT rfl rfl rfl) rfl rfl rfl ?_
  refine W.any (.assign rfl) rfl rfl rfl ?_
  refine W.nil ?_
  refine E.thenN ?_
  refine WC.ret ?_
  refine E.retG1 rfl rfl ?_
  exact ⟨rfl, L117⟩
end Go.Proofs.Ytfgakofjkldcjaa

namespace Go.Proofs.Ytfgakofjkldcjaa
open Go Go.Sx Go.Hsp Go.Num Go.Osp Go.Gsp
set_option maxRecDepth 20000
set_option linter.unusedSimpArgs false
set_option linter.unusedVariables false
def rpt (g : Nat) : List Value := [.pointer (some ⟨g, 0, none⟩)]
theorem rpt_row : RowF rpt 1 := ⟨fun _ => rfl, fun x v hv => by simp [rpt] at hv; subst hv; rfl, by decide⟩
def noEnt : Ent := ⟨0, 0, 0, none, 0, ⟨0, 0, 0, 0, [], 0, false, false⟩⟩
def Ent.rarr (e : Ent) : Array Value := #[.int .i64 (e.name), .int .u64 (((e.pay.sec : Nat) : Int)), .int .i64 (e.pay.tot), .int .i64 (e.pay.by_), .int .i64 (e.pay.lst), .slice e.A e.pay.held.length e.c, .bool (e.pay.ovr), .bool (e.pay.paid)]
def RAt (w : World) (e : Ent) : Prop := Blk w e.g 130 e.rarr ∧ OVec w 0 44 partV 6 e.A e.pay.held.length e.c e.pay.held
def RPays (w : World) (L : List Ent) : Prop := ∀ e ∈ L, RAt w e
section
variable {w w' : World} {L : List Ent} {e : Ent}
theorem RAt.chP {F : Nat → Prop} (h : RAt w e) (hc : ChP w w' F) (hne : ∀ k, e.has k → ¬ F k) : RAt w' e := ⟨h.1.chP hc (hne _ (.inl rfl)), h.2.chP hc (fun g hg => hne g (.inr hg))⟩
theorem RAt.lt (h : RAt w e) {k : Nat} (hk : e.has k) : k < w.heap.size := by
  rcases hk with rfl | hk
  · exact h.1.lt
  · exact (h.2.row hk).2
theorem RPays.chP {F : Nat → Prop} (h : RPays w L) (hc : ChP w w' F) (hne : ∀ k, (∃ e ∈ L, e.has k) → ¬ F k) : RPays w' L := fun e he => (h e he).chP hc (fun k hk => hne k ⟨e, he, hk⟩)
theorem RPays.ch {r : Option Nat} (h : RPays w L) (hc : Ch w w' r) (hne : ∀ k, r = some k → ∀ e ∈ L, ¬ e.has k) : RPays w' L := h.chP (hc.chP (F := fun k => r = some k) (fun i hi => hi)) (fun k hk hr => by obtain ⟨e, he, hh⟩ := hk; exact hne k hr e he hh)
theorem RPays.le (h : RPays w L) (hl : Le w w') : RPays w' L := h.chP (hl.chP (fun _ => False)) (fun _ _ hf => hf)
theorem RPays.lt (h : RPays w L) {e : Ent} (he : e ∈ L) {k : Nat} (hk : e.has k) : k < w.heap.size := (h e he).lt hk
end
/-- Blocks that do not touch. -/
structure RSep (gp : Nat) (A : Option Addr) (c : Nat) (L : List Ent) : Prop where
  names : (L.map (·.name)).Nodup
  pw : ∀ a ∈ L, ∀ b ∈ L, a.name ≠ b.name → ∀ k, a.has k → ¬ b.has k
  own : ∀ e ∈ L, rowOf e.A e.c ≠ some e.g
  p : ∀ e ∈ L, ¬ e.has gp
  a : ∀ e ∈ L, ∀ k, rowOf A c = some k → ¬ e.has k
  pa : rowOf A c ≠ some gp
structure RPoolL (w : World) (gp : Nat) (A : Option Addr) (c : Nat) (L : List Ent) : Prop where
  hp : Blk w gp 120 #[.slice A L.length c]
  hV : OVec w 0 131 rpt 1 A L.length c (L.map (·.g))
  hP : RPays w L
  hS : RSep gp A c L
  good : GoodP (L.map trP)
def RF (gp : Nat) (A : Option Addr) (c : Nat) (L : List Ent) (k : Nat) : Prop := k = gp ∨ rowOf A c = some k ∨ ∃ e ∈ L, e.has k
section
variable {w w' : World} {gp : Nat} {A : Option Addr} {c : Nat} {L : List Ent}
theorem RPoolL.chP {F' : Nat → Prop} (h : RPoolL w gp A c L) (hc : ChP w w' F') (hne : ∀ k, RF gp A c L k → ¬ F' k) : RPoolL w' gp A c L :=
  ⟨h.hp.chP hc (hne _ (.inl rfl)), h.hV.chP hc (fun k hk => hne _ (.inr (.inl hk))), h.hP.chP hc (fun k hk => hne k (.inr (.inr hk))), h.hS, h.good⟩
theorem RPoolL.le (h : RPoolL w gp A c L) (hl : Le w w') : RPoolL w' gp A c L := h.chP (hl.chP (fun _ => False)) (fun _ _ hf => hf)
theorem RPoolL.lt (h : RPoolL w gp A c L) {k : Nat} (hk : RF gp A c L k) : k < w.heap.size := by
  rcases hk with rfl | hk | ⟨e, he, hh⟩
  · exact h.hp.lt
  · exact (h.hV.row hk).2
  · exact h.hP.lt he hh
end
theorem getM (L : List Ent) {i : Nat} (h : i < L.length) : (L.map (·.g))[i]? = some (L.getD i noEnt).g := by simp [h, List.getD]
theorem memE (L : List Ent) {i : Nat} (h : i < L.length) : L.getD i noEnt ∈ L := by simp [h, List.getD]
/-- Where a name is. -/
def FindR (L : List Ent) (nm z : Int) : Prop := (z = -1 ∧ getP nm (L.map trP) = none) ∨ (0 ≤ z ∧ z.toNat < L.length ∧ (L.getD z.toNat noEnt).name = nm)
theorem find_none {L : List Ent} {nm : Int} {k : Nat} (h : ∀ j, j < k → (L.getD j noEnt).name ≠ nm) (hk : L.length ≤ k) : getP nm (L.map trP) = none := by
  rw [getP_none]
  intro y hy e
  obtain ⟨x, hx, rfl⟩ := List.mem_map.1 hy
  obtain ⟨j, hj, ej⟩ := List.getElem_of_mem hx
  refine h j (by omega) ?_
  rw [List.getD_eq_getElem?_getD, List.getElem?_eq_getElem hj, ej]
  exact e
theorem find_some {L : List Ent} {nm : Int} {i : Nat} (hN : (L.map (·.name)).Nodup) (hi : i < L.length) (hn : (L.getD i noEnt).name = nm) : getP nm (L.map trP) = some (L.getD i noEnt).pay := by
  refine getP_of ?_ ?_
  · rw [List.map_map]; exact hN
  · exact List.mem_map.2 ⟨_, memE L hi, by rw [← hn]; rfl⟩
theorem FindR.neg {L : List Ent} {nm z : Int} (h : FindR L nm z) (hz : z < 0) : getP nm (L.map trP) = none := by
  rcases h with h | h
  · exact h.2
  · omega
theorem FindR.pos {L : List Ent} {nm z : Int} (h : FindR L nm z) (hz : ¬ z < 0) : 0 ≤ z ∧ z.toNat < L.length ∧ (L.getD z.toNat noEnt).name = nm := by
  rcases h with h | h
  · omega
  · exact h
def heldNo (x : Part) (l : List Part) : Prop := ∀ y ∈ l, keyP y ≠ keyP x
theorem hk_true {L : List Ent} {x : Part} {i k : Nat} (hi : i < L.length) (hk : k < (L.getD i noEnt).pay.held.length) (h1 : ((L.getD i noEnt).pay.held.getD k noPart).ch = x.ch) (h2 : ((L.getD i noEnt).pay.held.getD k noPart).id = x.id) : hkS (L.map trP) (keyP x) = true := by
  rw [hkS_iff]
  unfold keysS
  refine List.mem_flatMap.2 ⟨_, List.mem_map.2 ⟨_, memE L hi, rfl⟩, List.mem_map.2 ⟨(L.getD i noEnt).pay.held.getD k noPart, List.mem_of_getElem? (getS _ noPart hk), ?_⟩⟩
  unfold keyP
  rw [h1, h2]
theorem hk_false {L : List Ent} {x : Part} (h : ∀ j, j < L.length → heldNo x (L.getD j noEnt).pay.held) : hkS (L.map trP) (keyP x) = false := by
  rw [Bool.eq_false_iff]
  intro hk
  rw [hkS_iff] at hk
  unfold keysS at hk
  obtain ⟨y, hy, hk⟩ := List.mem_flatMap.1 hk
  obtain ⟨e, he, rfl⟩ := List.mem_map.1 hy
  obtain ⟨j, hj, ej⟩ := List.getElem_of_mem he
  have := h j hj
  rw [List.getD_eq_getElem?_getD, List.getElem?_eq_getElem hj, ej] at this
  obtain ⟨z, hz, ez⟩ := List.mem_map.1 hk
  exact this z hz ez
theorem heldNo_next {x : Part} {l : List Part} {k : Nat} (h : heldNo x (l.take k)) (hk : k < l.length) (hn : ¬ ((l.getD k noPart).ch = x.ch ∧ (l.getD k noPart).id = x.id)) : heldNo x (l.take (k + 1)) := by
  intro y hy
  rw [List.take_add_one, getS l noPart hk] at hy
  rcases List.mem_append.1 hy with hy | hy
  · exact h y hy
  · simp only [Option.toList, List.mem_singleton] at hy
    subst hy
    intro e
    exact hn ⟨congrArg Prod.fst e, congrArg Prod.snd e⟩
theorem names_next {L : List Ent} {i : Nat} (h : i < L.length) : (L.take i).map (·.name) ++ [(L.getD i noEnt).name] = (L.take (i + 1)).map (·.name) := by
  have e : L[i]? = some (L.getD i noEnt) := by simp [h, List.getD]
  rw [List.take_add_one, e, List.map_append]
  rfl
theorem rin_ok (n lo hi : Int) (w : World) : Calls Try.prog 62 #[.int .i64 (n), .int .i64 (lo), .int .i64 (hi)] w fun r w' => r = .returned (.bool (decide (lo ≤ n ∧ n ≤ hi))) ∧ Le w w' := by
  refine enter Try.func62 rfl rfl ?_
  have L0 := Le.refl w
  refine WC.seq ?_
  refine WC.region ?_
  refine W.any (.assign rfl) rfl rfl rfl ?_
  refine W.nil ?_
  refine E.thenN ?_
  refine WC.seq ?_
  refine WC.region ?_
  refine W.any (.move rfl) rfl rfl rfl ?_
  refine W.any (.move rfl) rfl rfl rfl ?_
  refine W.any (.geq rfl rfl) rfl rfl rfl ?_
  by_cases q1_3 : lo ≤ n
  · refine W.any (.dec (.move rfl) (decide_eq_true q1_3)) rfl rfl rfl ?_
    refine W.rdg (Any.rd (.move rfl) _) rfl rfl rfl (rfl) rfl rfl ?_
    refine W.rdg (Any.rd (.move rfl) _) rfl rfl rfl (rfl) rfl rfl ?_
    refine W.rdg (Any.rd (.leq rfl rfl) _) rfl rfl rfl (rfl) rfl rfl ?_
    refine W.any (.pickT rfl rfl rfl) rfl rfl rfl ?_
    refine W.any (.assign rfl) rfl rfl rfl ?_
    refine W.nil ?_
    refine E.thenN ?_
    refine WC.ret ?_
    refine E.retG1 rfl rfl ?_
    exact ⟨congrArg (fun b => Ending.returned (Value.bool b)) (by simp [q1_3]), L0⟩
  · refine W.any (.dec (.move rfl) (decide_eq_false q1_3)) rfl rfl rfl ?_
    refine W.skip rfl rfl rfl (rfl) rfl rfl ?_
    refine W.skip rfl rfl rfl (rfl) rfl rfl ?_
    refine W.skip rfl rfl rfl (rfl) rfl rfl ?_
    refine W.any (.pickF rfl rfl rfl) rfl rfl rfl ?_
    refine W.any (.assign rfl) rfl rfl rfl ?_
    refine W.nil ?_
    refine E.thenN ?_
    refine WC.ret ?_
    refine E.retG1 rfl rfl ?_
    exact ⟨congrArg (fun b => Ending.returned (Value.bool b)) (by simp [q1_3]), L0⟩

theorem rfind_ok {gp : Nat} {A : Option Addr} {c : Nat} {L : List Ent} (nm : Int) (w : World) (hR : RPoolL w gp A c L) (hl : L.length ≤ 1000) : Calls Try.prog 63 #[.pointer (some ⟨gp, 0, none⟩), .int .i64 (nm)] w fun r w' => ∃ z : Int, r = .returned (.int .i64 z) ∧ FindR L nm z ∧ Le w w' := by
  refine enter Try.func63 rfl rfl ?_
  have L0 := Le.refl w
  refine WC.seq ?_
  refine WC.region ?_
  refine W.any (.assign rfl) rfl rfl rfl ?_
  refine W.nil ?_
  refine E.thenN ?_
  refine WC.seq ?_
  refine WC.seq ?_
  refine WC.region ?_
  refine W.any (.assign rfl) rfl rfl rfl ?_
  refine W.nil ?_
  refine E.thenN ?_
  refine WC.block ?_
  refine WC.loop (ι := Nat) (fun k => [(0, .pointer (some ⟨gp, 0, none⟩)), (1, .int .i64 (nm)), (5, .int .i64 (((k : Nat) : Int)))]) (fun k wl0 => (k ≤ L.length) ∧ (∀ j, j < k → (L.getD j noEnt).name ≠ nm) ∧ Le w wl0 ∧ w.heap.size ≤ wl0.heap.size) (fun k => L.length - k) 0 ?_ ?_ ?_
  · exact .cons rfl (.cons rfl (.cons rfl (.nil _)))
  · exact ⟨Nat.zero_le _, fun j hj => by omega, L0, Nat.le_refl _⟩
  · rintro k wl0 ⟨hk, hno, Ll0, sz0⟩
    refine WC.seq ?_
    refine WC.seq ?_
    refine WC.region ?_
    refine W.any (.move rfl) rfl rfl rfl ?_
    refine W.any (.move rfl) rfl rfl rfl ?_
    refine W.any (.nilCheck rfl) rfl rfl rfl ?_
    refine W.any (.field0 fa120_0 rfl) rfl rfl rfl ?_
    refine W.rd (.loadB (v := .slice A L.length c) na118 rfl (hR.hp.le Ll0) rfl) rfl rfl rfl ?_
    refine W.rd (.len Try.underlying118 rfl) rfl rfl rfl ?_
    refine W.any (.lss rfl rfl) rfl rfl rfl ?_
    refine W.nil ?_
    refine E.thenN ?_
    by_cases c0 : ((k : Nat) : Int) < ((L.length : Nat) : Int)
    · refine WC.condY rfl (decide_eq_true c0) ?_
      refine WC.skip ?_
      refine E.thenN ?_
      refine WC.seq ?_
      refine WC.block ?_
      refine WC.seq ?_
      refine WC.region ?_
      refine W.any (.move rfl) rfl rfl rfl ?_
      refine W.any (.nilCheck rfl) rfl rfl rfl ?_
      refine W.any (.field0 fa120_0 rfl) rfl rfl rfl ?_
      refine W.rd (.loadB (v := .slice A L.length c) na118 rfl (hR.hp.le Ll0) rfl) rfl rfl rfl ?_
      refine W.any (.move rfl) rfl rfl rfl ?_
      refine W.any (.idxS (k) Try.underlying118 sz131 rfl rfl (hR.hV.vec.isSome rpt_row (by omega)) (rfl) (by omega)) rfl rfl rfl ?_
      refine W.rd (.vone (v := .pointer (some ⟨(L.getD k noEnt).g, 0, none⟩)) na131 rfl (hR.hV.vec.le Ll0) rpt_row (getM L (i := k) (by omega)) rfl) rfl rfl rfl ?_
      have eE1 := hR.hP _ (memE L (i := k) (by omega))
      refine W.any (.nilCheck rfl) rfl rfl rfl ?_
      refine W.any (.field0 fa130_0 rfl) rfl rfl rfl ?_
      refine W.rd (.loadB (v := .int .i64 ((L.getD k noEnt).name)) na3 rfl (eE1.1.le Ll0) rfl) rfl rfl rfl ?_
      refine W.any (.move rfl) rfl rfl rfl ?_
      refine W.any (.eql rfl rfl) rfl rfl rfl ?_
      refine W.nil ?_
      refine E.thenN ?_
      by_cases c1 : ((L.getD k noEnt).name) = nm
      · refine WC.condY rfl (decide_eq_true c1) ?_
        refine WC.seq ?_
        refine WC.region ?_
        refine W.any (.move rfl) rfl rfl rfl ?_
        refine W.any (.assign rfl) rfl rfl rfl ?_
        refine W.nil ?_
        refine E.thenN ?_
        refine WC.ret ?_
        refine E.blkR ?_
        refine E.thenR ?_
        refine E.thenR ?_
        refine E.blkR ?_
        refine E.thenR ?_
        refine E.retG1 rfl rfl ?_
        exact ⟨_, rfl, .inr ⟨by omega, by simp; omega, by simpa using c1⟩, Ll0⟩
      · refine WC.condN rfl (decide_eq_false c1) ?_
        refine WC.skip ?_
        refine E.blkN ?_
        refine E.thenN ?_
        refine WC.region ?_
        refine W.any (.move rfl) rfl rfl rfl ?_
        refine W.any (.add rfl rfl (by omega)) rfl rfl rfl ?_
        refine W.any (.assign rfl) rfl rfl rfl ?_
        refine W.nil ?_
        refine E.again (k + 1) (.cons rfl (.cons rfl (.cons rfl (.nil _)))) ?_ ?_
        · exact ⟨by omega, fun j hj => (Nat.lt_succ_iff_lt_or_eq.1 hj).elim (hno j) (fun hh => by subst hh; exact c1), Ll0, by have := sz0; omega⟩
        · first | omega | (simp only []; omega)
    · refine WC.condN rfl (decide_eq_false c0) ?_
      refine WC.exit ?_
      refine E.thenX ?_
      refine E.thenX ?_
      refine E.blkH ?_
      refine E.thenN ?_
      refine WC.seq ?_
      refine WC.region ?_
      refine W.any (.assign rfl) rfl rfl rfl ?_
      refine W.nil ?_
      refine E.thenN ?_
      refine WC.ret ?_
      refine E.retG1 rfl rfl ?_
      exact ⟨_, rfl, .inl ⟨rfl, find_none hno (by omega)⟩, Ll0⟩

theorem rholds_ok {gp : Nat} {A : Option Addr} {c : Nat} {L : List Ent} (x : Part) (w : World) (hR : RPoolL w gp A c L) (hl : L.length ≤ 1000) (hhl : ∀ e ∈ L, e.pay.held.length ≤ 1000) : Calls Try.prog 66 #[.pointer (some ⟨gp, 0, none⟩), .agg (partV x).toArray] w fun r w' => r = .returned (.bool (hkS (L.map trP) (keyP x))) ∧ Le w w' := by
  refine enter Try.func66 rfl rfl ?_
  have L0 := Le.refl w
  refine WC.seq ?_
  refine WC.region ?_
  refine W.ef rfl rfl rfl ?_
  refine Ef.boxA rfl ?_
  intro g0_0 w0_0 hg0_0 b0_0 h0_0
  have L1 := L0.trans h0_0
  have b0_0 : Blk w0_0 g0_0 44 (partV x).toArray := b0_0
  refine W.any (.assign rfl) rfl rfl rfl ?_
  refine W.nil ?_
  refine E.thenN ?_
  refine WC.seq ?_
  refine WC.seq ?_
  refine WC.region ?_
  refine W.any (.assign rfl) rfl rfl rfl ?_
  refine W.nil ?_
  refine E.thenN ?_
  refine WC.block ?_
  refine WC.loop (ι := Nat) (fun i => [(0, .pointer (some ⟨gp, 0, none⟩)), (3, .pointer (some ⟨g0_0, 0, none⟩)), (5, .int .i64 (((i : Nat) : Int)))]) (fun i wl0 => (i ≤ L.length) ∧ (∀ j, j < i → heldNo x (L.getD j noEnt).pay.held) ∧ Le w wl0 ∧ w0_0.heap.size ≤ wl0.heap.size ∧ Blk wl0 g0_0 44 (partV x).toArray) (fun i => L.length - i) 0 ?_ ?_ ?_
  · exact .cons rfl (.cons rfl (.cons rfl (.nil _)))
  · exact ⟨Nat.zero_le _, fun j hj => by omega, L1, Nat.le_refl _, b0_0⟩
  · rintro i wl0 ⟨hi, hno, Ll0, sz0, f0_0⟩
    refine WC.seq ?_
    refine WC.seq ?_
    refine WC.region ?_
    refine W.any (.move rfl) rfl rfl rfl ?_
    refine W.any (.move rfl) rfl rfl rfl ?_
    refine W.any (.nilCheck rfl) rfl rfl rfl ?_
    refine W.any (.field0 fa120_0 rfl) rfl rfl rfl ?_
    refine W.rd (.loadB (v := .slice A L.length c) na118 rfl (hR.hp.le Ll0) rfl) rfl rfl rfl ?_
    refine W.rd (.len Try.underlying118 rfl) rfl rfl rfl ?_
    refine W.any (.lss rfl rfl) rfl rfl rfl ?_
    refine W.nil ?_
    refine E.thenN ?_
    by_cases c0 : ((i : Nat) : Int) < ((L.length : Nat) : Int)
    · refine WC.condY rfl (decide_eq_true c0) ?_
      refine WC.skip ?_
      refine E.thenN ?_
      refine WC.seq ?_
      refine WC.block ?_
      refine WC.seq ?_
      refine WC.region ?_
      refine W.any (.assign rfl) rfl rfl rfl ?_
      refine W.nil ?_
      refine E.thenN ?_
      refine WC.block ?_
      refine WC.loop (ι := Nat) (fun k => [(0, .pointer (some ⟨gp, 0, none⟩)), (3, .pointer (some ⟨g0_0, 0, none⟩)), (5, .int .i64 (((i : Nat) : Int))), (6, .int .i64 (((k : Nat) : Int)))]) (fun k wl1 => (k ≤ (L.getD i noEnt).pay.held.length) ∧ (heldNo x ((L.getD i noEnt).pay.held.take k)) ∧ Le w wl1 ∧ wl0.heap.size ≤ wl1.heap.size ∧ Blk wl1 g0_0 44 (partV x).toArray) (fun k => (L.getD i noEnt).pay.held.length - k) 0 ?_ ?_ ?_
      · exact .cons rfl (.cons rfl (.cons rfl (.cons rfl (.nil _))))
      · exact ⟨Nat.zero_le _, by simp [heldNo], Ll0, Nat.le_refl _, f0_0⟩
      · rintro k wl1 ⟨hk, hin, Ll1, sz1, f1_0⟩
        have hh8 := hhl _ (memE L (i := i) (by omega))
        refine WC.seq ?_
        refine WC.seq ?_
        refine WC.region ?_
        refine W.any (.move rfl) rfl rfl rfl ?_
        refine W.any (.move rfl) rfl rfl rfl ?_
        refine W.any (.nilCheck rfl) rfl rfl rfl ?_
        refine W.any (.field0 fa120_0 rfl) rfl rfl rfl ?_
        refine W.rd (.loadB (v := .slice A L.length c) na118 rfl (hR.hp.le Ll1) rfl) rfl rfl rfl ?_
        refine W.any (.move rfl) rfl rfl rfl ?_
        refine W.any (.idxS (i) Try.underlying118 sz131 rfl rfl (hR.hV.vec.isSome rpt_row (by omega)) (rfl) (by omega)) rfl rfl rfl ?_
        refine W.rd (.vone (v := .pointer (some ⟨(L.getD i noEnt).g, 0, none⟩)) na131 rfl (hR.hV.vec.le Ll1) rpt_row (getM L (i := i) (by omega)) rfl) rfl rfl rfl ?_
        have eE2 := hR.hP _ (memE L (i := i) (by omega))
        refine W.any (.nilCheck rfl) rfl rfl rfl ?_
        refine W.any (.field0 fa130_5 rfl) rfl rfl rfl ?_
        refine W.rd (.loadB (v := .slice ((L.getD i noEnt).A) ((L.getD i noEnt).pay.held.length) ((L.getD i noEnt).c)) na49 rfl (eE2.1.le Ll1) rfl) rfl rfl rfl ?_
        refine W.rd (.len Try.underlying49 rfl) rfl rfl rfl ?_
        refine W.any (.lss rfl rfl) rfl rfl rfl ?_
        refine W.nil ?_
        refine E.thenN ?_
        by_cases c1 : ((k : Nat) : Int) < (((L.getD i noEnt).pay.held.length : Nat) : Int)
        · refine WC.condY rfl (decide_eq_true c1) ?_
          refine WC.skip ?_
          refine E.thenN ?_
          refine WC.seq ?_
          refine WC.block ?_
          refine WC.seq ?_
          refine WC.region ?_
          refine W.any (.move rfl) rfl rfl rfl ?_
          refine W.any (.nilCheck rfl) rfl rfl rfl ?_
          refine W.any (.field0 fa120_0 rfl) rfl rfl rfl ?_
          refine W.rd (.loadB (v := .slice A L.length c) na118 rfl (hR.hp.le Ll1) rfl) rfl rfl rfl ?_
          refine W.any (.move rfl) rfl rfl rfl ?_
          refine W.any (.idxS (i) Try.underlying118 sz131 rfl rfl (hR.hV.vec.isSome rpt_row (by omega)) (rfl) (by omega)) rfl rfl rfl ?_
          refine W.rd (.vone (v := .pointer (some ⟨(L.getD i noEnt).g, 0, none⟩)) na131 rfl (hR.hV.vec.le Ll1) rpt_row (getM L (i := i) (by omega)) rfl) rfl rfl rfl ?_
          have eE3 := hR.hP _ (memE L (i := i) (by omega))
          refine W.any (.nilCheck rfl) rfl rfl rfl ?_
          refine W.any (.field0 fa130_5 rfl) rfl rfl rfl ?_
          refine W.rd (.loadB (v := .slice ((L.getD i noEnt).A) ((L.getD i noEnt).pay.held.length) ((L.getD i noEnt).c)) na49 rfl (eE2.1.le Ll1) rfl) rfl rfl rfl ?_
          refine W.any (.move rfl) rfl rfl rfl ?_
          refine W.any (.idxS (k) Try.underlying49 sz44 rfl rfl (eE2.2.vec.isSome partV_row (by omega)) (rfl) (by omega)) rfl rfl rfl ?_
          refine W.rd (.vload ag44 rfl (eE2.2.le Ll1).vec partV_row (getS ((L.getD i noEnt).pay.held) noPart (by first | omega | (simp only [List.length_cons, List.length_nil]; omega)))) rfl rfl rfl ?_
          refine W.ef rfl rfl rfl ?_
          refine Ef.allocA z44 ?_
          intro g7_13 w7_13 hg7_13 b7_13 h7_13
          have L4 := Ll1.trans h7_13
          have b7_13 : Blk w7_13 g7_13 44 (partV noPart).toArray := b7_13
          refine W.ef0 rfl rfl ?_
          refine Ef.storeAll sz44 (by rfl) rfl rfl b7_13 (by rfl) (partV_row.one (((L.getD i noEnt).pay.held).getD k noPart)) ?_
          intro w7_14 b7_14 h7_14
          have b7_14 : Blk w7_14 g7_13 44 (partV (((L.getD i noEnt).pay.held).getD k noPart)).toArray := b7_14
          have L5 : Le w w7_14 := L4.then_ h7_14 (fun q hq => by cases hq; exact Nat.le_trans Ll1.size hg7_13)
          refine W.nil ?_
          refine E.thenN ?_
          refine WC.seq ?_
          refine WC.region ?_
          refine W.any (.field0 fa44_0 rfl) rfl rfl rfl ?_
          refine W.rd (.loadB (v := .int .i64 ((((L.getD i noEnt).pay.held).getD k noPart).ch)) na3 rfl b7_14 rfl) rfl rfl rfl ?_
          refine W.any (.field0 fa44_0 rfl) rfl rfl rfl ?_
          have f6 := ((f1_0.le h7_13).ch h7_14 (fun h => (show g7_13 ≠ g0_0 from by have := f1_0.lt; omega) (Option.some.inj h)))
          refine W.rd (.loadB (v := .int .i64 (x.ch)) na3 rfl f6 rfl) rfl rfl rfl ?_
          refine W.any (.eql rfl rfl) rfl rfl rfl ?_
          by_cases q8_5 : ((((L.getD i noEnt).pay.held).getD k noPart).ch) = x.ch
          · refine W.any (.dec (.move rfl) (decide_eq_true q8_5)) rfl rfl rfl ?_
            refine W.rdg (Any.rd (.field0 fa44_1 rfl) _) rfl rfl rfl (rfl) rfl rfl ?_
            refine W.rdg (.loadB (v := .int .i64 ((((L.getD i noEnt).pay.held).getD k noPart).id)) na3 rfl b7_14 rfl) rfl rfl rfl (rfl) rfl rfl ?_
            refine W.rdg (Any.rd (.field0 fa44_1 rfl) _) rfl rfl rfl (rfl) rfl rfl ?_
            refine W.rdg (.loadB (v := .int .i64 (x.id)) na3 rfl f6 rfl) rfl rfl rfl (rfl) rfl rfl ?_
            refine W.rdg (Any.rd (.eql rfl rfl) _) rfl rfl rfl (rfl) rfl rfl ?_
            refine W.any (.pickT rfl rfl rfl) rfl rfl rfl ?_
            refine W.nil ?_
            refine E.thenN ?_
            by_cases c2 : ((((L.getD i noEnt).pay.held).getD k noPart).id) = x.id
            · refine WC.condY rfl (decide_eq_true c2) ?_
              refine WC.seq ?_
              refine WC.region ?_
              refine W.any (.assign rfl) rfl rfl rfl ?_
              refine W.nil ?_
              refine E.thenN ?_
              refine WC.ret ?_
              refine E.blkR ?_
              refine E.thenR ?_
              refine E.thenR ?_
              refine E.blkR ?_
              refine E.blkR ?_
              refine E.thenR ?_
              refine E.thenR ?_
              refine E.blkR ?_
              refine E.thenR ?_
              refine E.retG1 rfl rfl ?_
              exact ⟨by rw [hk_true (i := i) (k := k) (by omega) (by omega) q8_5 c2], L5⟩
            · refine WC.condN rfl (decide_eq_false c2) ?_
              refine WC.skip ?_
              refine E.blkN ?_
              refine E.thenN ?_
              refine WC.region ?_
              refine W.any (.move rfl) rfl rfl rfl ?_
              refine W.any (.add rfl rfl (by omega)) rfl rfl rfl ?_
              refine W.any (.assign rfl) rfl rfl rfl ?_
              refine W.nil ?_
              refine E.again (k + 1) (.cons rfl (.cons rfl (.cons rfl (.cons rfl (.nil _))))) ?_ ?_
              · exact ⟨by omega, heldNo_next hin (by omega) (by first | exact fun h => q8_5 h.1 | exact fun h => c2 h.2), L5, by have := sz1; have := h7_13.size; have := h7_14.size; omega, f6⟩
              · first | omega | (simp only []; omega)
          · refine W.any (.dec (.move rfl) (decide_eq_false q8_5)) rfl rfl rfl ?_
            refine W.skip rfl rfl rfl (rfl) rfl rfl ?_
            refine W.skip rfl rfl rfl (rfl) rfl rfl ?_
            refine W.skip rfl rfl rfl (rfl) rfl rfl ?_
            refine W.skip rfl rfl rfl (rfl) rfl rfl ?_
            refine W.skip rfl rfl rfl (rfl) rfl rfl ?_
            refine W.any (.pickF rfl rfl rfl) rfl rfl rfl ?_
            refine W.nil ?_
            refine E.thenN ?_
            refine WC.condF rfl ?_
            refine WC.skip ?_
            refine E.blkN ?_
            refine E.thenN ?_
            refine WC.region ?_
            refine W.any (.move rfl) rfl rfl rfl ?_
            refine W.any (.add rfl rfl (by omega)) rfl rfl rfl ?_
            refine W.any (.assign rfl) rfl rfl rfl ?_
            refine W.nil ?_
            refine E.again (k + 1) (.cons rfl (.cons rfl (.cons rfl (.cons rfl (.nil _))))) ?_ ?_
            · exact ⟨by omega, heldNo_next hin (by omega) (by first | exact fun h => q8_5 h.1 | exact fun h => c2 h.2), L5, by have := sz1; have := h7_13.size; have := h7_14.size; omega, f6⟩
            · first | omega | (simp only []; omega)
        · refine WC.condN rfl (decide_eq_false c1) ?_
          refine WC.exit ?_
          refine E.thenX ?_
          refine E.thenX ?_
          refine E.blkH ?_
          refine E.blkN ?_
          refine E.thenN ?_
          refine WC.region ?_
          refine W.any (.move rfl) rfl rfl rfl ?_
          refine W.any (.add rfl rfl (by omega)) rfl rfl rfl ?_
          refine W.any (.assign rfl) rfl rfl rfl ?_
          refine W.nil ?_
          refine E.again (i + 1) (.cons rfl (.cons rfl (.cons rfl (.nil _)))) ?_ ?_
          · exact ⟨by omega, fun j hj => (Nat.lt_succ_iff_lt_or_eq.1 hj).elim (hno j) (fun hh => by subst hh; rw [List.take_of_length_le (by omega)] at hin; exact hin), Ll1, by have := sz0; have := sz1; have := h0_0.size; omega, f1_0⟩
          · first | omega | (simp only []; omega)
    · refine WC.condN rfl (decide_eq_false c0) ?_
      refine WC.exit ?_
      refine E.thenX ?_
      refine E.thenX ?_
      refine E.blkH ?_
      refine E.thenN ?_
      refine WC.seq ?_
      refine WC.region ?_
      refine W.any (.assign rfl) rfl rfl rfl ?_
      refine W.nil ?_
      refine E.thenN ?_
      refine WC.ret ?_
      refine E.retG1 rfl rfl ?_
      exact ⟨by rw [hk_false (fun j hj => hno j (by omega))], Ll0⟩

theorem rheld_ok {gp : Nat} {A : Option Addr} {c : Nat} {L : List Ent} (nm : Int) (w : World) (hR : RPoolL w gp A c L) (hl : L.length ≤ 1000) : Calls Try.prog 30 #[.pointer (some ⟨gp, 0, none⟩), .int .i64 (nm)] w fun r w' => ∃ (A' : Option Addr) (c' : Nat), r = .returned (.slice A' (heldP (L.map trP) nm).length c') ∧ Vec w' partV 6 A' (heldP (L.map trP) nm).length (heldP (L.map trP) nm) ∧ Le w w' := by
  refine enter Try.func30 rfl rfl ?_
  have L0 := Le.refl w
  refine WC.seq ?_
  refine WC.region ?_
  refine W.any (.assign rfl) rfl rfl rfl ?_
  refine W.nil ?_
  refine E.thenN ?_
  refine WC.seq ?_
  refine WC.region ?_
  refine W.any (.move rfl) rfl rfl rfl ?_
  refine W.any (.move rfl) rfl rfl rfl ?_
  refine W.ef rfl rfl rfl ?_
  refine Ef.call go63 rfl rfl (rfind_ok nm w (hR.le L0) hl) ?_
  rintro _ w1_2 ⟨z1_2, rfl, hz1_2, h1_2⟩
  refine ⟨_, rfl, ?_⟩
  have L1 := L0.trans h1_2
  refine W.any (.assign rfl) rfl rfl rfl ?_
  refine W.nil ?_
  refine E.thenN ?_
  refine WC.seq ?_
  refine WC.seq ?_
  refine WC.region ?_
  refine W.any (.move rfl) rfl rfl rfl ?_
  refine W.any (.lss rfl rfl) rfl rfl rfl ?_
  refine W.nil ?_
  refine E.thenN ?_
  by_cases c0 : z1_2 < 0
  · refine WC.condY rfl (decide_eq_true c0) ?_
    have hn := hz1_2.neg c0
    refine WC.seq ?_
    refine WC.region ?_
    refine W.any (.assign rfl) rfl rfl rfl ?_
    refine W.nil ?_
    refine E.thenN ?_
    refine WC.ret ?_
    refine E.thenR ?_
    refine E.retG1 rfl rfl ?_
    have e : heldP (L.map trP) nm = [] := (by unfold heldP; rw [hn]; rfl); exact ⟨none, 0, by rw [e]; rfl, by rw [e]; exact Vec.nil _ _ _ _, L1⟩
  · refine WC.condN rfl (decide_eq_false c0) ?_
    obtain ⟨h0, hi, hnm⟩ := hz1_2.pos c0
    have hgs := find_some hR.hS.names hi hnm
    refine WC.skip ?_
    refine E.thenN ?_
    refine WC.seq ?_
    refine WC.region ?_
    refine W.any (.move rfl) rfl rfl rfl ?_
    refine W.any (.nilCheck rfl) rfl rfl rfl ?_
    refine W.any (.field0 fa120_0 rfl) rfl rfl rfl ?_
    refine W.rd (.loadB (v := .slice A L.length c) na118 rfl (hR.hp.le L1) rfl) rfl rfl rfl ?_
    refine W.any (.move rfl) rfl rfl rfl ?_
    refine W.any (.idxS ((z1_2).toNat) Try.underlying118 sz131 rfl rfl (hR.hV.vec.isSome rpt_row (by omega)) (by omega) (by omega)) rfl rfl rfl ?_
    refine W.rd (.vone (v := .pointer (some ⟨(L.getD z1_2.toNat noEnt).g, 0, none⟩)) na131 rfl (hR.hV.vec.le L1) rpt_row (getM L (i := z1_2.toNat) (by omega)) rfl) rfl rfl rfl ?_
    have eE2 := hR.hP _ (memE L (i := z1_2.toNat) (by omega))
    refine W.any (.nilCheck rfl) rfl rfl rfl ?_
    refine W.any (.field0 fa130_5 rfl) rfl rfl rfl ?_
    refine W.rd (.loadB (v := .slice ((L.getD z1_2.toNat noEnt).A) ((L.getD z1_2.toNat noEnt).pay.held.length) ((L.getD z1_2.toNat noEnt).c)) na49 rfl (eE2.1.le L1) rfl) rfl rfl rfl ?_
    refine W.any (.assign rfl) rfl rfl rfl ?_
    refine W.nil ?_
    refine E.thenN ?_
    refine WC.ret ?_
    refine E.retG1 rfl rfl ?_
    have e : heldP (L.map trP) nm = (L.getD z1_2.toNat noEnt).pay.held := (by unfold heldP; rw [hgs]; rfl); exact ⟨_, _, by rw [e], by rw [e]; exact (eE2.2.le L1).vec, L1⟩

theorem rover_ok {gp : Nat} {A : Option Addr} {c : Nat} {L : List Ent} (nm : Int) (w : World) (hR : RPoolL w gp A c L) (hl : L.length ≤ 1000) : Calls Try.prog 26 #[.pointer (some ⟨gp, 0, none⟩), .int .i64 (nm)] w fun r w' => r = .returned (.tuple #[.bool (overP (L.map trP) nm).1, .bool (overP (L.map trP) nm).2]) ∧ Le w w' := by
  refine enter Try.func26 rfl rfl ?_
  have L0 := Le.refl w
  refine WC.seq ?_
  refine WC.region ?_
  refine W.any (.assign rfl) rfl rfl rfl ?_
  refine W.any (.assign rfl) rfl rfl rfl ?_
  refine W.nil ?_
  refine E.thenN ?_
  refine WC.seq ?_
  refine WC.region ?_
  refine W.any (.move rfl) rfl rfl rfl ?_
  refine W.any (.move rfl) rfl rfl rfl ?_
  refine W.ef rfl rfl rfl ?_
  refine Ef.call go63 rfl rfl (rfind_ok nm w (hR.le L0) hl) ?_
  rintro _ w1_2 ⟨z1_2, rfl, hz1_2, h1_2⟩
  refine ⟨_, rfl, ?_⟩
  have L1 := L0.trans h1_2
  refine W.any (.assign rfl) rfl rfl rfl ?_
  refine W.nil ?_
  refine E.thenN ?_
  refine WC.seq ?_
  refine WC.seq ?_
  refine WC.region ?_
  refine W.any (.move rfl) rfl rfl rfl ?_
  refine W.any (.lss rfl rfl) rfl rfl rfl ?_
  refine W.nil ?_
  refine E.thenN ?_
  by_cases c0 : z1_2 < 0
  · refine WC.condY rfl (decide_eq_true c0) ?_
    have hn := hz1_2.neg c0
    refine WC.seq ?_
    refine WC.region ?_
    refine W.any (.assign rfl) rfl rfl rfl ?_
    refine W.any (.assign rfl) rfl rfl rfl ?_
    refine W.nil ?_
    refine E.thenN ?_
    refine WC.ret ?_
    refine E.thenR ?_
    refine E.retG2 rfl rfl rfl ?_
    have e : overP (L.map trP) nm = (false, false) := (by unfold overP; rw [hn]; rfl); exact ⟨by rw [e], L1⟩
  · refine WC.condN rfl (decide_eq_false c0) ?_
    obtain ⟨h0, hi, hnm⟩ := hz1_2.pos c0
    have hgs := find_some hR.hS.names hi hnm
    refine WC.skip ?_
    refine E.thenN ?_
    refine WC.seq ?_
    refine WC.draw [0, 1, 2, 3, 4, 5, 6, 7, 8, 9, 10, 11, 12, 13, 14, 15, 16, 17, 18, 19, 20, 21] mixed (by kernel_rfl) ?_
    intro w4 d4
    have L2 := L1.trans d4
    refine G.any rfl rfl (.move rfl) rfl rfl rfl ?_
    refine G.any rfl rfl (.nilCheck rfl) rfl rfl rfl ?_
    refine G.any rfl rfl (.field0 fa120_0 rfl) rfl rfl rfl ?_
    refine G.rd rfl rfl (.loadB (v := .slice A L.length c) na118 rfl (hR.hp.le L2) rfl) rfl rfl rfl ?_
    refine G.any rfl rfl (.move rfl) rfl rfl rfl ?_
    refine G.any rfl rfl (.idxS ((z1_2).toNat) Try.underlying118 sz131 rfl rfl (hR.hV.vec.isSome rpt_row (by omega)) (by omega) (by omega)) rfl rfl rfl ?_
    refine G.rd rfl rfl (.vone (v := .pointer (some ⟨(L.getD z1_2.toNat noEnt).g, 0, none⟩)) na131 rfl (hR.hV.vec.le L2) rpt_row (getM L (i := z1_2.toNat) (by omega)) rfl) rfl rfl rfl ?_
    have eE3 := hR.hP _ (memE L (i := z1_2.toNat) (by omega))
    refine G.any rfl rfl (.nilCheck rfl) rfl rfl rfl ?_
    refine G.any rfl rfl (.field0 fa130_6 rfl) rfl rfl rfl ?_
    refine G.rd rfl rfl (.loadB (v := .bool ((L.getD z1_2.toNat noEnt).pay.ovr)) na4 rfl (eE3.1.le L2) rfl) rfl rfl rfl ?_
    refine G.any rfl rfl (.move rfl) rfl rfl rfl ?_
    refine G.any rfl rfl (.nilCheck rfl) rfl rfl rfl ?_
    refine G.any rfl rfl (.field0 fa120_0 rfl) rfl rfl rfl ?_
    refine G.rd rfl rfl (.loadB (v := .slice A L.length c) na118 rfl (hR.hp.le L2) rfl) rfl rfl rfl ?_
    refine G.any rfl rfl (.move rfl) rfl rfl rfl ?_
    refine G.any rfl rfl (.idxS ((z1_2).toNat) Try.underlying118 sz131 rfl rfl (hR.hV.vec.isSome rpt_row (by omega)) (by omega) (by omega)) rfl rfl rfl ?_
    refine G.rd rfl rfl (.vone (v := .pointer (some ⟨(L.getD z1_2.toNat noEnt).g, 0, none⟩)) na131 rfl (hR.hV.vec.le L2) rpt_row (getM L (i := z1_2.toNat) (by omega)) rfl) rfl rfl rfl ?_
    have eE4 := hR.hP _ (memE L (i := z1_2.toNat) (by omega))
    refine G.any rfl rfl (.nilCheck rfl) rfl rfl rfl ?_
    refine G.any rfl rfl (.field0 fa130_7 rfl) rfl rfl rfl ?_
    refine G.rd rfl rfl (.loadB (v := .bool ((L.getD z1_2.toNat noEnt).pay.paid)) na4 rfl (eE3.1.le L2) rfl) rfl rfl rfl ?_
    refine G.any rfl rfl (.assign rfl) rfl rfl rfl ?_
    refine G.any rfl rfl (.assign rfl) rfl rfl rfl ?_
    refine G.nil ?_
    refine E.thenN ?_
    refine WC.ret ?_
    refine E.retG2 rfl rfl rfl ?_
    have e : overP (L.map trP) nm = ((L.getD z1_2.toNat noEnt).pay.ovr, (L.getD z1_2.toNat noEnt).pay.paid) := (by unfold overP; rw [hgs]; rfl); exact ⟨by rw [e], L2⟩

theorem rnames_ok {gp : Nat} {A : Option Addr} {c : Nat} {L : List Ent} (w : World) (hR : RPoolL w gp A c L) (hl : L.length ≤ 1000) : Calls Try.prog 28 #[.pointer (some ⟨gp, 0, none⟩)] w fun r w' => ∃ (A' : Option Addr) (c' : Nat), r = .returned (.slice A' L.length c') ∧ OVec w' w.heap.size 3 iv 1 A' L.length c' ((L.map trP).map (·.1)) ∧ Le w w' := by
  refine enter Try.func28 rfl rfl ?_
  have L0 := Le.refl w
  refine WC.seq ?_
  refine WC.region ?_
  refine W.any (.assign rfl) rfl rfl rfl ?_
  refine W.nil ?_
  refine E.thenN ?_
  refine WC.seq ?_
  refine WC.region ?_
  refine W.any (.assign rfl) rfl rfl rfl ?_
  refine W.nil ?_
  refine E.thenN ?_
  refine WC.seq ?_
  refine WC.seq ?_
  refine WC.region ?_
  refine W.any (.assign rfl) rfl rfl rfl ?_
  refine W.nil ?_
  refine E.thenN ?_
  refine WC.block ?_
  refine WC.loop (ι := Nat × (Option Addr) × Nat) (fun ⟨k, Ab, cb⟩ => [(0, .pointer (some ⟨gp, 0, none⟩)), (3, .slice Ab k cb), (4, .int .i64 (((k : Nat) : Int)))]) (fun ⟨k, Ab, cb⟩ wl0 => (k ≤ L.length) ∧ Le w wl0 ∧ w.heap.size ≤ wl0.heap.size ∧ OVec wl0 w.heap.size 3 iv 1 Ab k cb ((L.take k).map (·.name))) (fun ⟨k, Ab, cb⟩ => L.length - k) (0, none, 0) ?_ ?_ ?_
  · exact .cons rfl (.cons rfl (.cons rfl (.nil _)))
  · exact ⟨Nat.zero_le _, L0, Nat.le_refl _, (OVec.nil w w.heap.size 3 iv 1 none)⟩
  · rintro ⟨k, Ab, cb⟩ wl0 ⟨hk, Ll0, sz0, f0_0⟩
    have lb0_3 : w.heap.size ≤ wl0.heap.size := by omega
    refine WC.seq ?_
    refine WC.seq ?_
    refine WC.region ?_
    refine W.any (.move rfl) rfl rfl rfl ?_
    refine W.any (.move rfl) rfl rfl rfl ?_
    refine W.any (.nilCheck rfl) rfl rfl rfl ?_
    refine W.any (.field0 fa120_0 rfl) rfl rfl rfl ?_
    refine W.rd (.loadB (v := .slice A L.length c) na118 rfl (hR.hp.le Ll0) rfl) rfl rfl rfl ?_
    refine W.rd (.len Try.underlying118 rfl) rfl rfl rfl ?_
    refine W.any (.lss rfl rfl) rfl rfl rfl ?_
    refine W.nil ?_
    refine E.thenN ?_
    by_cases c0 : ((k : Nat) : Int) < ((L.length : Nat) : Int)
    · refine WC.condY rfl (decide_eq_true c0) ?_
      refine WC.skip ?_
      refine E.thenN ?_
      refine WC.seq ?_
      refine WC.block ?_
      refine WC.region ?_
      refine W.any (.move rfl) rfl rfl rfl ?_
      refine W.any (.move rfl) rfl rfl rfl ?_
      refine W.any (.nilCheck rfl) rfl rfl rfl ?_
      refine W.any (.field0 fa120_0 rfl) rfl rfl rfl ?_
      refine W.rd (.loadB (v := .slice A L.length c) na118 rfl (hR.hp.le Ll0) rfl) rfl rfl rfl ?_
      refine W.any (.move rfl) rfl rfl rfl ?_
      refine W.any (.idxS (k) Try.underlying118 sz131 rfl rfl (hR.hV.vec.isSome rpt_row (by omega)) (rfl) (by omega)) rfl rfl rfl ?_
      refine W.rd (.vone (v := .pointer (some ⟨(L.getD k noEnt).g, 0, none⟩)) na131 rfl (hR.hV.vec.le Ll0) rpt_row (getM L (i := k) (by omega)) rfl) rfl rfl rfl ?_
      have eE1 := hR.hP _ (memE L (i := k) (by omega))
      refine W.any (.nilCheck rfl) rfl rfl rfl ?_
      refine W.any (.field0 fa130_0 rfl) rfl rfl rfl ?_
      refine W.rd (.loadB (v := .int .i64 ((L.getD k noEnt).name)) na3 rfl (eE1.1.le Ll0) rfl) rfl rfl rfl ?_
      refine W.ef rfl rfl rfl ?_
      refine Ef.buildSliceV (len := 1) [_] Try.underlying53 el3 rfl (by simp [Value.cells]) rfl (by decide) (by decide) ?_
      intro g5_11 w5_11 hg5_11 b5_11 h5_11
      have L2 := Ll0.trans h5_11
      have b5_11 : Blk w5_11 g5_11 3 (([(L.getD k noEnt).name]).map iv).flatten.toArray := b5_11
      have o5_11 : OVec w5_11 wl0.heap.size 3 iv 1 (some ⟨g5_11, 0, none⟩) 1 1 ([(L.getD k noEnt).name]) := b5_11.ovec hg5_11 iv_row rfl rfl (by decide)
      have f3 := (f0_0.le h5_11)
      refine W.ef rfl rfl rfl ?_
      refine Ef.vpush (a := ((L.getD k noEnt).name)) Try.underlying53 el3 Try.underlying53 iv_row rfl f3 rfl b5_11 (by omega) (by unfold maxLen; omega) (by have := lb0_3; have := h5_11.size; omega) ?_
      intro A5_12 c5_12 w5_12 o5_12 h5_12 at5_12
      have L4 : Le w w5_12 := L2.then_ h5_12 (fun q hq => Nat.le_trans L0.size (f3.row hq).1)
      refine W.any (.assign rfl) rfl rfl rfl ?_
      refine W.nil ?_
      refine E.blkN ?_
      refine E.thenN ?_
      refine WC.region ?_
      refine W.any (.move rfl) rfl rfl rfl ?_
      refine W.any (.add rfl rfl (by omega)) rfl rfl rfl ?_
      refine W.any (.assign rfl) rfl rfl rfl ?_
      refine W.nil ?_
      refine E.again (k + 1, A5_12, c5_12) (.cons rfl (.cons rfl (.cons rfl (.nil _)))) ?_ ?_
      · exact ⟨by omega, L4, by have := sz0; have := h5_11.size; have := h5_12.size; omega, (o5_12.cast rfl (names_next (by omega)))⟩
      · first | omega | (simp only []; omega)
    · refine WC.condN rfl (decide_eq_false c0) ?_
      refine WC.exit ?_
      refine E.thenX ?_
      refine E.thenX ?_
      refine E.blkH ?_
      refine E.thenN ?_
      refine WC.seq ?_
      refine WC.region ?_
      refine W.any (.move rfl) rfl rfl rfl ?_
      refine W.any (.assign rfl) rfl rfl rfl ?_
      refine W.nil ?_
      refine E.thenN ?_
      refine WC.ret ?_
      refine E.retG1 rfl rfl ?_
      have ek : k = L.length := (by omega); have e : (L.take k).map (·.name) = (L.map trP).map (·.1) := (by rw [ek, List.take_length, List.map_map]; rfl); have hq := (f0_0.mono L0.size); rw [e] at hq; subst ek; exact ⟨_, _, rfl, hq, Ll0⟩
end Go.Proofs.Ytfgakofjkldcjaa

