/- LedgerTells: for every input the law answers true and leaves its arguments as they were. -/
import Derived.Test.YtmgfgbplbemklaaGreatLedgerTellsL
import Derived.OrdersHeld
import Derived.WalkKit
import Derived.Deep.AppendSrc
import Derived.Deep.MidRow
import Derived.Laws.OwnMore
import Derived.WalkSpells
import Derived.Lib.ConvBytes
import Derived.Lib.AppendZerosOnto
import Derived.Laws.StructEq
import Derived.Maps.RangeRun
import Derived.Laws.Pointers
import Derived.Test.YtmgfgbplbemklaaGreatProg
import Derived.KernelRfl
import Derived.Lib.Mul64
import Derived.Shelf.SlIterI.Nil
import Derived.Shelf.SortM.Plain
import Derived.Shelf.SortM.SortNone
import Derived.Ground.GgzProg
import Derived.Ground.SlgmProg
set_option linter.unusedSimpArgs false
set_option linter.unusedVariables false
set_option maxRecDepth 20000
namespace Go.Proofs
open Go.Shelf
def Tryz.keysA_ren : Go.Shelf.Ren := ⟨fun | 7 => 56 | 10 => 75 | n => n, fun | 23 => 63 | 26 => 3 | 3 => 44 | 28 => 96 | 0 => 0 | 27 => 95 | 33 => 67 | 4 => 4 | n => n, fun | n => n⟩
theorem Tryz.keysA : Go.Proofs.SlLaysZI.n7 Tryz.prog Tryz.keysA_ren := {
  mixed := by kernel_rfl
  f7 := ⟨Tryz.f56.name, by decide, Tryz.func56.trans (congrArg some (by kernel_rfl))⟩
  f10 := ⟨Tryz.f75.name, by decide, Tryz.func75.trans (congrArg some (by kernel_rfl))⟩
  t0 := Tryz.underlying0
  a0 := Tryz.isAgg0
  z0 := Tryz.sizeOf0
  v0 := Tryz.zeroValue0
  t4 := Tryz.underlying4
  a4 := Tryz.isAgg4
  z4 := Tryz.sizeOf4
  v4 := Tryz.zeroValue4
  t23 := Tryz.underlying63
  a23 := Tryz.isAgg63
  z23 := Tryz.sizeOf63
  v23 := Tryz.zeroValue63
  t26 := Tryz.underlying3
  a26 := Tryz.isAgg3
  z26 := Tryz.sizeOf3
  v26 := Tryz.zeroValue3
  t27 := Tryz.underlying95
  a27 := Tryz.isAgg95
  z27 := Tryz.sizeOf95
  v27 := Tryz.zeroValue95
  t28 := Tryz.underlying96
  a28 := Tryz.isAgg96
  z28 := Tryz.sizeOf96
  v28 := Tryz.zeroValue96
  t33 := Tryz.underlying67
  a33 := Tryz.isAgg67
  z33 := Tryz.sizeOf67
  v33 := Tryz.zeroValue67 }
def Tryz.sortedA_ren : Go.Shelf.Ren := ⟨fun | 6 => 55 | 8 => 73 | 9 => 74 | 11 => 80 | 13 => 82 | 12 => 81 | 23 => 96 | 24 => 97 | 14 => 87 | 15 => 88 | 16 => 89 | 17 => 90 | 18 => 91 | 19 => 92 | 20 => 93 | 21 => 94 | 22 => 95 | 25 => 99 | 26 => 100 | 27 => 101 | 28 => 102 | 29 => 103 | 30 => 104 | 31 => 106 | n => n, fun | 26 => 3 | 28 => 96 | 24 => 22 | 0 => 0 | 3 => 3 | 37 => 112 | 48 => 129 | 50 => 32 | 4 => 4 | 40 => 122 | 39 => 121 | 45 => 60 | 5 => 5 | 9 => 9 | 51 => 132 | 55 => 136 | 57 => 140 | 58 => 141 | 33 => 67 | n => n, fun | n => n⟩
theorem Tryz.sortedA : Go.Proofs.SlLaysZI.n6 Tryz.prog Tryz.sortedA_ren := {
  mixed := by kernel_rfl
  f6 := ⟨Tryz.f55.name, by decide, Tryz.func55.trans (congrArg some (by kernel_rfl))⟩
  f8 := ⟨Tryz.f73.name, by decide, Tryz.func73.trans (congrArg some (by kernel_rfl))⟩
  f11 := ⟨Tryz.f80.name, by decide, Tryz.func80.trans (congrArg some (by kernel_rfl))⟩
  t0 := Tryz.underlying0
  a0 := Tryz.isAgg0
  z0 := Tryz.sizeOf0
  v0 := Tryz.zeroValue0
  t24 := Tryz.underlying22
  a24 := Tryz.isAgg22
  z24 := Tryz.sizeOf22
  v24 := Tryz.zeroValue22
  t26 := Tryz.underlying3
  a26 := Tryz.isAgg3
  z26 := Tryz.sizeOf3
  v26 := Tryz.zeroValue3
  t28 := Tryz.underlying96
  a28 := Tryz.isAgg96
  z28 := Tryz.sizeOf96
  v28 := Tryz.zeroValue96
  i26 := by kernel_rfl }
def Tryz.sortA_ren : Go.Shelf.Ren := ⟨fun | 5 => 74 | 8 => 82 | 7 => 81 | 19 => 96 | 20 => 97 | 10 => 87 | 11 => 88 | 12 => 89 | 13 => 90 | 14 => 91 | 15 => 92 | 16 => 93 | 17 => 94 | 18 => 95 | 30 => 99 | 31 => 100 | 32 => 101 | 33 => 102 | 34 => 103 | 35 => 104 | 40 => 106 | n => n, fun | 23 => 22 | 25 => 3 | 3 => 3 | 32 => 112 | 22 => 22 | 0 => 0 | 44 => 129 | 46 => 32 | 4 => 4 | 36 => 122 | 35 => 121 | 41 => 60 | 5 => 5 | 9 => 9 | 53 => 132 | 57 => 136 | 63 => 140 | 64 => 141 | n => n, fun | n => n⟩
theorem Tryz.sortA : Go.Proofs.SlLaysM.n5 Tryz.prog Tryz.sortA_ren := {
  mixed := by kernel_rfl
  f5 := ⟨Tryz.f74.name, by decide, Tryz.func74.trans (congrArg some (by kernel_rfl))⟩
  f7 := ⟨Tryz.f81.name, by decide, Tryz.func81.trans (congrArg some (by kernel_rfl))⟩
  f8 := Tryz.func82.trans (congrArg some (by kernel_rfl))
  f10 := ⟨Tryz.f87.name, by decide, Tryz.func87.trans (congrArg some (by kernel_rfl))⟩
  f11 := ⟨Tryz.f88.name, by decide, Tryz.func88.trans (congrArg some (by kernel_rfl))⟩
  f12 := ⟨Tryz.f89.name, by decide, Tryz.func89.trans (congrArg some (by kernel_rfl))⟩
  f13 := ⟨Tryz.f90.name, by decide, Tryz.func90.trans (congrArg some (by kernel_rfl))⟩
  f14 := ⟨Tryz.f91.name, by decide, Tryz.func91.trans (congrArg some (by kernel_rfl))⟩
  f15 := ⟨Tryz.f92.name, by decide, Tryz.func92.trans (congrArg some (by kernel_rfl))⟩
  f16 := ⟨Tryz.f93.name, by decide, Tryz.func93.trans (congrArg some (by kernel_rfl))⟩
  f17 := ⟨Tryz.f94.name, by decide, Tryz.func94.trans (congrArg some (by kernel_rfl))⟩
  f18 := ⟨Tryz.f95.name, by decide, Tryz.func95.trans (congrArg some (by kernel_rfl))⟩
  f19 := Tryz.func96.trans (congrArg some (by kernel_rfl))
  f20 := Tryz.func97.trans (congrArg some (by kernel_rfl))
  f30 := ⟨Tryz.f99.name, by decide, Tryz.func99.trans (congrArg some (by kernel_rfl))⟩
  f31 := Tryz.func100.trans (congrArg some (by kernel_rfl))
  f32 := Tryz.func101.trans (congrArg some (by kernel_rfl))
  f33 := ⟨Tryz.f102.name, by decide, Tryz.func102.trans (congrArg some (by kernel_rfl))⟩
  f34 := ⟨Tryz.f103.name, by decide, Tryz.func103.trans (congrArg some (by kernel_rfl))⟩
  f35 := ⟨Tryz.f104.name, by decide, Tryz.func104.trans (congrArg some (by kernel_rfl))⟩
  f40 := ⟨Tryz.f106.name, by decide, Tryz.func106.trans (congrArg some (by kernel_rfl))⟩
  t0 := Tryz.underlying0
  a0 := Tryz.isAgg0
  z0 := Tryz.sizeOf0
  v0 := Tryz.zeroValue0
  t3 := Tryz.underlying3
  a3 := Tryz.isAgg3
  z3 := Tryz.sizeOf3
  v3 := Tryz.zeroValue3
  t4 := Tryz.underlying4
  a4 := Tryz.isAgg4
  z4 := Tryz.sizeOf4
  v4 := Tryz.zeroValue4
  t5 := Tryz.underlying5
  a5 := Tryz.isAgg5
  z5 := Tryz.sizeOf5
  v5 := Tryz.zeroValue5
  t9 := Tryz.underlying9
  a9 := Tryz.isAgg9
  z9 := Tryz.sizeOf9
  v9 := Tryz.zeroValue9
  t22 := Tryz.underlying22
  a22 := Tryz.isAgg22
  z22 := Tryz.sizeOf22
  v22 := Tryz.zeroValue22
  t23 := Tryz.underlying22
  a23 := Tryz.isAgg22
  z23 := Tryz.sizeOf22
  v23 := Tryz.zeroValue22
  t25 := Tryz.underlying3
  a25 := Tryz.isAgg3
  z25 := Tryz.sizeOf3
  v25 := Tryz.zeroValue3
  t32 := Tryz.underlying112
  a32 := Tryz.isAgg112
  z32 := Tryz.sizeOf112
  v32 := Tryz.zeroValue112
  t35 := Tryz.underlying121
  a35 := Tryz.isAgg121
  z35 := Tryz.sizeOf121
  v35 := Tryz.zeroValue121
  t36 := Tryz.underlying122
  a36 := Tryz.isAgg122
  z36 := Tryz.sizeOf122
  v36 := Tryz.zeroValue122
  t41 := Tryz.underlying60
  a41 := Tryz.isAgg60
  z41 := Tryz.sizeOf60
  v41 := Tryz.zeroValue60
  t44 := Tryz.underlying129
  a44 := Tryz.isAgg129
  z44 := Tryz.sizeOf129
  v44 := Tryz.zeroValue129
  t46 := Tryz.underlying32
  a46 := Tryz.isAgg32
  z46 := Tryz.sizeOf32
  v46 := Tryz.zeroValue32
  t53 := Tryz.underlying132
  a53 := Tryz.isAgg132
  z53 := Tryz.sizeOf132
  v53 := Tryz.zeroValue132
  t57 := Tryz.underlying136
  a57 := Tryz.isAgg136
  z57 := Tryz.sizeOf136
  v57 := Tryz.zeroValue136
  t63 := Tryz.underlying140
  a63 := Tryz.isAgg140
  z63 := Tryz.sizeOf140
  v63 := Tryz.zeroValue140
  t64 := Tryz.underlying141
  a64 := Tryz.isAgg141
  z64 := Tryz.sizeOf141
  v64 := Tryz.zeroValue141 }
end Go.Proofs
namespace Go.Proofs.YtmgfgbplbemklaaGreat
open Go Go.Sx Go.Num Go.Gsp Go.Lsp Go.RowKit Go.Maps Go.Sort Go.Shelf
theorem sortsA (m : Nat) : AnyZI.SortsIn Tryz.prog Tryz.sortedA_ren Fence.wide m :=
  ⟨fun blk off cap ss W hH hblk hsz => callsIn_wide.2 (AnyM.slices_Sort_int Tryz.sortA blk off cap ss W hH hblk hsz),
   fun p cap W => callsIn_wide.2 (AnyM.slices_Sort_int_none Tryz.sortA p cap W)⟩
theorem keys_ok (ga : Nat) (w : World) : Calls Tryz.prog 56 #[.map (some ga)] w fun r w' => r = .returned (.func (.func 75) #[] #[.pointer (some ⟨w.heap.size, 0, none⟩)]) ∧ Blk w' w.heap.size 63 #[.map (some ga)] ∧ Le w w' := by
  have h := callsIn_wide.1 (AnyZI.keys_in Tryz.keysA Fence.wide 5 trivial rfl (some ga) w)
  refine Calls.mono h ?_
  rintro e w' ⟨rfl, rfl⟩
  exact ⟨rfl, Blk.new w _ _, (Below.refl _ w).alloc (Nat.le_refl _) _⟩
/-- Keys that a reader reads. -/
def inI (x : Int) : Prop := -9223372036854775808 ≤ x ∧ x ≤ 9223372036854775807
theorem inI_wf {x : Int} (h : inI x) : (Lit.int .i64 x).wf = true := by
  unfold inI at h
  have h1 : IntKind.i64.min = -9223372036854775808 := by decide
  have h2 : IntKind.i64.max = 9223372036854775807 := by decide
  simp only [Lit.wf, h1, h2, decide_eq_true_eq, Bool.and_eq_true]
  omega
abbrev noR : Value → Option (DataW Unit × List MemPlace) := fun _ => some (.nil, [])
def mapD (la : List (Nat × Int × Seat)) : DataW Unit := .map ((la.map fun x => (Lit.int .i64 x.2.1, (DataW.nil : DataW Unit))).foldr DataW.insert [])
theorem rd_key1 {x : Nat × Int × Seat} (h : inI x.2.1) : Go.WideElems.rd Tryz.prog 3 noR (entG ikf seatf x) = some (Lit.int .i64 x.2.1, .nil) := by
  have hk : keyOf Tryz.prog 3 (Value.int .i64 x.2.1) = some (Lit.int .i64 x.2.1) := by
    unfold keyOf
    rw [Tryz.underlying3]
    simp [mapKey, Tryz.underlying3, inI_wf h]
  unfold Go.WideElems.rd
  simp only [entG, ikf, hk]
  rfl
theorem mapOwn {ga ca : Nat} {la : List (Nat × Int × Seat)} {w : World} (hM : MapG w ikf seatf ga la ca) (hr : ∀ x ∈ la, inI x.2.1) (hl : la.length ≤ 1000000) : w.ownsMap Tryz.prog 3 noR ga la.length (mapD la) := by
  refine ⟨_, _, hM.1, ⟨by simp; unfold maxLen; omega, ⟨?_, ?_, ?_⟩, ?_⟩, by simp, ?_⟩
  · intro x hx
    simp only [List.mem_map] at hx
    obtain ⟨y, hy, rfl⟩ := hx
    exact hM.2.old y hy
  · have := hM.2.borns
    simpa [List.map_map, Function.comp_def, entG] using this
  · have h := hM.2.keys
    have e : (la.map (entG ikf seatf)).map (fun x => x.key) = (la.map fun x => x.2.1).map ikf := by simp [List.map_map, Function.comp_def, entG]
    simp only
    rw [e]
    exact List.Pairwise.map _ (fun a b hab he => hab (by simpa [ikf] using he)) h
  · intro x hx
    simp only [List.mem_map] at hx
    obtain ⟨y, hy, rfl⟩ := hx
    exact ⟨_, rd_key1 (hr y hy)⟩
  · unfold mapD
    congr 2
    simp only [List.map_map]
    apply List.map_congr_left
    intro x hx
    simp only [Function.comp, Go.WideElems.rg, rd_key1 (hr x hx)]
    rfl
theorem mapD_size (la : List (Nat × Int × Seat)) : Maps.size (mapD la) = la.length := by
  unfold mapD
  rw [Maps.size_eq, (Go.WideShapes.sorted_perm _).length_eq]
  simp
theorem mapD_keys (la : List (Nat × Int × Seat)) : (intKeys (mapD la)).Perm (la.map fun x => x.2.1) := by
  unfold mapD intKeys
  refine ((Go.WideShapes.sorted_perm _).map _).trans ?_
  rw [List.map_map]
  exact List.Perm.refl _
theorem sorted_ok {ga ca gk : Nat} {la : List (Nat × Int × Seat)} (w : World) (hB : Blk w gk 63 #[.map (some ga)]) (hM : MapG w ikf seatf ga la ca) (hr : ∀ x ∈ la, inI x.2.1) (hl : la.length ≤ 1000000) :
    Calls Tryz.prog 55 #[.func (.func 75) #[] #[.pointer (some ⟨gk, 0, none⟩)]] w fun r w' => ∃ (A : Option Addr) (c : Nat) (ns : List Int), r = .returned (.slice A la.length c) ∧ ns.Perm (la.map fun x => x.2.1) ∧ ns.Pairwise (· ≤ ·) ∧ OVec w' w.heap.size 3 iv 1 A la.length c ns ∧ Le w w' := by
  have hown := mapOwn hM hr hl
  have hseq : SeqGives Fence.wide 2 Tryz.prog 75 #[.pointer (some ⟨gk, 0, none⟩)] encZ (fun ss => ss.Perm (intKeys (mapD la))) (Maps.size (mapD la)) w :=
    AnyZI.keys_gives (ρ := Tryz.keysA_ren) { Tryz.keysA with } Fence.wide _ trivial rfl (by omega) gk ga la.length (mapD la) _ hB.lt (by unfold World.cell?; rw [show w.heap[gk]? = _ from hB]; rfl) hown
  have cS := AnyZI.sorted_in Tryz.sortedA Fence.wide 5 trivial trivial trivial trivial rfl (by omega) (sortsA _) (enters_of Tryz.func74 (by kernel_rfl) rfl) 75 #[.pointer (some ⟨gk, 0, none⟩)] trivial (enters_of Tryz.func75 (by kernel_rfl) rfl) _ _ (by rw [mapD_size]; unfold maxLen; omega) (by rw [mapD_size]; omega) _ hseq
  change CallsIn _ _ Tryz.prog 55 _ _ _ at cS
  refine Calls.mono (callsIn_wide.1 cS) ?_
  rintro e w' ⟨v, ss, rfl, hS, hrow, hnil, hb⟩
  have hp : ss.Perm (la.map fun x => x.2.1) := hS.trans (mapD_keys la)
  have hlen : ss.length = la.length := by rw [hp.length_eq, List.length_map]
  have hms : (ss.mergeSort (fun x y => decide (x ≤ y))).Perm (la.map fun x => x.2.1) := (List.mergeSort_perm _ _).trans hp
  have hpw : (ss.mergeSort (fun x y => decide (x ≤ y))).Pairwise (· ≤ ·) := by
    have := List.pairwise_mergeSort (le := fun x y : Int => decide (x ≤ y)) (by intro a b c; simp; omega) (by intro a b; simp; omega) ss
    exact this.imp (by intro a b h; simpa using h)
  obtain ⟨h1, h2⟩ := hrow
  rcases h2 with ⟨rfl, h0⟩ | ⟨g, cap, cur, rfl, hg, hc, hn, hm, hz, ht⟩
  · have e0 : la.length = 0 := by omega
    have hs0 : ss = [] := List.length_eq_zero_iff.1 h0
    subst hs0
    rw [e0]
    exact ⟨none, 0, [], rfl, by simpa using hms, List.Pairwise.nil, OVec.nil _ _ _ _ _ _, hb⟩
  · rw [hlen] at h1 hn ht ⊢
    exact ⟨some ⟨g, 0, none⟩, cap, _, rfl, hms, hpw, Own.ovec ⟨h1, .inr ⟨g, cur, rfl, hg, hc, hn, hm, hz, ht⟩⟩, hb⟩
end Go.Proofs.YtmgfgbplbemklaaGreat

namespace Go.Proofs.YtmgfgbplbemklaaGreat
open Go Go.Sx Go.Num Go.Gsp Go.Lsp
set_option maxRecDepth 20000
set_option linter.unusedSimpArgs false
set_option linter.unusedVariables false
def seatAt (ls : SM) (k : Int) : Seat := (getG k ls).getD noSeat
theorem seats_next {ls : SM} {ns : List Int} {k : Nat} (h : k < ns.length) : (ns.take k).map (seatAt ls) ++ [seatAt ls (ns.getD k 0)] = (ns.take (k + 1)).map (seatAt ls) := by
  rw [List.take_add_one, getS ns 0 h, List.map_append]
  rfl
theorem lseats_ok {gp gs gh c cs ck : Nat} {A : Option Addr} {own : List Int} {ls : SM} {lh : HM} {lost : Int} (w : World) (hL : LedL w gp gs gh A c cs ck own ls lh lost) (hr : ∀ x ∈ ls, inI x.2.1) (hl : ls.length ≤ 1000000) : Calls Tryz.prog 23 #[.pointer (some ⟨gp, 0, none⟩)] w fun r w' => ∃ (A' : Option Addr) (c' : Nat) (ns : List Int), r = .returned (.slice A' ls.length c') ∧ ns.Perm (ls.map fun x => x.2.1) ∧ ns.Pairwise (· ≤ ·) ∧ OVec w' w.heap.size 44 seatV 5 A' ls.length c' (ns.map (seatAt ls)) ∧ Le w w' := by
 refine enter Tryz.func23 rfl rfl ?_
 have L0 := Le.refl w
 refine WC.seq (WC.region ?_)
 refine W.any (.assign rfl) rfl rfl rfl ?_
 refine W.nil (E.thenN (WC.seq (WC.region ?_)))
 refine W.any (.assign rfl) rfl rfl rfl ?_
 refine W.nil (E.thenN (WC.seq (WC.seq (WC.region ?_))))
 refine W.any (.move rfl) rfl rfl rfl ?_
 refine W.any (.nilCheck rfl) rfl rfl rfl ?_
 refine W.any (.field0 fa66_1 rfl) rfl rfl rfl ?_
 refine W.rd (.loadB (v := .map (some gs)) na63 rfl (hL.hp.le L0) rfl) rfl rfl rfl ?_
 refine W.ef rfl rfl rfl ?_
 refine Ef.call go56 rfl rfl (keys_ok gs w) ?_
 rintro _ w2_4 ⟨rfl, bk2_4, h2_4⟩
 refine ⟨_, rfl, ?_⟩
 have L1 := L0.trans h2_4
 refine W.ef rfl rfl rfl ?_
 refine Ef.call go55 rfl rfl (sorted_ok w2_4 bk2_4 (hL.hS.le L1) hr hl) ?_
 rintro _ w2_5 ⟨An2_5, cn2_5, ns2_5, rfl, hpm2_5, hpw2_5, hon2_5, h2_5⟩
 refine ⟨_, rfl, ?_⟩
 have L2 := L1.trans h2_5
 refine W.rd (.len Tryz.underlying22 rfl) rfl rfl rfl ?_
 refine W.any (.move rfl) rfl rfl rfl ?_
 refine W.nil (E.thenN (WC.block ?_))
 refine WC.loop (ι := Nat × (Option Addr) × Nat) (fun ⟨k, Ab, cb⟩ => [(0, .pointer (some ⟨gp, 0, none⟩)), (3, .slice Ab k cb), (11, .slice An2_5 ls.length cn2_5), (12, .int .i64 (((ls.length : Nat) : Int))), (13, .int .i64 (((k : Nat) : Int)))]) (fun ⟨k, Ab, cb⟩ wl0 => (k ≤ ls.length) ∧ Le w wl0 ∧ w2_5.heap.size ≤ wl0.heap.size ∧ MapG wl0 ikf seatf gs ls cs ∧ MapG wl0 plf holdf gh lh ck ∧ OVec wl0 w2_5.heap.size 44 seatV 5 Ab k cb ((ns2_5.take k).map (seatAt ls)) ∧ OVec wl0 w2_4.heap.size 3 iv 1 An2_5 ls.length cn2_5 ns2_5) (fun ⟨k, Ab, cb⟩ => ls.length - k) (0, none, 0) ?_ ?_ ?_
 ·exact .cons rfl (.cons rfl (.cons rfl (.cons rfl (.cons rfl (.nil _)))))
 ·exact ⟨Nat.zero_le _, L2, Nat.le_refl _, (hL.hS.le L2), (hL.hH.le L2), (OVec.nil w2_5 w2_5.heap.size 44 seatV 5 none), hon2_5⟩
 ·rintro ⟨k, Ab, cb⟩ wl0 ⟨hk, Ll0, zl0, f0_0, f0_1, f0_2, f0_3⟩
  have lb0_7 : w2_5.heap.size ≤ wl0.heap.size := by omega
  have lb0_6 : w2_4.heap.size ≤ wl0.heap.size := by have := h2_5.size; omega
  have hnl := hon2_5.1
  refine WC.seq (WC.region ?_)
  refine W.any (.lss rfl rfl) rfl rfl rfl ?_
  refine W.nil (E.thenN (WC.seq ?_))
  by_cases c0 : ((k : Nat) : Int) < ((ls.length : Nat) : Int)
  ·refine WC.condY rfl (decide_eq_true c0) ?_
   refine WC.skip (E.thenN (WC.seq (WC.block (WC.seq (WC.region ?_)))))
   refine W.any (.idxS (k) Tryz.underlying22 sz3 rfl rfl (hon2_5.vec.isSome iv_row (by omega)) (rfl) (by omega)) rfl rfl rfl ?_
   refine W.rd (.vone (v := .int .i64 ((ns2_5.getD k 0))) na3 rfl f0_3.vec iv_row (getS ns2_5 0 (by first | omega | (simp only [List.length_cons, List.length_nil]; omega))) rfl) rfl rfl rfl ?_
   refine W.any (.assign rfl) rfl rfl rfl ?_
   refine W.nil (E.thenN (WC.region ?_))
   refine W.any (.move rfl) rfl rfl rfl ?_
   refine W.any (.move rfl) rfl rfl rfl ?_
   refine W.any (.nilCheck rfl) rfl rfl rfl ?_
   refine W.any (.field0 fa66_1 rfl) rfl rfl rfl ?_
   refine W.rd (.loadB (v := .map (some gs)) na63 rfl (hL.hp.le Ll0) rfl) rfl rfl rfl ?_
   refine W.any (.move rfl) rfl rfl rfl ?_
   rcases optG (getG (ns2_5.getD k 0) ls) with hk5_6 | ⟨vhk5_6, hk5_6⟩
   ·refine W.rd (.as (.lookup1 (key := (ns2_5.getD k 0)) Tryz.underlying63 kint z44 rfl rfl f0_0) (by rw [hk5_6] <;> rfl)) rfl rfl rfl ?_
    refine W.ef rfl rfl rfl ?_
    refine Ef.buildSliceV (len := 1) [_] Tryz.underlying37 el44 rfl (by simp [Value.cells, seatf, seatV_row.len]) rfl (by decide) (by decide) ?_
    intro g5_7 w5_7 hg5_7 b5_7 h5_7
    have L3 := Ll0.trans h5_7
    have b5_7 : Blk w5_7 g5_7 44 (([noSeat]).map seatV).flatten.toArray := b5_7
    have o5_7 : OVec w5_7 wl0.heap.size 44 seatV 5 (some ⟨g5_7, 0, none⟩) 1 1 ([noSeat]) := b5_7.ovec hg5_7 seatV_row rfl rfl (by decide)
    have f4 := (f0_2.le h5_7)
    refine W.ef rfl rfl rfl ?_
    refine Ef.vpush (a := noSeat) Tryz.underlying37 el44 Tryz.underlying37 seatV_row rfl f4 rfl b5_7 (by omega) (by unfold maxLen; omega) (by have := lb0_7; have := h5_7.size; omega) ?_
    intro A5_8 c5_8 w5_8 o5_8 h5_8 at5_8
    have L5 : Le w w5_8 := L3.then_ h5_8 (fun q hq => Nat.le_trans L2.size (f4.row hq).1)
    refine W.any (.assign rfl) rfl rfl rfl ?_
    refine W.nil (E.blkN (E.thenN (WC.region ?_)))
    refine W.any (.add rfl rfl (by omega)) rfl rfl rfl ?_
    refine W.any (.move rfl) rfl rfl rfl ?_
    refine W.nil ?_
    have f6 := ((f0_0.le h5_7).ch h5_8 (fun he => by have := (f4.row he).1; have := hL.hS.lt; have := h2_4.size; have := h2_5.size; omega))
    have f7 := ((f0_1.le h5_7).ch h5_8 (fun he => by have := (f4.row he).1; have := hL.hH.lt; have := h2_4.size; have := h2_5.size; omega))
    have f8 := ((f0_3.le h5_7).ch h5_8 ((Apart.symm (fun q h1 h2 => by have := (hon2_5.row h1).2; have := (f4.row h2).1; omega))))
    refine E.again (k + 1, A5_8, c5_8) (.cons rfl (.cons rfl (.cons rfl (.cons rfl (.cons rfl (.nil _)))))) ?_ ?_
    ·exact ⟨by omega, L5, by have := zl0; have := h5_7.size; have := h5_8.size; omega, f6, f7, (o5_8.cast rfl (by rw [← seats_next (by omega)]; unfold seatAt; first | rfl | (rw [hk5_6]; rfl))), f8⟩
    ·first | omega | (simp only []; omega)
   ·refine W.rd (.as (.lookup1 (key := (ns2_5.getD k 0)) Tryz.underlying63 kint z44 rfl rfl f0_0) (by rw [hk5_6] <;> rfl)) rfl rfl rfl ?_
    refine W.ef rfl rfl rfl ?_
    refine Ef.buildSliceV (len := 1) [_] Tryz.underlying37 el44 rfl (by simp [Value.cells, seatf, seatV_row.len]) rfl (by decide) (by decide) ?_
    intro g5_7_1 w5_7_1 hg5_7_1 b5_7_1 h5_7_1
    have L9 := Ll0.trans h5_7_1
    have b5_7_1 : Blk w5_7_1 g5_7_1 44 (([vhk5_6]).map seatV).flatten.toArray := b5_7_1
    have o5_7_1 : OVec w5_7_1 wl0.heap.size 44 seatV 5 (some ⟨g5_7_1, 0, none⟩) 1 1 ([vhk5_6]) := b5_7_1.ovec hg5_7_1 seatV_row rfl rfl (by decide)
    have f10 := (f0_2.le h5_7_1)
    refine W.ef rfl rfl rfl ?_
    refine Ef.vpush (a := vhk5_6) Tryz.underlying37 el44 Tryz.underlying37 seatV_row rfl f10 rfl b5_7_1 (by omega) (by unfold maxLen; omega) (by have := lb0_7; have := h5_7_1.size; omega) ?_
    intro A5_8_1 c5_8_1 w5_8_1 o5_8_1 h5_8_1 at5_8_1
    have L11 : Le w w5_8_1 := L9.then_ h5_8_1 (fun q hq => Nat.le_trans L2.size (f10.row hq).1)
    refine W.any (.assign rfl) rfl rfl rfl ?_
    refine W.nil (E.blkN (E.thenN (WC.region ?_)))
    refine W.any (.add rfl rfl (by omega)) rfl rfl rfl ?_
    refine W.any (.move rfl) rfl rfl rfl ?_
    refine W.nil ?_
    have f12 := ((f0_0.le h5_7_1).ch h5_8_1 (fun he => by have := (f10.row he).1; have := hL.hS.lt; have := h2_4.size; have := h2_5.size; omega))
    have f13 := ((f0_1.le h5_7_1).ch h5_8_1 (fun he => by have := (f10.row he).1; have := hL.hH.lt; have := h2_4.size; have := h2_5.size; omega))
    have f14 := ((f0_3.le h5_7_1).ch h5_8_1 ((Apart.symm (fun q h1 h2 => by have := (hon2_5.row h1).2; have := (f10.row h2).1; omega))))
    refine E.again (k + 1, A5_8_1, c5_8_1) (.cons rfl (.cons rfl (.cons rfl (.cons rfl (.cons rfl (.nil _)))))) ?_ ?_
    ·exact ⟨by omega, L11, by have := zl0; have := h5_7_1.size; have := h5_8_1.size; omega, f12, f13, (o5_8_1.cast rfl (by rw [← seats_next (by omega)]; unfold seatAt; first | rfl | (rw [hk5_6]; rfl))), f14⟩
    ·first | omega | (simp only []; omega)
  ·refine WC.condN rfl (decide_eq_false c0) ?_
   refine WC.exit (E.thenX (E.thenX (E.blkH (E.thenN (WC.seq (WC.region ?_))))))
   refine W.any (.move rfl) rfl rfl rfl ?_
   refine W.any (.assign rfl) rfl rfl rfl ?_
   refine W.nil (E.thenN (WC.ret ?_))
   refine E.retG1 rfl rfl ?_
   have hnl := hon2_5.1; have ek : k = ls.length := (by omega); have hq := (f0_2.mono L2.size); rw [List.take_of_length_le (by omega)] at hq; subst ek; exact ⟨_, _, _, rfl, hpm2_5, hpw2_5, hq, Ll0⟩
end Go.Proofs.YtmgfgbplbemklaaGreat

namespace Go.Proofs.YtmgfgbplbemklaaGreat
open Go Go.Sx Go.Num Go.Gsp Go.Lsp
set_option maxRecDepth 20000
set_option linter.unusedSimpArgs false
set_option linter.unusedVariables false
theorem cut1_ok (n : Int) (w : World) : Calls Tryz.prog 53 #[.int .i64 (n)] w fun r w' => r = .returned (.bool (!coinL n)) ∧ Le w w' := by
 refine enter Tryz.func53 rfl rfl ?_
 have L0 := Le.refl w
 refine WC.seq (WC.region ?_)
 refine W.any (.assign rfl) rfl rfl rfl ?_
 refine W.nil (E.thenN (WC.seq (WC.region ?_)))
 refine W.any (.move rfl) rfl rfl rfl ?_
 refine W.ef rfl rfl rfl ?_
 refine Ef.call go45 rfl rfl (coin_ok n w) ?_
 rintro _ w1_1 ⟨rfl, h1_1⟩
 refine ⟨_, rfl, ?_⟩
 have L1 := L0.trans h1_1
 refine W.any (.not rfl) rfl rfl rfl ?_
 refine W.any (.assign rfl) rfl rfl rfl ?_
 refine W.nil (E.thenN (WC.ret ?_))
 refine E.retG1 rfl rfl ?_
 exact ⟨rfl, L1⟩

theorem ixcoin_ok {Af : Option Addr} {nf cf : Nat} {fs : List Int} (w : World) (hf : Vec w iv 1 Af nf fs) (hn : nf ≤ 1000000) : Calls Tryz.prog 72 #[.slice Af nf cf, .func (.func 53) #[] #[]] w fun r w' => ∃ z : Int, r = .returned (.int .i64 z) ∧ ((0 ≤ z ∧ ∃ x ∈ fs, coinL x = false) ∨ (z = -1 ∧ ∀ x ∈ fs, coinL x = true)) ∧ Le w w' := by
 have hfn := hf.1
 refine enter Tryz.func72 rfl rfl ?_
 have L0 := Le.refl w
 refine WC.seq (WC.region ?_)
 refine W.any (.assign rfl) rfl rfl rfl ?_
 refine W.nil (E.thenN (WC.seq (WC.seq (WC.region ?_))))
 refine W.any (.move rfl) rfl rfl rfl ?_
 refine W.rd (.len Tryz.underlying22 rfl) rfl rfl rfl ?_
 refine W.any (.move rfl) rfl rfl rfl ?_
 refine W.nil (E.thenN (WC.block ?_))
 refine WC.loop (ι := Nat) (fun k => [(0, .slice Af nf cf), (1, .func (.func 53) #[] #[]), (7, .int .i64 (((nf : Nat) : Int))), (8, .int .i64 (((k : Nat) : Int)))]) (fun k wl0 => (k ≤ nf) ∧ (∀ j, j < k → coinL (fs.getD j 0) = true) ∧ Le w wl0 ∧ w.heap.size ≤ wl0.heap.size) (fun k => nf - k) 0 ?_ ?_ ?_
 ·exact .cons rfl (.cons rfl (.cons rfl (.cons rfl (.nil _))))
 ·exact ⟨Nat.zero_le _, fun j hj => by omega, L0, Nat.le_refl _⟩
 ·rintro k wl0 ⟨hk, hc, Ll0, zl0⟩
  refine WC.seq (WC.region ?_)
  refine W.any (.lss rfl rfl) rfl rfl rfl ?_
  refine W.nil (E.thenN (WC.seq ?_))
  by_cases c0 : ((k : Nat) : Int) < ((nf : Nat) : Int)
  ·refine WC.condY rfl (decide_eq_true c0) ?_
   refine WC.skip (E.thenN (WC.seq (WC.block (WC.seq (WC.region ?_)))))
   refine W.any (.move rfl) rfl rfl rfl ?_
   refine W.any (.assign rfl) rfl rfl rfl ?_
   refine W.nil (E.thenN (WC.seq (WC.region ?_)))
   refine W.any (.move rfl) rfl rfl rfl ?_
   refine W.any (.move rfl) rfl rfl rfl ?_
   refine W.any (.move rfl) rfl rfl rfl ?_
   refine W.any (.idxS (k) Tryz.underlying22 sz3 rfl rfl (hf.isSome iv_row (by omega)) (rfl) (by omega)) rfl rfl rfl ?_
   refine W.rd (.vone (v := .int .i64 ((fs.getD k 0))) na3 rfl (hf.le Ll0) iv_row (getS fs 0 (by first | omega | (simp only [List.length_cons, List.length_nil]; omega))) rfl) rfl rfl rfl ?_
   refine W.ef rfl rfl rfl ?_
   refine Ef.call go53 rfl rfl (cut1_ok (fs.getD k 0) wl0) ?_
   rintro _ w4_5 ⟨rfl, h4_5⟩
   refine ⟨_, rfl, ?_⟩
   have L1 := Ll0.trans h4_5
   refine W.nil (E.thenN ?_)
   by_cases c1 : (coinL (fs.getD k 0)) = true
   ·refine WC.condN rfl (congrArg not (c1)) ?_
    refine WC.skip (E.blkN (E.thenN (WC.region ?_)))
    refine W.any (.add rfl rfl (by omega)) rfl rfl rfl ?_
    refine W.any (.move rfl) rfl rfl rfl ?_
    refine W.nil ?_
    refine E.again (k + 1) (.cons rfl (.cons rfl (.cons rfl (.cons rfl (.nil _))))) ?_ ?_
    ·exact ⟨by omega, fun j hj => (Nat.lt_succ_iff_lt_or_eq.1 hj).elim (hc j) (fun hh => by subst hh; exact c1), L1, by have := zl0; have := h4_5.size; omega⟩
    ·first | omega | (simp only []; omega)
   ·refine WC.condY rfl (congrArg not ((Bool.eq_false_iff.2 c1))) ?_
    refine WC.seq (WC.region ?_)
    refine W.any (.move rfl) rfl rfl rfl ?_
    refine W.any (.assign rfl) rfl rfl rfl ?_
    refine W.nil (E.thenN (WC.ret (E.blkR (E.thenR (E.thenR (E.blkR (E.thenR ?_)))))))
    refine E.retG1 rfl rfl ?_
    exact ⟨_, rfl, .inl ⟨by omega, fs.getD k 0, List.mem_of_getElem? (getS fs 0 (by omega)), Bool.eq_false_iff.2 c1⟩, L1⟩
  ·refine WC.condN rfl (decide_eq_false c0) ?_
   refine WC.exit (E.thenX (E.thenX (E.blkH (E.thenN (WC.seq (WC.region ?_))))))
   refine W.any (.assign rfl) rfl rfl rfl ?_
   refine W.nil (E.thenN (WC.ret ?_))
   refine E.retG1 rfl rfl ?_
   exact ⟨_, rfl, .inr ⟨rfl, fun x hx => by obtain ⟨j, hj, rfl⟩ := List.getElem_of_mem hx; have := hc j (by omega); rwa [List.getD_eq_getElem?_getD, List.getElem?_eq_getElem hj] at this⟩, Ll0⟩

theorem hascoin_ok {Af : Option Addr} {nf cf : Nat} {fs : List Int} (w : World) (hf : Vec w iv 1 Af nf fs) (hn : nf ≤ 1000000) : Calls Tryz.prog 52 #[.slice Af nf cf, .func (.func 53) #[] #[]] w fun r w' => ∃ b : Bool, r = .returned (.bool b) ∧ (b = true ↔ ∃ x ∈ fs, coinL x = false) ∧ Le w w' := by
 refine enter Tryz.func52 rfl rfl ?_
 have L0 := Le.refl w
 refine WC.seq (WC.region ?_)
 refine W.any (.assign rfl) rfl rfl rfl ?_
 refine W.nil (E.thenN (WC.seq (WC.region ?_)))
 refine W.any (.move rfl) rfl rfl rfl ?_
 refine W.any (.move rfl) rfl rfl rfl ?_
 refine W.ef rfl rfl rfl ?_
 refine Ef.call go72 rfl rfl (ixcoin_ok w (hf.le L0) (by omega)) ?_
 rintro _ w1_2 ⟨z1_2, rfl, hz1_2, h1_2⟩
 refine ⟨_, rfl, ?_⟩
 have L1 := L0.trans h1_2
 refine W.any (.geq rfl rfl) rfl rfl rfl ?_
 refine W.any (.assign rfl) rfl rfl rfl ?_
 refine W.nil (E.thenN (WC.ret ?_))
 refine E.retG1 rfl rfl ?_
 refine ⟨_, rfl, ?_, L1⟩; rw [decide_eq_true_eq]; rcases hz1_2 with ⟨q1, q2⟩ | ⟨q1, q2⟩; exact ⟨fun _ => q2, fun _ => q1⟩; exact ⟨fun h => by omega, fun ⟨x, hx, hh⟩ => by rw [q2 x hx] at hh; cases hh⟩

theorem eqints_ok {Aa Ab : Option Addr} {na ca nb cb : Nat} {a b : List Int} (w : World) (ha : Vec w iv 1 Aa na a) (hb : Vec w iv 1 Ab nb b) (hn : na ≤ 1000000) : Calls Tryz.prog 54 #[.slice Aa na ca, .slice Ab nb cb] w fun r w' => r = .returned (.bool (decide (a = b))) ∧ Le w w' := by
 have han := ha.1
 have hbn := hb.1
 refine enter Tryz.func54 rfl rfl ?_
 have L0 := Le.refl w
 refine WC.seq (WC.region ?_)
 refine W.any (.assign rfl) rfl rfl rfl ?_
 refine W.nil (E.thenN (WC.seq (WC.seq (WC.region ?_))))
 refine W.any (.move rfl) rfl rfl rfl ?_
 refine W.rd (.len Tryz.underlying22 rfl) rfl rfl rfl ?_
 refine W.any (.move rfl) rfl rfl rfl ?_
 refine W.rd (.len Tryz.underlying22 rfl) rfl rfl rfl ?_
 refine W.any (.neq rfl rfl) rfl rfl rfl ?_
 refine W.nil (E.thenN ?_)
 by_cases c0 : ((na : Nat) : Int) ≠ ((nb : Nat) : Int)
 ·refine WC.condY rfl (decide_eq_true c0) ?_
  refine WC.seq (WC.region ?_)
  refine W.any (.assign rfl) rfl rfl rfl ?_
  refine W.nil (E.thenN (WC.ret (E.thenR ?_)))
  refine E.retG1 rfl rfl ?_
  exact ⟨by rw [decide_eq_false (fun e => c0 (by rw [← han, ← hbn, e]))], L0⟩
 ·refine WC.condN rfl (decide_eq_false c0) ?_
  refine WC.skip (E.thenN (WC.seq (WC.seq (WC.region ?_))))
  refine W.any (.move rfl) rfl rfl rfl ?_
  refine W.rd (.len Tryz.underlying22 rfl) rfl rfl rfl ?_
  refine W.any (.move rfl) rfl rfl rfl ?_
  refine W.nil (E.thenN (WC.block ?_))
  refine WC.loop (ι := Nat) (fun k => [(0, .slice Aa na ca), (1, .slice Ab nb cb), (12, .int .i64 (((na : Nat) : Int))), (13, .int .i64 (((k : Nat) : Int)))]) (fun k wl0 => (k ≤ na) ∧ (∀ j, j < k → a.getD j 0 = b.getD j 0) ∧ Le w wl0 ∧ w.heap.size ≤ wl0.heap.size) (fun k => na - k) 0 ?_ ?_ ?_
  ·exact .cons rfl (.cons rfl (.cons rfl (.cons rfl (.nil _))))
  ·exact ⟨Nat.zero_le _, fun j hj => by omega, L0, Nat.le_refl _⟩
  ·rintro k wl0 ⟨hk, hs, Ll0, zl0⟩
   refine WC.seq (WC.region ?_)
   refine W.any (.lss rfl rfl) rfl rfl rfl ?_
   refine W.nil (E.thenN (WC.seq ?_))
   by_cases c1 : ((k : Nat) : Int) < ((na : Nat) : Int)
   ·refine WC.condY rfl (decide_eq_true c1) ?_
    refine WC.skip (E.thenN (WC.seq (WC.block (WC.seq (WC.region ?_)))))
    refine W.any (.move rfl) rfl rfl rfl ?_
    refine W.any (.assign rfl) rfl rfl rfl ?_
    refine W.nil (E.thenN (WC.seq ?_))
    refine WC.draw [0, 1, 2, 3, 4, 5, 6, 7, 8] mixed (by kernel_rfl) ?_
    intro w6 d6
    have L1 := Ll0.trans d6
    refine G.any rfl rfl (.move rfl) rfl rfl rfl ?_
    refine G.any rfl rfl (.move rfl) rfl rfl rfl ?_
    refine G.any rfl rfl (.idxS (k) Tryz.underlying22 sz3 rfl rfl (ha.isSome iv_row (by omega)) (rfl) (by omega)) rfl rfl rfl ?_
    refine G.rd rfl rfl (.vone (v := .int .i64 ((a.getD k 0))) na3 rfl (ha.le L1) iv_row (getS a 0 (by first | omega | (simp only [List.length_cons, List.length_nil]; omega))) rfl) rfl rfl rfl ?_
    refine G.any rfl rfl (.move rfl) rfl rfl rfl ?_
    refine G.any rfl rfl (.move rfl) rfl rfl rfl ?_
    refine G.any rfl rfl (.idxS (k) Tryz.underlying22 sz3 rfl rfl (hb.isSome iv_row (by omega)) (rfl) (by omega)) rfl rfl rfl ?_
    refine G.rd rfl rfl (.vone (v := .int .i64 ((b.getD k 0))) na3 rfl (hb.le L1) iv_row (getS b 0 (by first | omega | (simp only [List.length_cons, List.length_nil]; omega))) rfl) rfl rfl rfl ?_
    refine G.any rfl rfl (.neq rfl rfl) rfl rfl rfl ?_
    refine G.nil (E.thenN ?_)
    by_cases c2 : (a.getD k 0) ≠ (b.getD k 0)
    ·refine WC.condY rfl (decide_eq_true c2) ?_
     refine WC.seq (WC.region ?_)
     refine W.any (.assign rfl) rfl rfl rfl ?_
     refine W.nil (E.thenN (WC.ret (E.blkR (E.thenR (E.thenR (E.blkR (E.thenR ?_)))))))
     refine E.retG1 rfl rfl ?_
     exact ⟨by rw [decide_eq_false (fun e => c2 (by rw [e]))], L1⟩
    ·refine WC.condN rfl (decide_eq_false c2) ?_
     refine WC.skip (E.blkN (E.thenN (WC.region ?_)))
     refine W.any (.add rfl rfl (by omega)) rfl rfl rfl ?_
     refine W.any (.move rfl) rfl rfl rfl ?_
     refine W.nil ?_
     refine E.again (k + 1) (.cons rfl (.cons rfl (.cons rfl (.cons rfl (.nil _))))) ?_ ?_
     ·exact ⟨by omega, fun j hj => (Nat.lt_succ_iff_lt_or_eq.1 hj).elim (hs j) (fun hh => by subst hh; exact Classical.not_not.1 c2), L1, by have := zl0; have := d6.size; omega⟩
     ·first | omega | (simp only []; omega)
   ·refine WC.condN rfl (decide_eq_false c1) ?_
    refine WC.exit (E.thenX (E.thenX (E.blkH (E.thenN (WC.seq (WC.region ?_))))))
    refine W.any (.assign rfl) rfl rfl rfl ?_
    refine W.nil (E.thenN (WC.ret ?_))
    refine E.retG1 rfl rfl ?_
    exact ⟨by rw [decide_eq_true (ext_getD (z := (0 : Int)) (by omega) (fun j hj => hs j (by omega)))], Ll0⟩
end Go.Proofs.YtmgfgbplbemklaaGreat

namespace Go.Proofs.YtmgfgbplbemklaaGreat
open Go Go.Sx Go.Num Go.Gsp Go.Lsp
set_option maxRecDepth 20000
set_option linter.unusedSimpArgs false
set_option linter.unusedVariables false
theorem lcut_ok {gp gs gh c cs ck : Nat} {A : Option Addr} {own : List Int} {ls : SM} {lh : HM} {lost : Int} {Ao As Af : Option Addr} {no co ns cS nf cf : Nat} {old fee : List Int} {seats : List Seat} (w : World) (hL : LedL w gp gs gh A c cs ck own ls lh lost) (ho : Vec w iv 1 Ao no old) (hs : Vec w seatV 5 As ns seats) (hf : Vec w iv 1 Af nf fee) (hno : no ≤ 1000) (hns : ns ≤ 1000) (hnf : nf ≤ 1000) (hoa : ∀ q, blkOf Ao = some q → 0 < no → q < w.heap.size → ¬ LF gp gs gh A c q) (hsa : ∀ q, blkOf As = some q → 0 < ns → q < w.heap.size → ¬ LF gp gs gh A c q) (hfa : ∀ q, blkOf Af = some q → 0 < nf → q < w.heap.size → ¬ LF gp gs gh A c q) (hb : ∀ x ∈ lh, 0 ≤ x.2.2.am) (hq : ∀ ch side, heldL lh ch side ≤ 1125899906842624) (hseat : ∀ x ∈ ls, seatOk own.length x.2.2) (hl : 0 ≤ lost ∧ lost ≤ 1125899906842624) : Calls Tryz.prog 20 #[.pointer (some ⟨gp, 0, none⟩), .slice Ao no co, .slice As ns cS, .slice Af nf cf] w fun r w' => ChP w w' (LF gp gs gh A c) ∧ r = .returned (.int .i64 (cutC own.length ls lh old seats fee)) ∧ ((cutC own.length ls lh old seats fee ≠ 0 ∧ LedL w' gp gs gh A c cs ck own ls lh lost) ∨ (cutC own.length ls lh old seats fee = 0 ∧ LedL w' gp gs gh A c (cutLs ls cs old seats).2 ck own (cutLs ls cs old seats).1 lh (lost + fee.sum))) := by
 have hp0 := hL.hp
 have hO0 := hL.hO
 have hS0 := hL.hS
 have hH0 := hL.hH
 have n1 := hL.ps
 have n2 := hL.ph
 have n3 := hL.sh
 have n4 := hL.op
 have n5 := hL.os
 have n6 := hL.oh
 have hon := ho.1
 have hsn := hs.1
 have hfn := hf.1
 refine enter Tryz.func20 rfl rfl ?_
 have L0 := ChP.refl w (LF gp gs gh A c)
 refine WC.seq (WC.region ?_)
 refine W.any (.assign rfl) rfl rfl rfl ?_
 refine W.nil (E.thenN (WC.seq (WC.region ?_)))
 refine W.ef rfl rfl rfl ?_
 refine Ef.makeMapG ikf Value.bool ?_
 intro g1_0 w1_0 hg1_0 b1_0 h1_0
 have L1 := L0.le h1_0
 refine W.ef rfl rfl rfl ?_
 refine Ef.makeMapG ikf Value.bool ?_
 intro g1_1 w1_1 hg1_1 b1_1 h1_1
 have L2 := L1.le h1_1
 refine W.any (.assign rfl) rfl rfl rfl ?_
 refine W.any (.assign rfl) rfl rfl rfl ?_
 refine W.nil (E.thenN (WC.seq (WC.seq (WC.region ?_))))
 refine W.any (.move rfl) rfl rfl rfl ?_
 refine W.rd (.len Tryz.underlying22 rfl) rfl rfl rfl ?_
 refine W.any (.move rfl) rfl rfl rfl ?_
 refine W.nil (E.thenN (WC.block ?_))
 have f3 := (b1_0.le h1_1)
 have f4 := (hp0.le (h1_0.trans h1_1))
 have f5 := (hO0.le (h1_0.trans h1_1))
 have f6 := (hS0.le (h1_0.trans h1_1))
 have f7 := (hH0.le (h1_0.trans h1_1))
 refine WC.loop (ι := Nat × BM × Nat) (fun ⟨k, lg, cg⟩ => [(0, .pointer (some ⟨gp, 0, none⟩)), (1, .slice Ao no co), (2, .slice As ns cS), (3, .slice Af nf cf), (9, .map (some g1_0)), (10, .map (some g1_1)), (38, .slice Ao no co), (39, .int .i64 (((no : Nat) : Int))), (40, .int .i64 (((k : Nat) : Int)))]) (fun ⟨k, lg, cg⟩ wl0 => (k ≤ no) ∧ (Marks lg (old.take k)) ∧ ChP w wl0 (LF gp gs gh A c) ∧ w1_1.heap.size ≤ wl0.heap.size ∧ Blk wl0 gp 66 #[.slice A own.length c, .map (some gs), .map (some gh), .int .i64 (lost)] ∧ OVec wl0 0 3 iv 1 A own.length c own ∧ MapG wl0 ikf seatf gs ls cs ∧ MapG wl0 plf holdf gh lh ck ∧ MapG wl0 ikf Value.bool g1_0 lg cg ∧ MapG wl0 ikf Value.bool g1_1 ([]) 0) (fun ⟨k, lg, cg⟩ => no - k) (0, [], 0) ?_ ?_ ?_
 ·exact .cons rfl (.cons rfl (.cons rfl (.cons rfl (.cons rfl (.cons rfl (.cons rfl (.cons rfl (.cons rfl (.nil _)))))))))
 ·exact ⟨Nat.zero_le _, Marks.nil, L2, Nat.le_refl _, f4, f5, f6, f7, f3, b1_1⟩
 ·rintro ⟨k, lg, cg⟩ wl0 ⟨hk, hmk, Ll0, zl0, f0_0, f0_1, f0_2, f0_3, f0_4, f0_5⟩
  refine WC.seq (WC.region ?_)
  refine W.any (.lss rfl rfl) rfl rfl rfl ?_
  refine W.nil (E.thenN (WC.seq ?_))
  by_cases c0 : ((k : Nat) : Int) < ((no : Nat) : Int)
  ·refine WC.condY rfl (decide_eq_true c0) ?_
   refine WC.skip (E.thenN (WC.seq (WC.block (WC.seq (WC.region ?_)))))
   refine W.any (.idxS (k) Tryz.underlying22 sz3 rfl rfl (ho.isSome iv_row (by omega)) (rfl) (by omega)) rfl rfl rfl ?_
   refine W.rd (.vone (v := .int .i64 ((old.getD k 0))) na3 rfl (ho.chP Ll0 hoa) iv_row (getS old 0 (by first | omega | (simp only [List.length_cons, List.length_nil]; omega))) rfl) rfl rfl rfl ?_
   refine W.any (.assign rfl) rfl rfl rfl ?_
   refine W.nil (E.thenN (WC.region ?_))
   refine W.any (.move rfl) rfl rfl rfl ?_
   refine W.any (.move rfl) rfl rfl rfl ?_
   rcases optG (getG (old.getD k 0) lg) with hk5_2 | ⟨vhk5_2, hk5_2⟩
   ·refine W.ef0 rfl rfl ?_
    refine Ef.insertG (key := (old.getD k 0)) (u := true) Tryz.underlying91 kint rfl rfl rfl f0_4 (hk5_2) ?_
    intro w5_2 b5_2 h5_2
    have L8 : ChP w w5_2 (LF gp gs gh A c) := Ll0.ch h5_2 (fun i hi hlt => by cases hi; exact absurd hlt (by have := L0.size; have := hg1_0; omega))
    refine W.nil (E.blkN (E.thenN (WC.region ?_)))
    refine W.any (.add rfl rfl (by omega)) rfl rfl rfl ?_
    refine W.any (.move rfl) rfl rfl rfl ?_
    refine W.nil ?_
    have f9 := (f0_0.ch h5_2 (fun h => (show g1_0 ≠ gp from by have := hp0.lt; omega) (Option.some.inj h)))
    have f10 := (f0_1.ch h5_2 (fun q hq => by cases hq; exact (fun he => by have := (hO0.row he).2; omega)))
    have f11 := (f0_2.ch h5_2 (fun h => (show g1_0 ≠ gs from by have := hS0.lt; omega) (Option.some.inj h)))
    have f12 := (f0_3.ch h5_2 (fun h => (show g1_0 ≠ gh from by have := hH0.lt; omega) (Option.some.inj h)))
    have f13 := (f0_5.ch h5_2 (fun h => (show g1_0 ≠ g1_1 from by have := b1_0.lt; omega) (Option.some.inj h)))
    refine E.again (k + 1, (lg ++ [(cg, (old.getD k 0), true)]), (cg + 1)) (.cons rfl (.cons rfl (.cons rfl (.cons rfl (.cons rfl (.cons rfl (.cons rfl (.cons rfl (.cons rfl (.nil _)))))))))) ?_ ?_
    ·exact ⟨by omega, by rw [take_next (z := 0) (by omega)]; exact hmk.new hk5_2, L8, by have := zl0; have := h5_2.size; omega, f9, f10, f11, f12, b5_2, f13⟩
    ·first | omega | (simp only []; omega)
   ·refine W.ef0 rfl rfl ?_
    refine Ef.updateG (key := (old.getD k 0)) (u := true) Tryz.underlying91 kint rfl rfl rfl f0_4 stay_i (hk5_2) ?_
    intro w5_2_1 b5_2_1 h5_2_1
    have L14 : ChP w w5_2_1 (LF gp gs gh A c) := Ll0.ch h5_2_1 (fun i hi hlt => by cases hi; exact absurd hlt (by have := L0.size; have := hg1_0; omega))
    refine W.nil (E.blkN (E.thenN (WC.region ?_)))
    refine W.any (.add rfl rfl (by omega)) rfl rfl rfl ?_
    refine W.any (.move rfl) rfl rfl rfl ?_
    refine W.nil ?_
    have f15 := (f0_0.ch h5_2_1 (fun h => (show g1_0 ≠ gp from by have := hp0.lt; omega) (Option.some.inj h)))
    have f16 := (f0_1.ch h5_2_1 (fun q hq => by cases hq; exact (fun he => by have := (hO0.row he).2; omega)))
    have f17 := (f0_2.ch h5_2_1 (fun h => (show g1_0 ≠ gs from by have := hS0.lt; omega) (Option.some.inj h)))
    have f18 := (f0_3.ch h5_2_1 (fun h => (show g1_0 ≠ gh from by have := hH0.lt; omega) (Option.some.inj h)))
    have f19 := (f0_5.ch h5_2_1 (fun h => (show g1_0 ≠ g1_1 from by have := b1_0.lt; omega) (Option.some.inj h)))
    refine E.again (k + 1, (lg.map fun y => if y.2.1 = (old.getD k 0) then (y.1, (old.getD k 0), true) else y), cg) (.cons rfl (.cons rfl (.cons rfl (.cons rfl (.cons rfl (.cons rfl (.cons rfl (.cons rfl (.cons rfl (.nil _)))))))))) ?_ ?_
    ·exact ⟨by omega, by rw [take_next (z := 0) (by omega)]; exact hmk.old hk5_2, L14, by have := zl0; have := h5_2_1.size; omega, f15, f16, f17, f18, b5_2_1, f19⟩
    ·first | omega | (simp only []; omega)
  ·refine WC.condN rfl (decide_eq_false c0) ?_
   have hmo : Marks lg old := (by rw [List.take_of_length_le (by omega)] at hmk; exact hmk)
   have hnd := hmo.2.2
   refine WC.exit (E.thenX (E.thenX (E.blkH (E.thenN ?_))))
   refine WC.cut (ι := Bool) (fun bad => [(0, .pointer (some ⟨gp, 0, none⟩)), (1, .slice Ao no co), (2, .slice As ns cS), (3, .slice Af nf cf), (9, .map (some g1_0)), (10, .map (some g1_1)), (13, .bool (bad))]) (fun bad wc8 => (bad = true ↔ ¬ (old.Nodup ∧ seats.length ≤ 40 ∧ fee.length = own.length)) ∧ ChP w wc8 (LF gp gs gh A c) ∧ wl0.heap.size ≤ wc8.heap.size ∧ Blk wc8 gp 66 #[.slice A own.length c, .map (some gs), .map (some gh), .int .i64 (lost)] ∧ OVec wc8 0 3 iv 1 A own.length c own ∧ MapG wc8 ikf seatf gs ls cs ∧ MapG wc8 plf holdf gh lh ck ∧ MapG wc8 ikf Value.bool g1_0 lg cg ∧ MapG wc8 ikf Value.bool g1_1 ([]) 0) ?_ ?_
   ·refine WC.region ?_
    refine W.any (.move rfl) rfl rfl rfl ?_
    refine W.rd (.lenMap Tryz.underlying91 rfl f0_4) rfl rfl rfl ?_
    refine W.any (.move rfl) rfl rfl rfl ?_
    refine W.rd (.len Tryz.underlying22 rfl) rfl rfl rfl ?_
    refine W.any (.neq rfl rfl) rfl rfl rfl ?_
    by_cases q7_5 : ((lg.length : Nat) : Int) ≠ ((no : Nat) : Int)
    ·refine W.any (.dec (.move rfl) (decide_eq_true q7_5)) rfl rfl rfl ?_
     refine W.skip rfl rfl rfl (rfl) rfl rfl ?_
     refine W.skip rfl rfl rfl (rfl) rfl rfl ?_
     refine W.skip rfl rfl rfl (rfl) rfl rfl ?_
     refine W.any (.pickT rfl rfl rfl) rfl rfl rfl ?_
     refine W.any (.move rfl) rfl rfl rfl ?_
     refine W.skip rfl rfl rfl (rfl) rfl rfl ?_
     refine W.skip rfl rfl rfl (rfl) rfl rfl ?_
     refine W.skip rfl rfl rfl (rfl) rfl rfl ?_
     refine W.skip rfl rfl rfl (rfl) rfl rfl ?_
     refine W.skip rfl rfl rfl (rfl) rfl rfl ?_
     refine W.skip rfl rfl rfl (rfl) rfl rfl ?_
     refine W.skip rfl rfl rfl (rfl) rfl rfl ?_
     refine W.skip rfl rfl rfl (rfl) rfl rfl ?_
     refine W.any (.pickT rfl rfl rfl) rfl rfl rfl ?_
     refine W.any (.assign rfl) rfl rfl rfl ?_
     refine W.nil ?_
     refine E.meet true (.cons rfl (.cons rfl (.cons rfl (.cons rfl (.cons rfl (.cons rfl (.cons rfl (.nil _)))))))) ?_
     exact ⟨⟨fun _ => by rw [← hnd]; omega, fun _ => rfl⟩, Ll0, Nat.le_refl _, f0_0, f0_1, f0_2, f0_3, f0_4, f0_5⟩
    ·refine W.any (.dec (.move rfl) (decide_eq_false q7_5)) rfl rfl rfl ?_
     refine W.rdg (Any.rd (.move rfl) _) rfl rfl rfl (rfl) rfl rfl ?_
     refine W.rdg (.len Tryz.underlying37 rfl) rfl rfl rfl (rfl) rfl rfl ?_
     refine W.rdg (Any.rd (.gtr rfl rfl) _) rfl rfl rfl (rfl) rfl rfl ?_
     refine W.any (.pickF rfl rfl rfl) rfl rfl rfl ?_
     by_cases q7_10 : 40 < ((ns : Nat) : Int)
     ·refine W.any (.dec (.move rfl) (decide_eq_true q7_10)) rfl rfl rfl ?_
      refine W.skip rfl rfl rfl (rfl) rfl rfl ?_
      refine W.skip rfl rfl rfl (rfl) rfl rfl ?_
      refine W.skip rfl rfl rfl (rfl) rfl rfl ?_
      refine W.skip rfl rfl rfl (rfl) rfl rfl ?_
      refine W.skip rfl rfl rfl (rfl) rfl rfl ?_
      refine W.skip rfl rfl rfl (rfl) rfl rfl ?_
      refine W.skip rfl rfl rfl (rfl) rfl rfl ?_
      refine W.skip rfl rfl rfl (rfl) rfl rfl ?_
      refine W.any (.pickT rfl rfl rfl) rfl rfl rfl ?_
      refine W.any (.assign rfl) rfl rfl rfl ?_
      refine W.nil ?_
      refine E.meet true (.cons rfl (.cons rfl (.cons rfl (.cons rfl (.cons rfl (.cons rfl (.cons rfl (.nil _)))))))) ?_
      exact ⟨⟨fun _ => by rw [← hnd]; omega, fun _ => rfl⟩, Ll0, Nat.le_refl _, f0_0, f0_1, f0_2, f0_3, f0_4, f0_5⟩
     ·refine W.any (.dec (.move rfl) (decide_eq_false q7_10)) rfl rfl rfl ?_
      refine W.rdg (Any.rd (.move rfl) _) rfl rfl rfl (rfl) rfl rfl ?_
      refine W.rdg (.len Tryz.underlying22 rfl) rfl rfl rfl (rfl) rfl rfl ?_
      refine W.rdg (Any.rd (.move rfl) _) rfl rfl rfl (rfl) rfl rfl ?_
      refine W.rdg (Any.rd (.nilCheck rfl) _) rfl rfl rfl (rfl) rfl rfl ?_
      refine W.rdg (Any.rd (.field0 fa66_0 rfl) _) rfl rfl rfl (rfl) rfl rfl ?_
      refine W.rdg (.loadB (v := .slice A own.length c) na22 rfl f0_0 rfl) rfl rfl rfl (rfl) rfl rfl ?_
      refine W.rdg (.len Tryz.underlying22 rfl) rfl rfl rfl (rfl) rfl rfl ?_
      refine W.rdg (Any.rd (.neq rfl rfl) _) rfl rfl rfl (rfl) rfl rfl ?_
      refine W.any (.pickF rfl rfl rfl) rfl rfl rfl ?_
      refine W.any (.assign rfl) rfl rfl rfl ?_
      refine W.nil ?_
      refine E.meet (decide (((nf : Nat) : Int) ≠ ((own.length : Nat) : Int))) (.cons rfl (.cons rfl (.cons rfl (.cons rfl (.cons rfl (.cons rfl (.cons rfl (.nil _)))))))) ?_
      exact ⟨by rw [decide_eq_true_eq, ← hnd]; omega, Ll0, Nat.le_refl _, f0_0, f0_1, f0_2, f0_3, f0_4, f0_5⟩
   ·rintro bad wc8 ⟨hbad, Lc2, sc2, m2_0, m2_1, m2_2, m2_3, m2_4, m2_5⟩
    refine WC.seq (WC.seq (WC.region ?_))
    refine W.any (.move rfl) rfl rfl rfl ?_
    refine W.rd (.len Tryz.underlying37 rfl) rfl rfl rfl ?_
    refine W.any (.move rfl) rfl rfl rfl ?_
    refine W.nil (E.thenN (WC.block ?_))
    refine WC.loop (ι := Nat × Bool × BM × Nat) (fun ⟨k1, bd, lc, cc⟩ => [(0, .pointer (some ⟨gp, 0, none⟩)), (1, .slice Ao no co), (2, .slice As ns cS), (3, .slice Af nf cf), (9, .map (some g1_0)), (10, .map (some g1_1)), (13, .bool (bd)), (67, .slice As ns cS), (68, .int .i64 (((ns : Nat) : Int))), (69, .int .i64 (((k1 : Nat) : Int)))]) (fun ⟨k1, bd, lc, cc⟩ wl1 => (k1 ≤ ns) ∧ (bd = true ↔ ¬ ((old.Nodup ∧ seats.length ≤ 40 ∧ fee.length = own.length) ∧ SeatsOk own.length (seats.take k1))) ∧ (Marks lc (chans (seats.take k1))) ∧ ChP w wl1 (LF gp gs gh A c) ∧ wc8.heap.size ≤ wl1.heap.size ∧ Blk wl1 gp 66 #[.slice A own.length c, .map (some gs), .map (some gh), .int .i64 (lost)] ∧ OVec wl1 0 3 iv 1 A own.length c own ∧ MapG wl1 ikf seatf gs ls cs ∧ MapG wl1 plf holdf gh lh ck ∧ MapG wl1 ikf Value.bool g1_0 lg cg ∧ MapG wl1 ikf Value.bool g1_1 lc cc) (fun ⟨k1, bd, lc, cc⟩ => ns - k1) (0, bad, [], 0) ?_ ?_ ?_
    ·exact .cons rfl (.cons rfl (.cons rfl (.cons rfl (.cons rfl (.cons rfl (.cons rfl (.cons rfl (.cons rfl (.cons rfl (.nil _))))))))))
    ·exact ⟨Nat.zero_le _, by rw [hbad]; simp [SeatsOk, chans], Marks.nil, Lc2, Nat.le_refl _, m2_0, m2_1, m2_2, m2_3, m2_4, m2_5⟩
    ·rintro ⟨k1, bd, lc, cc⟩ wl1 ⟨hk1, hbd, hmc, Ll1, zl1, f1_0, f1_1, f1_2, f1_3, f1_4, f1_5⟩
     refine WC.seq (WC.region ?_)
     refine W.any (.lss rfl rfl) rfl rfl rfl ?_
     refine W.nil (E.thenN (WC.seq ?_))
     by_cases c1 : ((k1 : Nat) : Int) < ((ns : Nat) : Int)
     ·refine WC.condY rfl (decide_eq_true c1) ?_
      refine WC.skip (E.thenN (WC.seq (WC.block (WC.seq (WC.region ?_)))))
      refine W.any (.idxS (k1) Tryz.underlying37 sz44 rfl rfl (hs.isSome seatV_row (by omega)) (rfl) (by omega)) rfl rfl rfl ?_
      refine W.rd (.vload ag44 rfl (hs.chP Ll1 hsa) seatV_row (getS seats noSeat (by first | omega | (simp only [List.length_cons, List.length_nil]; omega)))) rfl rfl rfl ?_
      refine W.ef rfl rfl rfl ?_
      refine Ef.allocA z44 ?_
      intro g10_2 w10_2 hg10_2 b10_2 h10_2
      have L20 := Ll1.le h10_2
      have b10_2 : Blk w10_2 g10_2 44 (seatV noSeat).toArray := b10_2
      refine W.ef0 rfl rfl ?_
      refine Ef.storeAll sz44 (by rfl) rfl rfl b10_2 (by simp only [List.size_toArray, seatV_row.len]) (seatV_row.one (seats.getD k1 noSeat)) ?_
      intro w10_3 b10_3 h10_3
      have b10_3 : Blk w10_3 g10_2 44 (seatV (seats.getD k1 noSeat)).toArray := b10_3
      have L21 : ChP w w10_3 (LF gp gs gh A c) := L20.ch h10_3 (fun i hi hlt => by cases hi; exact absurd hlt (by have := Ll1.size; have := hg10_2; omega))
      refine W.nil (E.thenN (WC.seq (WC.region ?_)))
      refine W.any (.move rfl) rfl rfl rfl ?_
      by_cases q11_1 : bd = true
      ·refine W.any (.dec (.move rfl) (q11_1)) rfl rfl rfl ?_
       refine W.skip rfl rfl rfl (rfl) rfl rfl ?_
       refine W.skip rfl rfl rfl (rfl) rfl rfl ?_
       refine W.skip rfl rfl rfl (rfl) rfl rfl ?_
       refine W.skip rfl rfl rfl (rfl) rfl rfl ?_
       refine W.any (.pickT rfl rfl rfl) rfl rfl rfl ?_
       refine W.any (.move rfl) rfl rfl rfl ?_
       refine W.skip rfl rfl rfl (rfl) rfl rfl ?_
       refine W.skip rfl rfl rfl (rfl) rfl rfl ?_
       refine W.skip rfl rfl rfl (rfl) rfl rfl ?_
       refine W.skip rfl rfl rfl (rfl) rfl rfl ?_
       refine W.any (.pickT rfl rfl rfl) rfl rfl rfl ?_
       refine W.any (.assign rfl) rfl rfl rfl ?_
       refine W.nil (E.thenN (WC.region ?_))
       refine W.any (.move rfl) rfl rfl rfl ?_
       refine W.any (.field0 fa44_0 rfl) rfl rfl rfl ?_
       refine W.rd (.loadB (v := .int .i64 ((seats.getD k1 noSeat).ch)) na3 rfl b10_3 rfl) rfl rfl rfl ?_
       rcases optG (getG ((seats.getD k1 noSeat).ch) lc) with hk12_3 | ⟨vhk12_3, hk12_3⟩
       ·have f22 := ((f1_5.le h10_2).ch h10_3 (fun h => (show g10_2 ≠ g1_1 from by have := f1_5.lt; omega) (Option.some.inj h)))
        refine W.ef0 rfl rfl ?_
        refine Ef.insertG (key := ((seats.getD k1 noSeat).ch)) (u := true) Tryz.underlying91 kint rfl rfl rfl f22 (hk12_3) ?_
        intro w12_3 b12_3 h12_3
        have L23 : ChP w w12_3 (LF gp gs gh A c) := L21.ch h12_3 (fun i hi hlt => by cases hi; exact absurd hlt (by have := L1.size; have := hg1_1; omega))
        refine W.nil (E.blkN (E.thenN (WC.region ?_)))
        refine W.any (.add rfl rfl (by omega)) rfl rfl rfl ?_
        refine W.any (.move rfl) rfl rfl rfl ?_
        refine W.nil ?_
        have f24 := (((f1_0.le h10_2).ch h10_3 (fun h => (show g10_2 ≠ gp from by have := f1_0.lt; omega) (Option.some.inj h))).ch h12_3 (fun h => (show g1_1 ≠ gp from by have := hp0.lt; have := h1_0.size; omega) (Option.some.inj h)))
        have f25 := (((f1_1.le h10_2).ch h10_3 (fun q hq => by cases hq; exact (fun he => by have := (f1_1.row he).2; omega))).ch h12_3 (fun q hq => by cases hq; exact (fun he => by have := (hO0.row he).2; have := h1_0.size; omega)))
        have f26 := (((f1_2.le h10_2).ch h10_3 (fun h => (show g10_2 ≠ gs from by have := f1_2.lt; omega) (Option.some.inj h))).ch h12_3 (fun h => (show g1_1 ≠ gs from by have := hS0.lt; have := h1_0.size; omega) (Option.some.inj h)))
        have f27 := (((f1_3.le h10_2).ch h10_3 (fun h => (show g10_2 ≠ gh from by have := f1_3.lt; omega) (Option.some.inj h))).ch h12_3 (fun h => (show g1_1 ≠ gh from by have := hH0.lt; have := h1_0.size; omega) (Option.some.inj h)))
        have f28 := (((f1_4.le h10_2).ch h10_3 (fun h => (show g10_2 ≠ g1_0 from by have := f1_4.lt; omega) (Option.some.inj h))).ch h12_3 (fun h => (show g1_1 ≠ g1_0 from by have := b1_0.lt; omega) (Option.some.inj h)))
        refine E.again (k1 + 1, true, (lc ++ [(cc, ((seats.getD k1 noSeat).ch), true)]), (cc + 1)) (.cons rfl (.cons rfl (.cons rfl (.cons rfl (.cons rfl (.cons rfl (.cons rfl (.cons rfl (.cons rfl (.cons rfl (.nil _))))))))))) ?_ ?_
        ·exact ⟨by omega, bad_keep (by omega) hbd q11_1, by rw [chans_next (by omega)]; exact hmc.new hk12_3, L23, by have := zl1; have := h10_2.size; have := h10_3.size; have := h12_3.size; omega, f24, f25, f26, f27, f28, b12_3⟩
        ·first | omega | (simp only []; omega)
       ·have f29 := ((f1_5.le h10_2).ch h10_3 (fun h => (show g10_2 ≠ g1_1 from by have := f1_5.lt; omega) (Option.some.inj h)))
        refine W.ef0 rfl rfl ?_
        refine Ef.updateG (key := ((seats.getD k1 noSeat).ch)) (u := true) Tryz.underlying91 kint rfl rfl rfl f29 stay_i (hk12_3) ?_
        intro w12_3_1 b12_3_1 h12_3_1
        have L30 : ChP w w12_3_1 (LF gp gs gh A c) := L21.ch h12_3_1 (fun i hi hlt => by cases hi; exact absurd hlt (by have := L1.size; have := hg1_1; omega))
        refine W.nil (E.blkN (E.thenN (WC.region ?_)))
        refine W.any (.add rfl rfl (by omega)) rfl rfl rfl ?_
        refine W.any (.move rfl) rfl rfl rfl ?_
        refine W.nil ?_
        have f31 := (((f1_0.le h10_2).ch h10_3 (fun h => (show g10_2 ≠ gp from by have := f1_0.lt; omega) (Option.some.inj h))).ch h12_3_1 (fun h => (show g1_1 ≠ gp from by have := hp0.lt; have := h1_0.size; omega) (Option.some.inj h)))
        have f32 := (((f1_1.le h10_2).ch h10_3 (fun q hq => by cases hq; exact (fun he => by have := (f1_1.row he).2; omega))).ch h12_3_1 (fun q hq => by cases hq; exact (fun he => by have := (hO0.row he).2; have := h1_0.size; omega)))
        have f33 := (((f1_2.le h10_2).ch h10_3 (fun h => (show g10_2 ≠ gs from by have := f1_2.lt; omega) (Option.some.inj h))).ch h12_3_1 (fun h => (show g1_1 ≠ gs from by have := hS0.lt; have := h1_0.size; omega) (Option.some.inj h)))
        have f34 := (((f1_3.le h10_2).ch h10_3 (fun h => (show g10_2 ≠ gh from by have := f1_3.lt; omega) (Option.some.inj h))).ch h12_3_1 (fun h => (show g1_1 ≠ gh from by have := hH0.lt; have := h1_0.size; omega) (Option.some.inj h)))
        have f35 := (((f1_4.le h10_2).ch h10_3 (fun h => (show g10_2 ≠ g1_0 from by have := f1_4.lt; omega) (Option.some.inj h))).ch h12_3_1 (fun h => (show g1_1 ≠ g1_0 from by have := b1_0.lt; omega) (Option.some.inj h)))
        refine E.again (k1 + 1, true, (lc.map fun y => if y.2.1 = ((seats.getD k1 noSeat).ch) then (y.1, ((seats.getD k1 noSeat).ch), true) else y), cc) (.cons rfl (.cons rfl (.cons rfl (.cons rfl (.cons rfl (.cons rfl (.cons rfl (.cons rfl (.cons rfl (.cons rfl (.nil _))))))))))) ?_ ?_
        ·exact ⟨by omega, bad_keep (by omega) hbd q11_1, by rw [chans_next (by omega)]; exact hmc.old hk12_3, L30, by have := zl1; have := h10_2.size; have := h10_3.size; have := h12_3_1.size; omega, f31, f32, f33, f34, f35, b12_3_1⟩
        ·first | omega | (simp only []; omega)
      ·refine W.any (.dec (.move rfl) ((Bool.eq_false_iff.2 q11_1))) rfl rfl rfl ?_
       refine W.rdg (Any.rd (.move rfl) _) rfl rfl rfl (rfl) rfl rfl ?_
       refine W.rdg (Any.rd (.field0 fa44_0 rfl) _) rfl rfl rfl (rfl) rfl rfl ?_
       refine W.rdg (.loadB (v := .int .i64 ((seats.getD k1 noSeat).ch)) na3 rfl b10_3 rfl) rfl rfl rfl (rfl) rfl rfl ?_
       rcases optG (getG ((seats.getD k1 noSeat).ch) lc) with hk11_5 | ⟨vhk11_5, hk11_5⟩
       ·have f36 := ((f1_5.le h10_2).ch h10_3 (fun h => (show g10_2 ≠ g1_1 from by have := f1_5.lt; omega) (Option.some.inj h)))
        refine W.rdg (.as (.lookup1 (key := ((seats.getD k1 noSeat).ch)) Tryz.underlying91 kint z4 rfl rfl f36) (by rw [hk11_5] <;> rfl)) rfl rfl rfl (rfl) rfl rfl ?_
        refine W.any (.pickF rfl rfl rfl) rfl rfl rfl ?_
        refine W.any (.move rfl) rfl rfl rfl ?_
        refine W.rdg (Any.rd (.move rfl) _) rfl rfl rfl (rfl) rfl rfl ?_
        refine W.rdg (.loadAll ag44 (by rfl) rfl b10_3) rfl rfl rfl (rfl) rfl rfl ?_
        have f37 := ((f1_0.le h10_2).ch h10_3 (fun h => (show g10_2 ≠ gp from by have := f1_0.lt; omega) (Option.some.inj h)))
        have f38 := ((f1_1.le h10_2).ch h10_3 (fun q hq => by cases hq; exact (fun he => by have := (f1_1.row he).2; omega)))
        have f39 := ((f1_2.le h10_2).ch h10_3 (fun h => (show g10_2 ≠ gs from by have := f1_2.lt; omega) (Option.some.inj h)))
        have f40 := ((f1_3.le h10_2).ch h10_3 (fun h => (show g10_2 ≠ gh from by have := f1_3.lt; omega) (Option.some.inj h)))
        refine W.efg rfl rfl rfl (rfl) rfl rfl ?_
        refine Ef.call go44 rfl rfl (lmay_ok (seats.getD k1 noSeat) w10_3 (LedL.mk f37 f38 f39 f40 n1 n2 n3 n4 n5 n6)) ?_
        rintro _ w11_10 ⟨bm11_10, rfl, hbm11_10, h11_10⟩
        refine ⟨_, rfl, ?_⟩
        have L41 := L21.le h11_10
        refine W.rdg (Any.rd (.not rfl) _) rfl rfl rfl (rfl) rfl rfl ?_
        refine W.any (.pickF rfl rfl rfl) rfl rfl rfl ?_
        refine W.any (.assign rfl) rfl rfl rfl ?_
        refine W.nil (E.thenN (WC.region ?_))
        refine W.any (.move rfl) rfl rfl rfl ?_
        refine W.any (.field0 fa44_0 rfl) rfl rfl rfl ?_
        have f42 := (b10_3.le h11_10)
        refine W.rd (.loadB (v := .int .i64 ((seats.getD k1 noSeat).ch)) na3 rfl f42 rfl) rfl rfl rfl ?_
        have f43 := (f36.le h11_10)
        refine W.ef0 rfl rfl ?_
        refine Ef.insertG (key := ((seats.getD k1 noSeat).ch)) (u := true) Tryz.underlying91 kint rfl rfl rfl f43 (hk11_5) ?_
        intro w12_3_2 b12_3_2 h12_3_2
        have L44 : ChP w w12_3_2 (LF gp gs gh A c) := L41.ch h12_3_2 (fun i hi hlt => by cases hi; exact absurd hlt (by have := L1.size; have := hg1_1; omega))
        refine W.nil (E.blkN (E.thenN (WC.region ?_)))
        refine W.any (.add rfl rfl (by omega)) rfl rfl rfl ?_
        refine W.any (.move rfl) rfl rfl rfl ?_
        refine W.nil ?_
        have f45 := ((f37.le h11_10).ch h12_3_2 (fun h => (show g1_1 ≠ gp from by have := hp0.lt; have := h1_0.size; omega) (Option.some.inj h)))
        have f46 := ((f38.le h11_10).ch h12_3_2 (fun q hq => by cases hq; exact (fun he => by have := (hO0.row he).2; have := h1_0.size; omega)))
        have f47 := ((f39.le h11_10).ch h12_3_2 (fun h => (show g1_1 ≠ gs from by have := hS0.lt; have := h1_0.size; omega) (Option.some.inj h)))
        have f48 := ((f40.le h11_10).ch h12_3_2 (fun h => (show g1_1 ≠ gh from by have := hH0.lt; have := h1_0.size; omega) (Option.some.inj h)))
        have f49 := ((((f1_4.le h10_2).ch h10_3 (fun h => (show g10_2 ≠ g1_0 from by have := f1_4.lt; omega) (Option.some.inj h))).le h11_10).ch h12_3_2 (fun h => (show g1_1 ≠ g1_0 from by have := b1_0.lt; omega) (Option.some.inj h)))
        refine E.again (k1 + 1, (!(bm11_10)), (lc ++ [(cc, ((seats.getD k1 noSeat).ch), true)]), (cc + 1)) (.cons rfl (.cons rfl (.cons rfl (.cons rfl (.cons rfl (.cons rfl (.cons rfl (.cons rfl (.cons rfl (.cons rfl (.nil _))))))))))) ?_ ?_
        ·exact ⟨by omega, bad_next (by omega) hbd q11_1 (hmc.not hk11_5) hbm11_10, by rw [chans_next (by omega)]; exact hmc.new hk11_5, L44, by have := zl1; have := h10_2.size; have := h10_3.size; have := h11_10.size; have := h12_3_2.size; omega, f45, f46, f47, f48, f49, b12_3_2⟩
        ·first | omega | (simp only []; omega)
       ·have f50 := ((f1_5.le h10_2).ch h10_3 (fun h => (show g10_2 ≠ g1_1 from by have := f1_5.lt; omega) (Option.some.inj h)))
        refine W.rdg (.as (.lookup1 (key := ((seats.getD k1 noSeat).ch)) Tryz.underlying91 kint z4 rfl rfl f50) (by rw [hk11_5] <;> rfl)) rfl rfl rfl (rfl) rfl rfl ?_
        refine W.any (.pickF rfl rfl rfl) rfl rfl rfl ?_
        refine W.any (.dec (.move rfl) ((hmc.val hk11_5).1)) rfl rfl rfl ?_
        refine W.skip rfl rfl rfl (rfl) rfl rfl ?_
        refine W.skip rfl rfl rfl (rfl) rfl rfl ?_
        refine W.skip rfl rfl rfl (rfl) rfl rfl ?_
        refine W.skip rfl rfl rfl (rfl) rfl rfl ?_
        refine W.any (.pickT rfl rfl rfl) rfl rfl rfl ?_
        refine W.any (.assign rfl) rfl rfl rfl ?_
        refine W.nil (E.thenN (WC.region ?_))
        refine W.any (.move rfl) rfl rfl rfl ?_
        refine W.any (.field0 fa44_0 rfl) rfl rfl rfl ?_
        refine W.rd (.loadB (v := .int .i64 ((seats.getD k1 noSeat).ch)) na3 rfl b10_3 rfl) rfl rfl rfl ?_
        refine W.ef0 rfl rfl ?_
        refine Ef.updateG (key := ((seats.getD k1 noSeat).ch)) (u := true) Tryz.underlying91 kint rfl rfl rfl f50 stay_i (hk11_5) ?_
        intro w12_3_3 b12_3_3 h12_3_3
        have L51 : ChP w w12_3_3 (LF gp gs gh A c) := L21.ch h12_3_3 (fun i hi hlt => by cases hi; exact absurd hlt (by have := L1.size; have := hg1_1; omega))
        refine W.nil (E.blkN (E.thenN (WC.region ?_)))
        refine W.any (.add rfl rfl (by omega)) rfl rfl rfl ?_
        refine W.any (.move rfl) rfl rfl rfl ?_
        refine W.nil ?_
        have f52 := (((f1_0.le h10_2).ch h10_3 (fun h => (show g10_2 ≠ gp from by have := f1_0.lt; omega) (Option.some.inj h))).ch h12_3_3 (fun h => (show g1_1 ≠ gp from by have := hp0.lt; have := h1_0.size; omega) (Option.some.inj h)))
        have f53 := (((f1_1.le h10_2).ch h10_3 (fun q hq => by cases hq; exact (fun he => by have := (f1_1.row he).2; omega))).ch h12_3_3 (fun q hq => by cases hq; exact (fun he => by have := (hO0.row he).2; have := h1_0.size; omega)))
        have f54 := (((f1_2.le h10_2).ch h10_3 (fun h => (show g10_2 ≠ gs from by have := f1_2.lt; omega) (Option.some.inj h))).ch h12_3_3 (fun h => (show g1_1 ≠ gs from by have := hS0.lt; have := h1_0.size; omega) (Option.some.inj h)))
        have f55 := (((f1_3.le h10_2).ch h10_3 (fun h => (show g10_2 ≠ gh from by have := f1_3.lt; omega) (Option.some.inj h))).ch h12_3_3 (fun h => (show g1_1 ≠ gh from by have := hH0.lt; have := h1_0.size; omega) (Option.some.inj h)))
        have f56 := (((f1_4.le h10_2).ch h10_3 (fun h => (show g10_2 ≠ g1_0 from by have := f1_4.lt; omega) (Option.some.inj h))).ch h12_3_3 (fun h => (show g1_1 ≠ g1_0 from by have := b1_0.lt; omega) (Option.some.inj h)))
        refine E.again (k1 + 1, true, (lc.map fun y => if y.2.1 = ((seats.getD k1 noSeat).ch) then (y.1, ((seats.getD k1 noSeat).ch), true) else y), cc) (.cons rfl (.cons rfl (.cons rfl (.cons rfl (.cons rfl (.cons rfl (.cons rfl (.cons rfl (.cons rfl (.cons rfl (.nil _))))))))))) ?_ ?_
        ·exact ⟨by omega, bad_twice (by omega) (hmc.val hk11_5).2, by rw [chans_next (by omega)]; exact hmc.old hk11_5, L51, by have := zl1; have := h10_2.size; have := h10_3.size; have := h12_3_3.size; omega, f52, f53, f54, f55, f56, b12_3_3⟩
        ·first | omega | (simp only []; omega)
     ·refine WC.condN rfl (decide_eq_false c1) ?_
      have hbd2 := hbd
      rw [List.take_of_length_le (by omega)] at hbd2
      refine WC.exit (E.thenX (E.thenX (E.blkH (E.thenN (WC.seq (WC.seq (WC.region ?_)))))))
      refine W.any (.move rfl) rfl rfl rfl ?_
      by_cases q14_1 : bd = true
      ·refine W.any (.dec (.move rfl) (q14_1)) rfl rfl rfl ?_
       refine W.skip rfl rfl rfl (rfl) rfl rfl ?_
       refine W.skip rfl rfl rfl (rfl) rfl rfl ?_
       refine W.any (.pickT rfl rfl rfl) rfl rfl rfl ?_
       refine W.nil (E.thenN ?_)
       refine WC.condT rfl ?_
       refine WC.seq (WC.region ?_)
       refine W.any (.assign rfl) rfl rfl rfl ?_
       refine W.nil (E.thenN (WC.ret (E.thenR ?_)))
       refine E.retG1 rfl rfl ?_
       have e9 : cutC own.length ls lh old seats fee = 1 := cut_no1 hbd2 q14_1; exact ⟨Ll1, by rw [e9], .inl ⟨by rw [e9]; decide, ⟨f1_0, f1_1, f1_2, f1_3, n1, n2, n3, n4, n5, n6⟩⟩⟩
      ·refine W.any (.dec (.move rfl) ((Bool.eq_false_iff.2 q14_1))) rfl rfl rfl ?_
       refine W.rdg (Any.rd (.move rfl) _) rfl rfl rfl (rfl) rfl rfl ?_
       refine W.efg rfl rfl rfl (rfl) rfl rfl ?_
       refine Ef.call go52 rfl rfl (hascoin_ok wl1 (hf.chP Ll1 hfa) (by omega)) ?_
       rintro _ w14_3 ⟨bc14_3, rfl, hbc14_3, h14_3⟩
       refine ⟨_, rfl, ?_⟩
       have L57 := Ll1.le h14_3
       refine W.any (.pickF rfl rfl rfl) rfl rfl rfl ?_
       refine W.nil (E.thenN ?_)
       by_cases c2 : bc14_3 = true
       ·refine WC.condY rfl (c2) ?_
        refine WC.seq (WC.region ?_)
        refine W.any (.assign rfl) rfl rfl rfl ?_
        refine W.nil (E.thenN (WC.ret (E.thenR ?_)))
        have f58 := (f1_0.le h14_3)
        have f59 := (f1_1.le h14_3)
        have f60 := (f1_2.le h14_3)
        have f61 := (f1_3.le h14_3)
        refine E.retG1 rfl rfl ?_
        have e9 : cutC own.length ls lh old seats fee = 1 := cut_no2 hbc14_3 c2; exact ⟨L57, by rw [e9], .inl ⟨by rw [e9]; decide, ⟨f58, f59, f60, f61, n1, n2, n3, n4, n5, n6⟩⟩⟩
       ·refine WC.condN rfl ((Bool.eq_false_iff.2 c2)) ?_
        have hok : cutOk own.length old seats fee := cut_ok hbd2 q14_1 hbc14_3 c2
        have hfo := hok.1.2.2
        refine WC.skip (E.thenN (WC.seq (WC.region ?_)))
        refine W.any (.move rfl) rfl rfl rfl ?_
        refine W.rd (.len Tryz.underlying22 rfl) rfl rfl rfl ?_
        refine W.ef rfl rfl rfl ?_
        refine Ef.vmake 0 nf Tryz.underlying22 el3 iv_row rfl rfl (rfl) rfl (rfl) (by omega) (by unfold maxLen; omega) ?_
        intro g16_2 w16_2 hg16_2 o16_2 h16_2
        have L62 := L57.le h16_2
        refine W.any (.assign rfl) rfl rfl rfl ?_
        refine W.nil (E.thenN (WC.seq (WC.region ?_)))
        refine W.any (.assign rfl) rfl rfl rfl ?_
        refine W.nil (E.thenN (WC.seq (WC.seq (WC.region ?_))))
        refine W.any (.move rfl) rfl rfl rfl ?_
        refine W.rd (.len Tryz.underlying22 rfl) rfl rfl rfl ?_
        refine W.any (.move rfl) rfl rfl rfl ?_
        refine W.nil (E.thenN (WC.block ?_))
        have f63 := (f1_0.le (h14_3.trans h16_2))
        have f64 := (f1_1.le (h14_3.trans h16_2))
        have f65 := (f1_2.le (h14_3.trans h16_2))
        have f66 := (f1_3.le (h14_3.trans h16_2))
        have f67 := (f1_4.le (h14_3.trans h16_2))
        refine WC.loop (ι := Nat × Bool) (fun ⟨k2, held⟩ => [(0, .pointer (some ⟨gp, 0, none⟩)), (1, .slice Ao no co), (2, .slice As ns cS), (3, .slice Af nf cf), (9, .map (some g1_0)), (16, .slice (some ⟨g16_2, 0, none⟩) nf nf), (17, .bool (held)), (98, .slice Ao no co), (99, .int .i64 (((no : Nat) : Int))), (100, .int .i64 (((k2 : Nat) : Int)))]) (fun ⟨k2, held⟩ wl2 => (k2 ≤ no) ∧ (∀ i, i < k2 → ∃ t, getG (old.getD i 0) ls = some t) ∧ (held = true ↔ ∃ i, i < k2 ∧ Busy lh (old.getD i 0)) ∧ ChP w wl2 (LF gp gs gh A c) ∧ w16_2.heap.size ≤ wl2.heap.size ∧ Blk wl2 gp 66 #[.slice A own.length c, .map (some gs), .map (some gh), .int .i64 (lost)] ∧ OVec wl2 0 3 iv 1 A own.length c own ∧ MapG wl2 ikf seatf gs ls cs ∧ MapG wl2 plf holdf gh lh ck ∧ MapG wl2 ikf Value.bool g1_0 lg cg ∧ OVec wl2 w14_3.heap.size 3 iv 1 (some ⟨g16_2, 0, none⟩) nf nf (goneO own.length ls (old.take k2))) (fun ⟨k2, held⟩ => no - k2) (0, false) ?_ ?_ ?_
        ·exact .cons rfl (.cons rfl (.cons rfl (.cons rfl (.cons rfl (.cons rfl (.cons rfl (.cons rfl (.cons rfl (.cons rfl (.nil _))))))))))
        ·exact ⟨Nat.zero_le _, fun i hi => by omega, ⟨fun h => (by cases h), fun ⟨i, hi, _⟩ => (by omega)⟩, L62, Nat.le_refl _, f63, f64, f65, f66, f67, (o16_2.cast rfl (by unfold goneO; rw [show nf = own.length by omega]; rfl))⟩
        ·rintro ⟨k2, held⟩ wl2 ⟨hk2, hth, hhd, Ll2, zl2, f2_0, f2_1, f2_2, f2_3, f2_4, f2_5⟩
         have lb2_11 : w14_3.heap.size ≤ wl2.heap.size := by have := h16_2.size; omega
         have hgb := gone_at hseat k2 (by omega) hth
         refine WC.seq (WC.region ?_)
         refine W.any (.lss rfl rfl) rfl rfl rfl ?_
         refine W.nil (E.thenN (WC.seq ?_))
         by_cases c3 : ((k2 : Nat) : Int) < ((no : Nat) : Int)
         ·refine WC.condY rfl (decide_eq_true c3) ?_
          refine WC.skip (E.thenN (WC.seq (WC.block (WC.seq (WC.region ?_)))))
          refine W.any (.idxS (k2) Tryz.underlying22 sz3 rfl rfl (ho.isSome iv_row (by omega)) (rfl) (by omega)) rfl rfl rfl ?_
          refine W.rd (.vone (v := .int .i64 ((old.getD k2 0))) na3 rfl (ho.chP Ll2 hoa) iv_row (getS old 0 (by first | omega | (simp only [List.length_cons, List.length_nil]; omega))) rfl) rfl rfl rfl ?_
          refine W.any (.assign rfl) rfl rfl rfl ?_
          refine W.nil (E.thenN (WC.seq (WC.region ?_)))
          refine W.any (.move rfl) rfl rfl rfl ?_
          refine W.any (.nilCheck rfl) rfl rfl rfl ?_
          refine W.any (.field0 fa66_1 rfl) rfl rfl rfl ?_
          refine W.rd (.loadB (v := .map (some gs)) na63 rfl f2_0 rfl) rfl rfl rfl ?_
          refine W.any (.move rfl) rfl rfl rfl ?_
          rcases optG (getG (old.getD k2 0) ls) with hk21_5 | ⟨vhk21_5, hk21_5⟩
          ·refine W.rd (.as (.lookup2 (key := (old.getD k2 0)) Tryz.underlying63 kint z44 rfl rfl f2_2) (by rw [hk21_5] <;> rfl)) rfl rfl rfl ?_
           refine W.any (.move rfl) rfl rfl rfl ?_
           refine W.any (.extract (v := .agg (seatV noSeat).toArray) rfl rfl) rfl rfl rfl ?_
           refine W.any (.extract (v := .bool false) rfl rfl) rfl rfl rfl ?_
           refine W.ef rfl rfl rfl ?_
           refine Ef.allocA z44 ?_
           intro g21_9 w21_9 hg21_9 b21_9 h21_9
           have L68 := Ll2.le h21_9
           have b21_9 : Blk w21_9 g21_9 44 (seatV noSeat).toArray := b21_9
           refine W.ef0 rfl rfl ?_
           refine Ef.storeAll sz44 (by rfl) rfl rfl b21_9 (by simp only [List.size_toArray, seatV_row.len]) (seatV_row.one noSeat) ?_
           intro w21_10 b21_10 h21_10
           have b21_10 : Blk w21_10 g21_9 44 (seatV noSeat).toArray := b21_10
           have L69 : ChP w w21_10 (LF gp gs gh A c) := L68.ch h21_10 (fun i hi hlt => by cases hi; exact absurd hlt (by have := Ll2.size; have := hg21_9; omega))
           refine W.any (.assign rfl) rfl rfl rfl ?_
           refine W.nil (E.thenN (WC.seq (WC.seq (WC.region ?_))))
           refine W.any (.move rfl) rfl rfl rfl ?_
           refine W.any (.not rfl) rfl rfl rfl ?_
           refine W.nil (E.thenN ?_)
           refine WC.condT rfl ?_
           refine WC.seq (WC.region ?_)
           refine W.any (.assign rfl) rfl rfl rfl ?_
           refine W.nil (E.thenN (WC.ret (E.thenR (E.blkR (E.thenR (E.thenR (E.blkR (E.thenR ?_))))))))
           have f70 := ((f2_0.le h21_9).ch h21_10 (fun h => (show g21_9 ≠ gp from by have := f2_0.lt; omega) (Option.some.inj h)))
           have f71 := ((f2_1.le h21_9).ch h21_10 (fun q hq => by cases hq; exact (fun he => by have := (f2_1.row he).2; omega)))
           have f72 := ((f2_2.le h21_9).ch h21_10 (fun h => (show g21_9 ≠ gs from by have := f2_2.lt; omega) (Option.some.inj h)))
           have f73 := ((f2_3.le h21_9).ch h21_10 (fun h => (show g21_9 ≠ gh from by have := f2_3.lt; omega) (Option.some.inj h)))
           refine E.retG1 rfl rfl ?_
           have e9 : cutC own.length ls lh old seats fee = 5 := cutC_5 hok (by omega) hk21_5; exact ⟨L69, by rw [e9], .inl ⟨by rw [e9]; decide, ⟨f70, f71, f72, f73, n1, n2, n3, n4, n5, n6⟩⟩⟩
          ·obtain ⟨bh, hbh⟩ := getG_mem hk21_5
           have hso : seatOk own.length vhk21_5 := hseat _ hbh
           refine W.rd (.as (.lookup2 (key := (old.getD k2 0)) Tryz.underlying63 kint z44 rfl rfl f2_2) (by rw [hk21_5] <;> rfl)) rfl rfl rfl ?_
           refine W.any (.move rfl) rfl rfl rfl ?_
           refine W.any (.extract (v := .agg (seatV vhk21_5).toArray) rfl rfl) rfl rfl rfl ?_
           refine W.any (.extract (v := .bool true) rfl rfl) rfl rfl rfl ?_
           refine W.ef rfl rfl rfl ?_
           refine Ef.allocA z44 ?_
           intro g21_9_1 w21_9_1 hg21_9_1 b21_9_1 h21_9_1
           have L74 := Ll2.le h21_9_1
           have b21_9_1 : Blk w21_9_1 g21_9_1 44 (seatV noSeat).toArray := b21_9_1
           refine W.ef0 rfl rfl ?_
           refine Ef.storeAll sz44 (by rfl) rfl rfl b21_9_1 (by simp only [List.size_toArray, seatV_row.len]) (seatV_row.one vhk21_5) ?_
           intro w21_10_1 b21_10_1 h21_10_1
           have b21_10_1 : Blk w21_10_1 g21_9_1 44 (seatV vhk21_5).toArray := b21_10_1
           have L75 : ChP w w21_10_1 (LF gp gs gh A c) := L74.ch h21_10_1 (fun i hi hlt => by cases hi; exact absurd hlt (by have := Ll2.size; have := hg21_9_1; omega))
           refine W.any (.assign rfl) rfl rfl rfl ?_
           refine W.nil (E.thenN (WC.seq (WC.seq (WC.region ?_))))
           refine W.any (.move rfl) rfl rfl rfl ?_
           refine W.any (.not rfl) rfl rfl rfl ?_
           refine W.nil (E.thenN ?_)
           refine WC.condF rfl ?_
           refine WC.skip (E.thenN (WC.seq (WC.region ?_)))
           refine W.any (.move rfl) rfl rfl rfl ?_
           by_cases q24_1 : held = true
           ·refine W.any (.dec (.move rfl) (q24_1)) rfl rfl rfl ?_
            refine W.skip rfl rfl rfl (rfl) rfl rfl ?_
            refine W.skip rfl rfl rfl (rfl) rfl rfl ?_
            refine W.skip rfl rfl rfl (rfl) rfl rfl ?_
            refine W.skip rfl rfl rfl (rfl) rfl rfl ?_
            refine W.any (.pickT rfl rfl rfl) rfl rfl rfl ?_
            refine W.any (.assign rfl) rfl rfl rfl ?_
            refine W.nil (E.thenN (WC.seq (WC.region ?_)))
            refine W.any (.field0 fa44_1 rfl) rfl rfl rfl ?_
            refine W.rd (.bpart [.int .i64 (vhk21_5.p0), .int .i64 (vhk21_5.p1)] ag35 rfl (by decide) rfl b21_10_1 rfl) rfl rfl rfl ?_
            refine W.any (.move rfl) rfl rfl rfl ?_
            refine W.nil (E.thenN (WC.block ?_))
            have f76 := ((f2_5.le h21_9_1).ch h21_10_1 (fun q hq => by cases hq; exact (fun he => by have := (f2_5.row he).2; omega)))
            have f77 := ((f2_0.le h21_9_1).ch h21_10_1 (fun h => (show g21_9_1 ≠ gp from by have := f2_0.lt; omega) (Option.some.inj h)))
            have f78 := ((f2_1.le h21_9_1).ch h21_10_1 (fun q hq => by cases hq; exact (fun he => by have := (f2_1.row he).2; omega)))
            have f79 := ((f2_2.le h21_9_1).ch h21_10_1 (fun h => (show g21_9_1 ≠ gs from by have := f2_2.lt; omega) (Option.some.inj h)))
            have f80 := ((f2_3.le h21_9_1).ch h21_10_1 (fun h => (show g21_9_1 ≠ gh from by have := f2_3.lt; omega) (Option.some.inj h)))
            have f81 := ((f2_4.le h21_9_1).ch h21_10_1 (fun h => (show g21_9_1 ≠ g1_0 from by have := f2_4.lt; omega) (Option.some.inj h)))
            refine WC.loop (ι := Nat) (fun k3 => [(0, .pointer (some ⟨gp, 0, none⟩)), (1, .slice Ao no co), (2, .slice As ns cS), (3, .slice Af nf cf), (9, .map (some g1_0)), (16, .slice (some ⟨g16_2, 0, none⟩) nf nf), (17, .bool true), (20, .pointer (some ⟨g21_9_1, 0, none⟩)), (98, .slice Ao no co), (99, .int .i64 (((no : Nat) : Int))), (100, .int .i64 (((k2 : Nat) : Int))), (123, .agg #[.int .i64 (vhk21_5.p0), .int .i64 (vhk21_5.p1)]), (124, .int .i64 (((k3 : Nat) : Int)))]) (fun k3 wl3 => (k3 ≤ 2) ∧ ChP w wl3 (LF gp gs gh A c) ∧ w21_10_1.heap.size ≤ wl3.heap.size ∧ Blk wl3 gp 66 #[.slice A own.length c, .map (some gs), .map (some gh), .int .i64 (lost)] ∧ OVec wl3 0 3 iv 1 A own.length c own ∧ MapG wl3 ikf seatf gs ls cs ∧ MapG wl3 plf holdf gh lh ck ∧ MapG wl3 ikf Value.bool g1_0 lg cg ∧ OVec wl3 w14_3.heap.size 3 iv 1 (some ⟨g16_2, 0, none⟩) nf nf (addS (goneO own.length ls (old.take k2)) vhk21_5 k3) ∧ Blk wl3 g21_9_1 44 (seatV vhk21_5).toArray) (fun k3 => 2 - k3) 0 ?_ ?_ ?_
            ·exact .cons rfl (.cons rfl (.cons rfl (.cons rfl (.cons rfl (.cons rfl (.cons rfl (.cons rfl (.cons rfl (.cons rfl (.cons rfl (.cons rfl (.cons rfl (.nil _)))))))))))))
            ·exact ⟨Nat.zero_le _, L75, Nat.le_refl _, f77, f78, f79, f80, f81, f76, b21_10_1⟩
            ·rintro k3 wl3 ⟨hk3, Ll3, zl3, f3_0, f3_1, f3_2, f3_3, f3_4, f3_5, f3_6⟩
             have lb3_11 : w14_3.heap.size ≤ wl3.heap.size := Nat.le_trans lb2_11 (by have := h21_9_1.size; have := h21_10_1.size; omega)
             have hpz := hso.1
             have hab := addS_at hso.2.2.2.1 hso.2.2.2.2 hgb k3 hk3
             refine WC.seq (WC.region ?_)
             refine W.any (.lss rfl rfl) rfl rfl rfl ?_
             refine W.nil (E.thenN (WC.seq ?_))
             by_cases c5 : ((k3 : Nat) : Int) < 2
             ·refine WC.condY rfl (decide_eq_true c5) ?_
              refine WC.skip (E.thenN (WC.seq (WC.block (WC.seq (WC.region ?_)))))
              refine W.any (.move rfl) rfl rfl rfl ?_
              refine W.any (.index1 (v := .int .i64 ((vhk21_5.p k3))) (k3) Tryz.underlying35 sz3 na3 rfl rfl (rfl) (by omega) (seatP_ix vhk21_5 (by omega))) rfl rfl rfl ?_
              refine W.any (.assign rfl) rfl rfl rfl ?_
              refine W.any (.assign rfl) rfl rfl rfl ?_
              refine W.nil (E.thenN ?_)
              refine WC.draw [0, 1, 2, 3, 4, 5, 6, 7, 8, 9, 10] mixed (by kernel_rfl) ?_
              intro w28 d28
              have L82 := Ll3.le d28
              refine G.any rfl rfl (.move rfl) rfl rfl rfl ?_
              refine G.any rfl rfl (.move rfl) rfl rfl rfl ?_
              refine G.any rfl rfl (.idxS ((vhk21_5.p k3).toNat) Tryz.underlying22 sz3 rfl rfl (o16_2.vec.isSome iv_row (by omega)) (by have := (seatOk_at hso (k := k3) (by omega)).1; omega) (by have := (seatOk_at hso (k := k3) (by omega)).1; omega)) rfl rfl rfl ?_
              have f83 := (f3_5.le d28)
              refine G.rd rfl rfl (.vone (v := .int .i64 (((addS (goneO own.length ls (old.take k2)) vhk21_5 k3).getD ((vhk21_5.p k3).toNat) 0))) na3 rfl f83.vec iv_row (getS (addS (goneO own.length ls (old.take k2)) vhk21_5 k3) 0 (by rw [addS_len, goneO_len]; have := (seatOk_at hso (k := k3) (by omega)).1; omega)) rfl) rfl rfl rfl ?_
              refine G.any rfl rfl (.move rfl) rfl rfl rfl ?_
              refine G.any rfl rfl (.field0 fa44_2 rfl) rfl rfl rfl ?_
              refine G.any rfl rfl (.idxAo (k3) Tryz.underlying35 sz3 rfl rfl (rfl) (by omega)) rfl rfl rfl ?_
              have f84 := (f3_6.le d28)
              refine G.rd rfl rfl (.loadB (v := .int .i64 ((vhk21_5.h k3))) na3 rfl f84 (seatH_at vhk21_5 (by omega))) rfl rfl rfl ?_
              refine G.any rfl rfl (.add rfl rfl (by have := hab (vhk21_5.p k3).toNat; have := (seatOk_at hso (k := k3) (by omega)).2; omega)) rfl rfl rfl ?_
              refine G.any rfl rfl (.idxS ((vhk21_5.p k3).toNat) Tryz.underlying22 sz3 rfl rfl (o16_2.vec.isSome iv_row (by omega)) (by have := (seatOk_at hso (k := k3) (by omega)).1; omega) (by have := (seatOk_at hso (k := k3) (by omega)).1; omega)) rfl rfl rfl ?_
              refine G.ef0 rfl rfl rfl rfl ?_
              refine Ef.vset (j := (vhk21_5.p k3).toNat) (o := 0) (((addS (goneO own.length ls (old.take k2)) vhk21_5 k3).getD ((vhk21_5.p k3).toNat) 0) + (vhk21_5.h k3)) sz3 rfl (by omega) rfl f83 iv_row (getS (addS (goneO own.length ls (old.take k2)) vhk21_5 k3) 0 (by rw [addS_len, goneO_len]; have := (seatOk_at hso (k := k3) (by omega)).1; omega)) (by decide) rfl rfl ?_
              intro w28_10 o28_10 h28_10
              refine ⟨fun h => absurd h (ne_true_of_eq_false (by kernel_rfl)), ?_⟩
              have L85 : ChP w w28_10 (LF gp gs gh A c) := L82.ch h28_10 (fun i hi hlt => absurd hlt (by have := (f83.row hi).1; have := L57.size; omega))
              refine G.nil (E.blkN (E.thenN (WC.region ?_)))
              refine W.any (.add rfl rfl (by omega)) rfl rfl rfl ?_
              refine W.any (.move rfl) rfl rfl rfl ?_
              refine W.nil ?_
              have f86 := ((f3_0.le d28).ch h28_10 (fun he => by have := (f83.row he).1; have := f1_0.lt; have := h14_3.size; omega))
              have f87 := ((f3_1.le d28).ch h28_10 ((Apart.symm (fun q h1 h2 => by have := (f1_1.row h1).2; have := (f83.row h2).1; have := h14_3.size; omega))))
              have f88 := ((f3_2.le d28).ch h28_10 (fun he => by have := (f83.row he).1; have := f1_2.lt; have := h14_3.size; omega))
              have f89 := ((f3_3.le d28).ch h28_10 (fun he => by have := (f83.row he).1; have := f1_3.lt; have := h14_3.size; omega))
              have f90 := ((f3_4.le d28).ch h28_10 (fun he => by have := (f83.row he).1; have := f1_4.lt; have := h14_3.size; omega))
              have f91 := (f84.ch h28_10 (fun he => by have := (f2_5.row he).2; omega))
              refine E.again (k3 + 1) (.cons rfl (.cons rfl (.cons rfl (.cons rfl (.cons rfl (.cons rfl (.cons rfl (.cons rfl (.cons rfl (.cons rfl (.cons rfl (.cons rfl (.cons rfl (.nil _)))))))))))))) ?_ ?_
              ·exact ⟨by omega, L85, by have := zl3; have := d28.size; have := h28_10.size; omega, f86, f87, f88, f89, f90, o28_10, f91⟩
              ·first | omega | (simp only []; omega)
             ·refine WC.condN rfl (decide_eq_false c5) ?_
              refine WC.exit (E.thenX (E.thenX (E.blkH (E.blkN (E.thenN (WC.region ?_))))))
              refine W.any (.add rfl rfl (by omega)) rfl rfl rfl ?_
              refine W.any (.move rfl) rfl rfl rfl ?_
              refine W.nil ?_
              refine E.again (k2 + 1, true) (.cons rfl (.cons rfl (.cons rfl (.cons rfl (.cons rfl (.cons rfl (.cons rfl (.cons rfl (.cons rfl (.cons rfl (.nil _))))))))))) ?_ ?_
              ·exact ⟨by omega, fun i hi => (Nat.lt_succ_iff_lt_or_eq.1 hi).elim (hth i) (fun hh => by subst hh; exact ⟨_, hk21_5⟩), held_keep hhd q24_1, Ll3, by have := zl2; have := zl0; have := zl1; have := zl3; have := sc2; have := h1_0.size; have := h1_1.size; have := h14_3.size; have := h16_2.size; have := h21_9_1.size; have := h21_10_1.size; omega, f3_0, f3_1, f3_2, f3_3, f3_4, (f3_5.cast rfl (by have e3 : k3 = 2 := (by omega); rw [e3, goneO_next (by omega)]; unfold seatAt'; rw [hk21_5]; rfl))⟩
              ·first | omega | (simp only []; omega)
           ·refine W.any (.dec (.move rfl) ((Bool.eq_false_iff.2 q24_1))) rfl rfl rfl ?_
            refine W.rdg (Any.rd (.move rfl) _) rfl rfl rfl (rfl) rfl rfl ?_
            refine W.rdg (Any.rd (.move rfl) _) rfl rfl rfl (rfl) rfl rfl ?_
            have f92 := ((f2_0.le h21_9_1).ch h21_10_1 (fun h => (show g21_9_1 ≠ gp from by have := f2_0.lt; omega) (Option.some.inj h)))
            have f93 := ((f2_1.le h21_9_1).ch h21_10_1 (fun q hq => by cases hq; exact (fun he => by have := (f2_1.row he).2; omega)))
            have f94 := ((f2_2.le h21_9_1).ch h21_10_1 (fun h => (show g21_9_1 ≠ gs from by have := f2_2.lt; omega) (Option.some.inj h)))
            have f95 := ((f2_3.le h21_9_1).ch h21_10_1 (fun h => (show g21_9_1 ≠ gh from by have := f2_3.lt; omega) (Option.some.inj h)))
            refine W.efg rfl rfl rfl (rfl) rfl rfl ?_
            refine Ef.call go48 rfl rfl (lfree_ok (old.getD k2 0) w21_10_1 (LedL.mk f92 f93 f94 f95 n1 n2 n3 n4 n5 n6) hb (hq _ 0) (hq _ 1)) ?_
            rintro _ w24_4 ⟨rfl, h24_4⟩
            refine ⟨_, rfl, ?_⟩
            have L96 := L75.le h24_4
            refine W.rdg (Any.rd (.not rfl) _) rfl rfl rfl (rfl) rfl rfl ?_
            refine W.any (.pickF rfl rfl rfl) rfl rfl rfl ?_
            refine W.any (.assign rfl) rfl rfl rfl ?_
            refine W.nil (E.thenN (WC.seq (WC.region ?_)))
            refine W.any (.field0 fa44_1 rfl) rfl rfl rfl ?_
            have f97 := (b21_10_1.le h24_4)
            refine W.rd (.bpart [.int .i64 (vhk21_5.p0), .int .i64 (vhk21_5.p1)] ag35 rfl (by decide) rfl f97 rfl) rfl rfl rfl ?_
            refine W.any (.move rfl) rfl rfl rfl ?_
            refine W.nil (E.thenN (WC.block ?_))
            have f98 := (((f2_5.le h21_9_1).ch h21_10_1 (fun q hq => by cases hq; exact (fun he => by have := (f2_5.row he).2; omega))).le h24_4)
            have f99 := (f92.le h24_4)
            have f100 := (f93.le h24_4)
            have f101 := (f94.le h24_4)
            have f102 := (f95.le h24_4)
            have f103 := (((f2_4.le h21_9_1).ch h21_10_1 (fun h => (show g21_9_1 ≠ g1_0 from by have := f2_4.lt; omega) (Option.some.inj h))).le h24_4)
            refine WC.loop (ι := Nat) (fun k3 => [(0, .pointer (some ⟨gp, 0, none⟩)), (1, .slice Ao no co), (2, .slice As ns cS), (3, .slice Af nf cf), (9, .map (some g1_0)), (16, .slice (some ⟨g16_2, 0, none⟩) nf nf), (17, .bool (!(decide (heldL lh (old.getD k2 0) 0 + heldL lh (old.getD k2 0) 1 = 0)))), (20, .pointer (some ⟨g21_9_1, 0, none⟩)), (98, .slice Ao no co), (99, .int .i64 (((no : Nat) : Int))), (100, .int .i64 (((k2 : Nat) : Int))), (123, .agg #[.int .i64 (vhk21_5.p0), .int .i64 (vhk21_5.p1)]), (124, .int .i64 (((k3 : Nat) : Int)))]) (fun k3 wl3 => (k3 ≤ 2) ∧ ChP w wl3 (LF gp gs gh A c) ∧ w24_4.heap.size ≤ wl3.heap.size ∧ Blk wl3 gp 66 #[.slice A own.length c, .map (some gs), .map (some gh), .int .i64 (lost)] ∧ OVec wl3 0 3 iv 1 A own.length c own ∧ MapG wl3 ikf seatf gs ls cs ∧ MapG wl3 plf holdf gh lh ck ∧ MapG wl3 ikf Value.bool g1_0 lg cg ∧ OVec wl3 w14_3.heap.size 3 iv 1 (some ⟨g16_2, 0, none⟩) nf nf (addS (goneO own.length ls (old.take k2)) vhk21_5 k3) ∧ Blk wl3 g21_9_1 44 (seatV vhk21_5).toArray) (fun k3 => 2 - k3) 0 ?_ ?_ ?_
            ·exact .cons rfl (.cons rfl (.cons rfl (.cons rfl (.cons rfl (.cons rfl (.cons rfl (.cons rfl (.cons rfl (.cons rfl (.cons rfl (.cons rfl (.cons rfl (.nil _)))))))))))))
            ·exact ⟨Nat.zero_le _, L96, Nat.le_refl _, f99, f100, f101, f102, f103, f98, f97⟩
            ·rintro k3 wl3 ⟨hk3, Ll3, zl3, f3_0, f3_1, f3_2, f3_3, f3_4, f3_5, f3_6⟩
             have lb3_11 : w14_3.heap.size ≤ wl3.heap.size := Nat.le_trans lb2_11 (by have := h21_9_1.size; have := h21_10_1.size; have := h24_4.size; omega)
             have hpz := hso.1
             have hab := addS_at hso.2.2.2.1 hso.2.2.2.2 hgb k3 hk3
             refine WC.seq (WC.region ?_)
             refine W.any (.lss rfl rfl) rfl rfl rfl ?_
             refine W.nil (E.thenN (WC.seq ?_))
             by_cases c5 : ((k3 : Nat) : Int) < 2
             ·refine WC.condY rfl (decide_eq_true c5) ?_
              refine WC.skip (E.thenN (WC.seq (WC.block (WC.seq (WC.region ?_)))))
              refine W.any (.move rfl) rfl rfl rfl ?_
              refine W.any (.index1 (v := .int .i64 ((vhk21_5.p k3))) (k3) Tryz.underlying35 sz3 na3 rfl rfl (rfl) (by omega) (seatP_ix vhk21_5 (by omega))) rfl rfl rfl ?_
              refine W.any (.assign rfl) rfl rfl rfl ?_
              refine W.any (.assign rfl) rfl rfl rfl ?_
              refine W.nil (E.thenN ?_)
              refine WC.draw [0, 1, 2, 3, 4, 5, 6, 7, 8, 9, 10] mixed (by kernel_rfl) ?_
              intro w28 d28
              have L104 := Ll3.le d28
              refine G.any rfl rfl (.move rfl) rfl rfl rfl ?_
              refine G.any rfl rfl (.move rfl) rfl rfl rfl ?_
              refine G.any rfl rfl (.idxS ((vhk21_5.p k3).toNat) Tryz.underlying22 sz3 rfl rfl (o16_2.vec.isSome iv_row (by omega)) (by have := (seatOk_at hso (k := k3) (by omega)).1; omega) (by have := (seatOk_at hso (k := k3) (by omega)).1; omega)) rfl rfl rfl ?_
              have f105 := (f3_5.le d28)
              refine G.rd rfl rfl (.vone (v := .int .i64 (((addS (goneO own.length ls (old.take k2)) vhk21_5 k3).getD ((vhk21_5.p k3).toNat) 0))) na3 rfl f105.vec iv_row (getS (addS (goneO own.length ls (old.take k2)) vhk21_5 k3) 0 (by rw [addS_len, goneO_len]; have := (seatOk_at hso (k := k3) (by omega)).1; omega)) rfl) rfl rfl rfl ?_
              refine G.any rfl rfl (.move rfl) rfl rfl rfl ?_
              refine G.any rfl rfl (.field0 fa44_2 rfl) rfl rfl rfl ?_
              refine G.any rfl rfl (.idxAo (k3) Tryz.underlying35 sz3 rfl rfl (rfl) (by omega)) rfl rfl rfl ?_
              have f106 := (f3_6.le d28)
              refine G.rd rfl rfl (.loadB (v := .int .i64 ((vhk21_5.h k3))) na3 rfl f106 (seatH_at vhk21_5 (by omega))) rfl rfl rfl ?_
              refine G.any rfl rfl (.add rfl rfl (by have := hab (vhk21_5.p k3).toNat; have := (seatOk_at hso (k := k3) (by omega)).2; omega)) rfl rfl rfl ?_
              refine G.any rfl rfl (.idxS ((vhk21_5.p k3).toNat) Tryz.underlying22 sz3 rfl rfl (o16_2.vec.isSome iv_row (by omega)) (by have := (seatOk_at hso (k := k3) (by omega)).1; omega) (by have := (seatOk_at hso (k := k3) (by omega)).1; omega)) rfl rfl rfl ?_
              refine G.ef0 rfl rfl rfl rfl ?_
              refine Ef.vset (j := (vhk21_5.p k3).toNat) (o := 0) (((addS (goneO own.length ls (old.take k2)) vhk21_5 k3).getD ((vhk21_5.p k3).toNat) 0) + (vhk21_5.h k3)) sz3 rfl (by omega) rfl f105 iv_row (getS (addS (goneO own.length ls (old.take k2)) vhk21_5 k3) 0 (by rw [addS_len, goneO_len]; have := (seatOk_at hso (k := k3) (by omega)).1; omega)) (by decide) rfl rfl ?_
              intro w28_10_1 o28_10_1 h28_10_1
              refine ⟨fun h => absurd h (ne_true_of_eq_false (by kernel_rfl)), ?_⟩
              have L107 : ChP w w28_10_1 (LF gp gs gh A c) := L104.ch h28_10_1 (fun i hi hlt => absurd hlt (by have := (f105.row hi).1; have := L57.size; omega))
              refine G.nil (E.blkN (E.thenN (WC.region ?_)))
              refine W.any (.add rfl rfl (by omega)) rfl rfl rfl ?_
              refine W.any (.move rfl) rfl rfl rfl ?_
              refine W.nil ?_
              have f108 := ((f3_0.le d28).ch h28_10_1 (fun he => by have := (f105.row he).1; have := f1_0.lt; have := h14_3.size; omega))
              have f109 := ((f3_1.le d28).ch h28_10_1 ((Apart.symm (fun q h1 h2 => by have := (f1_1.row h1).2; have := (f105.row h2).1; have := h14_3.size; omega))))
              have f110 := ((f3_2.le d28).ch h28_10_1 (fun he => by have := (f105.row he).1; have := f1_2.lt; have := h14_3.size; omega))
              have f111 := ((f3_3.le d28).ch h28_10_1 (fun he => by have := (f105.row he).1; have := f1_3.lt; have := h14_3.size; omega))
              have f112 := ((f3_4.le d28).ch h28_10_1 (fun he => by have := (f105.row he).1; have := f1_4.lt; have := h14_3.size; omega))
              have f113 := (f106.ch h28_10_1 (fun he => by have := (f2_5.row he).2; omega))
              refine E.again (k3 + 1) (.cons rfl (.cons rfl (.cons rfl (.cons rfl (.cons rfl (.cons rfl (.cons rfl (.cons rfl (.cons rfl (.cons rfl (.cons rfl (.cons rfl (.cons rfl (.nil _)))))))))))))) ?_ ?_
              ·exact ⟨by omega, L107, by have := zl3; have := d28.size; have := h28_10_1.size; omega, f108, f109, f110, f111, f112, o28_10_1, f113⟩
              ·first | omega | (simp only []; omega)
             ·refine WC.condN rfl (decide_eq_false c5) ?_
              refine WC.exit (E.thenX (E.thenX (E.blkH (E.blkN (E.thenN (WC.region ?_))))))
              refine W.any (.add rfl rfl (by omega)) rfl rfl rfl ?_
              refine W.any (.move rfl) rfl rfl rfl ?_
              refine W.nil ?_
              refine E.again (k2 + 1, (!(decide (heldL lh (old.getD k2 0) 0 + heldL lh (old.getD k2 0) 1 = 0)))) (.cons rfl (.cons rfl (.cons rfl (.cons rfl (.cons rfl (.cons rfl (.cons rfl (.cons rfl (.cons rfl (.cons rfl (.nil _))))))))))) ?_ ?_
              ·exact ⟨by omega, fun i hi => (Nat.lt_succ_iff_lt_or_eq.1 hi).elim (hth i) (fun hh => by subst hh; exact ⟨_, hk21_5⟩), held_next hhd q24_1, Ll3, by have := zl2; have := zl0; have := zl1; have := zl3; have := sc2; have := h1_0.size; have := h1_1.size; have := h14_3.size; have := h16_2.size; have := h21_9_1.size; have := h21_10_1.size; have := h24_4.size; omega, f3_0, f3_1, f3_2, f3_3, f3_4, (f3_5.cast rfl (by have e3 : k3 = 2 := (by omega); rw [e3, goneO_next (by omega)]; unfold seatAt'; rw [hk21_5]; rfl))⟩
              ·first | omega | (simp only []; omega)
         ·refine WC.condN rfl (decide_eq_false c3) ?_
          have ht5 := all_there hth (by omega)
          have hg2 := hgb
          rw [List.take_of_length_le (by omega)] at hg2
          refine WC.exit (E.thenX (E.thenX (E.blkH (E.thenN (WC.seq (WC.seq (WC.region ?_)))))))
          refine W.any (.move rfl) rfl rfl rfl ?_
          refine W.nil (E.thenN ?_)
          by_cases c6 : held = true
          ·refine WC.condY rfl (c6) ?_
           refine WC.seq (WC.region ?_)
           refine W.any (.assign rfl) rfl rfl rfl ?_
           refine W.nil (E.thenN (WC.ret (E.thenR ?_)))
           refine E.retG1 rfl rfl ?_
           have e9 : cutC own.length ls lh old seats fee = 14 := cutC_14 hok ht5 (by omega) hhd c6; exact ⟨Ll2, by rw [e9], .inl ⟨by rw [e9]; decide, ⟨f2_0, f2_1, f2_2, f2_3, n1, n2, n3, n4, n5, n6⟩⟩⟩
          ·refine WC.condN rfl ((Bool.eq_false_iff.2 c6)) ?_
           have ht14 := not_busy (by omega) hhd c6
           refine WC.skip (E.thenN (WC.seq (WC.seq (WC.region ?_))))
           refine W.any (.move rfl) rfl rfl rfl ?_
           refine W.rd (.len Tryz.underlying37 rfl) rfl rfl rfl ?_
           refine W.any (.move rfl) rfl rfl rfl ?_
           refine W.nil (E.thenN (WC.block ?_))
           refine WC.loop (ι := Nat) (fun k4 => [(0, .pointer (some ⟨gp, 0, none⟩)), (1, .slice Ao no co), (2, .slice As ns cS), (3, .slice Af nf cf), (9, .map (some g1_0)), (16, .slice (some ⟨g16_2, 0, none⟩) nf nf), (141, .slice As ns cS), (142, .int .i64 (((ns : Nat) : Int))), (143, .int .i64 (((k4 : Nat) : Int)))]) (fun k4 wl4 => (k4 ≤ ns) ∧ (∀ i, i < k4 → ¬ There ls old (seats.getD i noSeat)) ∧ ChP w wl4 (LF gp gs gh A c) ∧ wl2.heap.size ≤ wl4.heap.size ∧ Blk wl4 gp 66 #[.slice A own.length c, .map (some gs), .map (some gh), .int .i64 (lost)] ∧ OVec wl4 0 3 iv 1 A own.length c own ∧ MapG wl4 ikf seatf gs ls cs ∧ MapG wl4 plf holdf gh lh ck ∧ MapG wl4 ikf Value.bool g1_0 lg cg ∧ OVec wl4 w14_3.heap.size 3 iv 1 (some ⟨g16_2, 0, none⟩) nf nf (comeO (goneO own.length ls old) (seats.take k4))) (fun k4 => ns - k4) 0 ?_ ?_ ?_
           ·exact .cons rfl (.cons rfl (.cons rfl (.cons rfl (.cons rfl (.cons rfl (.cons rfl (.cons rfl (.cons rfl (.nil _)))))))))
           ·exact ⟨Nat.zero_le _, fun i hi => by omega, Ll2, Nat.le_refl _, f2_0, f2_1, f2_2, f2_3, f2_4, (f2_5.cast rfl (by rw [List.take_of_length_le (by omega)]; rfl))⟩
           ·rintro k4 wl4 ⟨hk4, hnt, Ll4, zl4, f4_0, f4_1, f4_2, f4_3, f4_4, f4_5⟩
            have lb4_11 : w14_3.heap.size ≤ wl4.heap.size := Nat.le_trans lb2_11 (by omega)
            have hcb := come_at hok.2.1.2 hg2 k4 (by omega)
            refine WC.seq (WC.region ?_)
            refine W.any (.lss rfl rfl) rfl rfl rfl ?_
            refine W.nil (E.thenN (WC.seq ?_))
            by_cases c7 : ((k4 : Nat) : Int) < ((ns : Nat) : Int)
            ·refine WC.condY rfl (decide_eq_true c7) ?_
             refine WC.skip (E.thenN (WC.seq (WC.block (WC.seq (WC.region ?_)))))
             refine W.any (.idxS (k4) Tryz.underlying37 sz44 rfl rfl (hs.isSome seatV_row (by omega)) (rfl) (by omega)) rfl rfl rfl ?_
             refine W.rd (.vload ag44 rfl (hs.chP Ll4 hsa) seatV_row (getS seats noSeat (by first | omega | (simp only [List.length_cons, List.length_nil]; omega)))) rfl rfl rfl ?_
             refine W.ef rfl rfl rfl ?_
             refine Ef.allocA z44 ?_
             intro g35_2 w35_2 hg35_2 b35_2 h35_2
             have L114 := Ll4.le h35_2
             have b35_2 : Blk w35_2 g35_2 44 (seatV noSeat).toArray := b35_2
             refine W.ef0 rfl rfl ?_
             refine Ef.storeAll sz44 (by rfl) rfl rfl b35_2 (by simp only [List.size_toArray, seatV_row.len]) (seatV_row.one (seats.getD k4 noSeat)) ?_
             intro w35_3 b35_3 h35_3
             have b35_3 : Blk w35_3 g35_2 44 (seatV (seats.getD k4 noSeat)).toArray := b35_3
             have L115 : ChP w w35_3 (LF gp gs gh A c) := L114.ch h35_3 (fun i hi hlt => by cases hi; exact absurd hlt (by have := Ll4.size; have := hg35_2; omega))
             refine W.nil (E.thenN (WC.seq (WC.seq ?_)))
             refine WC.draw [0, 1, 2, 3, 4, 5, 6, 7, 8, 9, 10, 11, 12] mixed (by kernel_rfl) ?_
             intro w36 d36
             have L116 := L115.le d36
             refine G.any rfl rfl (.move rfl) rfl rfl rfl ?_
             refine G.any rfl rfl (.nilCheck rfl) rfl rfl rfl ?_
             refine G.any rfl rfl (.field0 fa66_1 rfl) rfl rfl rfl ?_
             have f117 := (((f4_0.le h35_2).ch h35_3 (fun h => (show g35_2 ≠ gp from by have := f4_0.lt; omega) (Option.some.inj h))).le d36)
             refine G.rd rfl rfl (.loadB (v := .map (some gs)) na63 rfl f117 rfl) rfl rfl rfl ?_
             refine G.any rfl rfl (.field0 fa44_0 rfl) rfl rfl rfl ?_
             have f118 := (b35_3.le d36)
             refine G.rd rfl rfl (.loadB (v := .int .i64 ((seats.getD k4 noSeat).ch)) na3 rfl f118 rfl) rfl rfl rfl ?_
             rcases optG (getG ((seats.getD k4 noSeat).ch) ls) with hk36_6 | ⟨vhk36_6, hk36_6⟩
             ·have f119 := (((f4_2.le h35_2).ch h35_3 (fun h => (show g35_2 ≠ gs from by have := f4_2.lt; omega) (Option.some.inj h))).le d36)
              refine G.rd rfl rfl (.as (.lookup2 (key := ((seats.getD k4 noSeat).ch)) Tryz.underlying63 kint z44 rfl rfl f119) (by rw [hk36_6] <;> rfl)) rfl rfl rfl ?_
              refine G.any rfl rfl (.move rfl) rfl rfl rfl ?_
              refine G.any rfl rfl (.extract (v := .agg (seatV noSeat).toArray) rfl rfl) rfl rfl rfl ?_
              refine G.any rfl rfl (.extract (v := .bool false) rfl rfl) rfl rfl rfl ?_
              refine G.ef rfl rfl rfl rfl rfl ?_
              refine Ef.allocA z44 ?_
              intro g36_10 w36_10 hg36_10 b36_10 h36_10
              refine ⟨fun _ => h36_10, ?_⟩
              have L120 := L116.le h36_10
              have b36_10 : Blk w36_10 g36_10 44 (seatV noSeat).toArray := b36_10
              refine G.ef0 rfl rfl rfl rfl ?_
              refine Ef.storeAll sz44 (by rfl) rfl rfl b36_10 (by simp only [List.size_toArray, seatV_row.len]) (seatV_row.one noSeat) ?_
              intro w36_11 b36_11 h36_11
              refine ⟨fun h => absurd h (ne_true_of_eq_false (by kernel_rfl)), ?_⟩
              have b36_11 : Blk w36_11 g36_10 44 (seatV noSeat).toArray := b36_11
              have L121 : ChP w w36_11 (LF gp gs gh A c) := L120.ch h36_11 (fun i hi hlt => by cases hi; exact absurd hlt (by have := L116.size; have := hg36_10; omega))
              refine G.any rfl rfl (.assign rfl) rfl rfl rfl ?_
              refine G.nil (E.thenN (WC.seq (WC.region ?_)))
              refine W.any (.move rfl) rfl rfl rfl ?_
              refine W.any (.move rfl) rfl rfl rfl ?_
              refine W.skip rfl rfl rfl (rfl) rfl rfl ?_
              refine W.skip rfl rfl rfl (rfl) rfl rfl ?_
              refine W.skip rfl rfl rfl (rfl) rfl rfl ?_
              refine W.skip rfl rfl rfl (rfl) rfl rfl ?_
              refine W.skip rfl rfl rfl (rfl) rfl rfl ?_
              refine W.any (.pickF rfl rfl rfl) rfl rfl rfl ?_
              refine W.nil (E.thenN ?_)
              refine WC.condF rfl ?_
              refine WC.skip (E.thenN (WC.seq (WC.region ?_)))
              refine W.any (.field0 fa44_1 rfl) rfl rfl rfl ?_
              have f122 := ((f118.le h36_10).ch h36_11 (fun h => (show g36_10 ≠ g35_2 from by have := f118.lt; omega) (Option.some.inj h)))
              refine W.rd (.bpart [.int .i64 ((seats.getD k4 noSeat).p0), .int .i64 ((seats.getD k4 noSeat).p1)] ag35 rfl (by decide) rfl f122 rfl) rfl rfl rfl ?_
              refine W.any (.move rfl) rfl rfl rfl ?_
              refine W.nil (E.thenN (WC.block ?_))
              have f123 := ((((f4_5.le h35_2).ch h35_3 (fun q hq => by cases hq; exact (fun he => by have := (f4_5.row he).2; omega))).le (d36.trans h36_10)).ch h36_11 (fun q hq => by cases hq; exact (fun he => by have := (f4_5.row he).2; have := h35_2.size; have := h35_3.size; have := d36.size; omega)))
              have f124 := ((f117.le h36_10).ch h36_11 (fun h => (show g36_10 ≠ gp from by have := f117.lt; omega) (Option.some.inj h)))
              have f125 := ((((f4_1.le h35_2).ch h35_3 (fun q hq => by cases hq; exact (fun he => by have := (f4_1.row he).2; omega))).le (d36.trans h36_10)).ch h36_11 (fun q hq => by cases hq; exact (fun he => by have := (f4_1.row he).2; have := h35_2.size; have := h35_3.size; have := d36.size; omega)))
              have f126 := ((f119.le h36_10).ch h36_11 (fun h => (show g36_10 ≠ gs from by have := f119.lt; omega) (Option.some.inj h)))
              have f127 := ((((f4_3.le h35_2).ch h35_3 (fun h => (show g35_2 ≠ gh from by have := f4_3.lt; omega) (Option.some.inj h))).le (d36.trans h36_10)).ch h36_11 (fun h => (show g36_10 ≠ gh from by have := f4_3.lt; have := h35_2.size; have := h35_3.size; have := d36.size; omega) (Option.some.inj h)))
              have f128 := ((((f4_4.le h35_2).ch h35_3 (fun h => (show g35_2 ≠ g1_0 from by have := f4_4.lt; omega) (Option.some.inj h))).le (d36.trans h36_10)).ch h36_11 (fun h => (show g36_10 ≠ g1_0 from by have := f4_4.lt; have := h35_2.size; have := h35_3.size; have := d36.size; omega) (Option.some.inj h)))
              refine WC.loop (ι := Nat) (fun k5 => [(0, .pointer (some ⟨gp, 0, none⟩)), (1, .slice Ao no co), (2, .slice As ns cS), (3, .slice Af nf cf), (9, .map (some g1_0)), (16, .slice (some ⟨g16_2, 0, none⟩) nf nf), (25, .pointer (some ⟨g35_2, 0, none⟩)), (141, .slice As ns cS), (142, .int .i64 (((ns : Nat) : Int))), (143, .int .i64 (((k4 : Nat) : Int))), (166, .agg #[.int .i64 ((seats.getD k4 noSeat).p0), .int .i64 ((seats.getD k4 noSeat).p1)]), (167, .int .i64 (((k5 : Nat) : Int)))]) (fun k5 wl5 => (k5 ≤ 2) ∧ ChP w wl5 (LF gp gs gh A c) ∧ w36_11.heap.size ≤ wl5.heap.size ∧ Blk wl5 gp 66 #[.slice A own.length c, .map (some gs), .map (some gh), .int .i64 (lost)] ∧ OVec wl5 0 3 iv 1 A own.length c own ∧ MapG wl5 ikf seatf gs ls cs ∧ MapG wl5 plf holdf gh lh ck ∧ MapG wl5 ikf Value.bool g1_0 lg cg ∧ OVec wl5 w14_3.heap.size 3 iv 1 (some ⟨g16_2, 0, none⟩) nf nf (subS (comeO (goneO own.length ls old) (seats.take k4)) (seats.getD k4 noSeat) k5) ∧ Blk wl5 g35_2 44 (seatV (seats.getD k4 noSeat)).toArray) (fun k5 => 2 - k5) 0 ?_ ?_ ?_
              ·exact .cons rfl (.cons rfl (.cons rfl (.cons rfl (.cons rfl (.cons rfl (.cons rfl (.cons rfl (.cons rfl (.cons rfl (.cons rfl (.cons rfl (.nil _))))))))))))
              ·exact ⟨Nat.zero_le _, L121, Nat.le_refl _, f124, f125, f126, f127, f128, f123, f122⟩
              ·rintro k5 wl5 ⟨hk5, Ll5, zl5, f5_0, f5_1, f5_2, f5_3, f5_4, f5_5, f5_6⟩
               have lb5_11 : w14_3.heap.size ≤ wl5.heap.size := Nat.le_trans lb4_11 (by have := h35_2.size; have := h35_3.size; have := d36.size; have := h36_10.size; have := h36_11.size; omega)
               have hm4 := may_ok (hok.2.1.2 _ (getD_mem (z := noSeat) (show k4 < seats.length by omega)))
               have hpz := hm4.1
               have hab := subS_at hm4.2.2.2.1 hm4.2.2.2.2 hcb k5 hk5
               refine WC.seq (WC.region ?_)
               refine W.any (.lss rfl rfl) rfl rfl rfl ?_
               refine W.nil (E.thenN (WC.seq ?_))
               by_cases c9 : ((k5 : Nat) : Int) < 2
               ·refine WC.condY rfl (decide_eq_true c9) ?_
                refine WC.skip (E.thenN (WC.seq (WC.block (WC.seq (WC.region ?_)))))
                refine W.any (.move rfl) rfl rfl rfl ?_
                refine W.any (.index1 (v := .int .i64 (((seats.getD k4 noSeat).p k5))) (k5) Tryz.underlying35 sz3 na3 rfl rfl (rfl) (by omega) (seatP_ix (seats.getD k4 noSeat) (by omega))) rfl rfl rfl ?_
                refine W.any (.assign rfl) rfl rfl rfl ?_
                refine W.any (.assign rfl) rfl rfl rfl ?_
                refine W.nil (E.thenN ?_)
                refine WC.draw [0, 1, 2, 3, 4, 5, 6, 7, 8, 9, 10] mixed (by kernel_rfl) ?_
                intro w42 d42
                have L129 := Ll5.le d42
                refine G.any rfl rfl (.move rfl) rfl rfl rfl ?_
                refine G.any rfl rfl (.move rfl) rfl rfl rfl ?_
                refine G.any rfl rfl (.idxS (((seats.getD k4 noSeat).p k5).toNat) Tryz.underlying22 sz3 rfl rfl (o16_2.vec.isSome iv_row (by omega)) (by have := (seatOk_at hm4 (k := k5) (by omega)).1; omega) (by have := (seatOk_at hm4 (k := k5) (by omega)).1; omega)) rfl rfl rfl ?_
                have f130 := (f5_5.le d42)
                refine G.rd rfl rfl (.vone (v := .int .i64 (((subS (comeO (goneO own.length ls old) (seats.take k4)) (seats.getD k4 noSeat) k5).getD (((seats.getD k4 noSeat).p k5).toNat) 0))) na3 rfl f130.vec iv_row (getS (subS (comeO (goneO own.length ls old) (seats.take k4)) (seats.getD k4 noSeat) k5) 0 (by rw [subS_len, comeO_len, goneO_len]; have := (seatOk_at hm4 (k := k5) (by omega)).1; omega)) rfl) rfl rfl rfl ?_
                refine G.any rfl rfl (.move rfl) rfl rfl rfl ?_
                refine G.any rfl rfl (.field0 fa44_2 rfl) rfl rfl rfl ?_
                refine G.any rfl rfl (.idxAo (k5) Tryz.underlying35 sz3 rfl rfl (rfl) (by omega)) rfl rfl rfl ?_
                have f131 := (f5_6.le d42)
                refine G.rd rfl rfl (.loadB (v := .int .i64 (((seats.getD k4 noSeat).h k5))) na3 rfl f131 (seatH_at (seats.getD k4 noSeat) (by omega))) rfl rfl rfl ?_
                refine G.any rfl rfl (.sub rfl rfl (by have := hab ((seats.getD k4 noSeat).p k5).toNat; have := (seatOk_at hm4 (k := k5) (by omega)).2; omega)) rfl rfl rfl ?_
                refine G.any rfl rfl (.idxS (((seats.getD k4 noSeat).p k5).toNat) Tryz.underlying22 sz3 rfl rfl (o16_2.vec.isSome iv_row (by omega)) (by have := (seatOk_at hm4 (k := k5) (by omega)).1; omega) (by have := (seatOk_at hm4 (k := k5) (by omega)).1; omega)) rfl rfl rfl ?_
                refine G.ef0 rfl rfl rfl rfl ?_
                refine Ef.vset (j := ((seats.getD k4 noSeat).p k5).toNat) (o := 0) (((subS (comeO (goneO own.length ls old) (seats.take k4)) (seats.getD k4 noSeat) k5).getD (((seats.getD k4 noSeat).p k5).toNat) 0) - ((seats.getD k4 noSeat).h k5)) sz3 rfl (by omega) rfl f130 iv_row (getS (subS (comeO (goneO own.length ls old) (seats.take k4)) (seats.getD k4 noSeat) k5) 0 (by rw [subS_len, comeO_len, goneO_len]; have := (seatOk_at hm4 (k := k5) (by omega)).1; omega)) (by decide) rfl rfl ?_
                intro w42_10 o42_10 h42_10
                refine ⟨fun h => absurd h (ne_true_of_eq_false (by kernel_rfl)), ?_⟩
                have L132 : ChP w w42_10 (LF gp gs gh A c) := L129.ch h42_10 (fun i hi hlt => absurd hlt (by have := (f130.row hi).1; have := L57.size; omega))
                refine G.nil (E.blkN (E.thenN (WC.region ?_)))
                refine W.any (.add rfl rfl (by omega)) rfl rfl rfl ?_
                refine W.any (.move rfl) rfl rfl rfl ?_
                refine W.nil ?_
                have f133 := ((f5_0.le d42).ch h42_10 (fun he => by have := (f130.row he).1; have := f1_0.lt; have := h14_3.size; omega))
                have f134 := ((f5_1.le d42).ch h42_10 ((Apart.symm (fun q h1 h2 => by have := (f1_1.row h1).2; have := (f130.row h2).1; have := h14_3.size; omega))))
                have f135 := ((f5_2.le d42).ch h42_10 (fun he => by have := (f130.row he).1; have := f1_2.lt; have := h14_3.size; omega))
                have f136 := ((f5_3.le d42).ch h42_10 (fun he => by have := (f130.row he).1; have := f1_3.lt; have := h14_3.size; omega))
                have f137 := ((f5_4.le d42).ch h42_10 (fun he => by have := (f130.row he).1; have := f1_4.lt; have := h14_3.size; omega))
                have f138 := (f131.ch h42_10 (fun he => by have := (f4_5.row he).2; omega))
                refine E.again (k5 + 1) (.cons rfl (.cons rfl (.cons rfl (.cons rfl (.cons rfl (.cons rfl (.cons rfl (.cons rfl (.cons rfl (.cons rfl (.cons rfl (.cons rfl (.nil _))))))))))))) ?_ ?_
                ·exact ⟨by omega, L132, by have := zl5; have := d42.size; have := h42_10.size; omega, f133, f134, f135, f136, f137, o42_10, f138⟩
                ·first | omega | (simp only []; omega)
               ·refine WC.condN rfl (decide_eq_false c9) ?_
                refine WC.exit (E.thenX (E.thenX (E.blkH (E.blkN (E.thenN (WC.region ?_))))))
                refine W.any (.add rfl rfl (by omega)) rfl rfl rfl ?_
                refine W.any (.move rfl) rfl rfl rfl ?_
                refine W.nil ?_
                refine E.again (k4 + 1) (.cons rfl (.cons rfl (.cons rfl (.cons rfl (.cons rfl (.cons rfl (.cons rfl (.cons rfl (.cons rfl (.nil _)))))))))) ?_ ?_
                ·exact ⟨by omega, fun i hi => (Nat.lt_succ_iff_lt_or_eq.1 hi).elim (hnt i) (fun hh => by subst hh; exact fun h => h.1 hk36_6), Ll5, by have := zl4; have := zl0; have := zl1; have := zl2; have := zl5; have := sc2; have := h1_0.size; have := h1_1.size; have := h14_3.size; have := h16_2.size; have := h35_2.size; have := h35_3.size; have := d36.size; have := h36_10.size; have := h36_11.size; omega, f5_0, f5_1, f5_2, f5_3, f5_4, (f5_5.cast rfl (by have e5 : k5 = 2 := (by omega); rw [e5, comeO_next (by omega)]))⟩
                ·first | omega | (simp only []; omega)
             ·have f139 := (((f4_2.le h35_2).ch h35_3 (fun h => (show g35_2 ≠ gs from by have := f4_2.lt; omega) (Option.some.inj h))).le d36)
              refine G.rd rfl rfl (.as (.lookup2 (key := ((seats.getD k4 noSeat).ch)) Tryz.underlying63 kint z44 rfl rfl f139) (by rw [hk36_6] <;> rfl)) rfl rfl rfl ?_
              refine G.any rfl rfl (.move rfl) rfl rfl rfl ?_
              refine G.any rfl rfl (.extract (v := .agg (seatV vhk36_6).toArray) rfl rfl) rfl rfl rfl ?_
              refine G.any rfl rfl (.extract (v := .bool true) rfl rfl) rfl rfl rfl ?_
              refine G.ef rfl rfl rfl rfl rfl ?_
              refine Ef.allocA z44 ?_
              intro g36_10_1 w36_10_1 hg36_10_1 b36_10_1 h36_10_1
              refine ⟨fun _ => h36_10_1, ?_⟩
              have L140 := L116.le h36_10_1
              have b36_10_1 : Blk w36_10_1 g36_10_1 44 (seatV noSeat).toArray := b36_10_1
              refine G.ef0 rfl rfl rfl rfl ?_
              refine Ef.storeAll sz44 (by rfl) rfl rfl b36_10_1 (by simp only [List.size_toArray, seatV_row.len]) (seatV_row.one vhk36_6) ?_
              intro w36_11_1 b36_11_1 h36_11_1
              refine ⟨fun h => absurd h (ne_true_of_eq_false (by kernel_rfl)), ?_⟩
              have b36_11_1 : Blk w36_11_1 g36_10_1 44 (seatV vhk36_6).toArray := b36_11_1
              have L141 : ChP w w36_11_1 (LF gp gs gh A c) := L140.ch h36_11_1 (fun i hi hlt => by cases hi; exact absurd hlt (by have := L116.size; have := hg36_10_1; omega))
              refine G.any rfl rfl (.assign rfl) rfl rfl rfl ?_
              refine G.nil (E.thenN (WC.seq (WC.region ?_)))
              refine W.any (.move rfl) rfl rfl rfl ?_
              refine W.any (.move rfl) rfl rfl rfl ?_
              refine W.rdg (Any.rd (.move rfl) _) rfl rfl rfl (rfl) rfl rfl ?_
              refine W.rdg (Any.rd (.field0 fa44_0 rfl) _) rfl rfl rfl (rfl) rfl rfl ?_
              have f142 := ((f118.le h36_10_1).ch h36_11_1 (fun h => (show g36_10_1 ≠ g35_2 from by have := f118.lt; omega) (Option.some.inj h)))
              refine W.rdg (.loadB (v := .int .i64 ((seats.getD k4 noSeat).ch)) na3 rfl f142 rfl) rfl rfl rfl (rfl) rfl rfl ?_
              rcases optG (getG ((seats.getD k4 noSeat).ch) lg) with hk37_5 | ⟨vhk37_5, hk37_5⟩
              ·have f143 := ((((f4_4.le h35_2).ch h35_3 (fun h => (show g35_2 ≠ g1_0 from by have := f4_4.lt; omega) (Option.some.inj h))).le (d36.trans h36_10_1)).ch h36_11_1 (fun h => (show g36_10_1 ≠ g1_0 from by have := f4_4.lt; have := h35_2.size; have := h35_3.size; have := d36.size; omega) (Option.some.inj h)))
               refine W.rdg (.as (.lookup1 (key := ((seats.getD k4 noSeat).ch)) Tryz.underlying91 kint z4 rfl rfl f143) (by rw [hk37_5] <;> rfl)) rfl rfl rfl (rfl) rfl rfl ?_
               refine W.rdg (Any.rd (.not rfl) _) rfl rfl rfl (rfl) rfl rfl ?_
               refine W.any (.pickT rfl rfl rfl) rfl rfl rfl ?_
               refine W.nil (E.thenN ?_)
               refine WC.condT rfl ?_
               refine WC.seq (WC.region ?_)
               refine W.any (.assign rfl) rfl rfl rfl ?_
               refine W.nil (E.thenN (WC.ret (E.thenR (E.blkR (E.thenR (E.thenR (E.blkR (E.thenR ?_))))))))
               have f144 := ((f117.le h36_10_1).ch h36_11_1 (fun h => (show g36_10_1 ≠ gp from by have := f117.lt; omega) (Option.some.inj h)))
               have f145 := ((((f4_1.le h35_2).ch h35_3 (fun q hq => by cases hq; exact (fun he => by have := (f4_1.row he).2; omega))).le (d36.trans h36_10_1)).ch h36_11_1 (fun q hq => by cases hq; exact (fun he => by have := (f4_1.row he).2; have := h35_2.size; have := h35_3.size; have := d36.size; omega)))
               have f146 := ((f139.le h36_10_1).ch h36_11_1 (fun h => (show g36_10_1 ≠ gs from by have := f139.lt; omega) (Option.some.inj h)))
               have f147 := ((((f4_3.le h35_2).ch h35_3 (fun h => (show g35_2 ≠ gh from by have := f4_3.lt; omega) (Option.some.inj h))).le (d36.trans h36_10_1)).ch h36_11_1 (fun h => (show g36_10_1 ≠ gh from by have := f4_3.lt; have := h35_2.size; have := h35_3.size; have := d36.size; omega) (Option.some.inj h)))
               refine E.retG1 rfl rfl ?_
               have e9 : cutC own.length ls lh old seats fee = 4 := cutC_4 hok ht5 ht14 (by omega) ⟨by rw [hk36_6]; simp, hmo.not hk37_5⟩; exact ⟨L141, by rw [e9], .inl ⟨by rw [e9]; decide, ⟨f144, f145, f146, f147, n1, n2, n3, n4, n5, n6⟩⟩⟩
              ·have f148 := ((((f4_4.le h35_2).ch h35_3 (fun h => (show g35_2 ≠ g1_0 from by have := f4_4.lt; omega) (Option.some.inj h))).le (d36.trans h36_10_1)).ch h36_11_1 (fun h => (show g36_10_1 ≠ g1_0 from by have := f4_4.lt; have := h35_2.size; have := h35_3.size; have := d36.size; omega) (Option.some.inj h)))
               refine W.rdg (.as (.lookup1 (key := ((seats.getD k4 noSeat).ch)) Tryz.underlying91 kint z4 rfl rfl f148) (by rw [hk37_5] <;> rfl)) rfl rfl rfl (rfl) rfl rfl ?_
               refine W.rdg (Any.rd (.not rfl) _) rfl rfl rfl (rfl) rfl rfl ?_
               refine W.any (.pickT rfl rfl rfl) rfl rfl rfl ?_
               refine W.nil (E.thenN ?_)
               refine WC.condN rfl (congrArg not ((hmo.val hk37_5).1)) ?_
               refine WC.skip (E.thenN (WC.seq (WC.region ?_)))
               refine W.any (.field0 fa44_1 rfl) rfl rfl rfl ?_
               refine W.rd (.bpart [.int .i64 ((seats.getD k4 noSeat).p0), .int .i64 ((seats.getD k4 noSeat).p1)] ag35 rfl (by decide) rfl f142 rfl) rfl rfl rfl ?_
               refine W.any (.move rfl) rfl rfl rfl ?_
               refine W.nil (E.thenN (WC.block ?_))
               have f149 := ((((f4_5.le h35_2).ch h35_3 (fun q hq => by cases hq; exact (fun he => by have := (f4_5.row he).2; omega))).le (d36.trans h36_10_1)).ch h36_11_1 (fun q hq => by cases hq; exact (fun he => by have := (f4_5.row he).2; have := h35_2.size; have := h35_3.size; have := d36.size; omega)))
               have f150 := ((f117.le h36_10_1).ch h36_11_1 (fun h => (show g36_10_1 ≠ gp from by have := f117.lt; omega) (Option.some.inj h)))
               have f151 := ((((f4_1.le h35_2).ch h35_3 (fun q hq => by cases hq; exact (fun he => by have := (f4_1.row he).2; omega))).le (d36.trans h36_10_1)).ch h36_11_1 (fun q hq => by cases hq; exact (fun he => by have := (f4_1.row he).2; have := h35_2.size; have := h35_3.size; have := d36.size; omega)))
               have f152 := ((f139.le h36_10_1).ch h36_11_1 (fun h => (show g36_10_1 ≠ gs from by have := f139.lt; omega) (Option.some.inj h)))
               have f153 := ((((f4_3.le h35_2).ch h35_3 (fun h => (show g35_2 ≠ gh from by have := f4_3.lt; omega) (Option.some.inj h))).le (d36.trans h36_10_1)).ch h36_11_1 (fun h => (show g36_10_1 ≠ gh from by have := f4_3.lt; have := h35_2.size; have := h35_3.size; have := d36.size; omega) (Option.some.inj h)))
               refine WC.loop (ι := Nat) (fun k5 => [(0, .pointer (some ⟨gp, 0, none⟩)), (1, .slice Ao no co), (2, .slice As ns cS), (3, .slice Af nf cf), (9, .map (some g1_0)), (16, .slice (some ⟨g16_2, 0, none⟩) nf nf), (25, .pointer (some ⟨g35_2, 0, none⟩)), (141, .slice As ns cS), (142, .int .i64 (((ns : Nat) : Int))), (143, .int .i64 (((k4 : Nat) : Int))), (166, .agg #[.int .i64 ((seats.getD k4 noSeat).p0), .int .i64 ((seats.getD k4 noSeat).p1)]), (167, .int .i64 (((k5 : Nat) : Int)))]) (fun k5 wl5 => (k5 ≤ 2) ∧ ChP w wl5 (LF gp gs gh A c) ∧ w36_11_1.heap.size ≤ wl5.heap.size ∧ Blk wl5 gp 66 #[.slice A own.length c, .map (some gs), .map (some gh), .int .i64 (lost)] ∧ OVec wl5 0 3 iv 1 A own.length c own ∧ MapG wl5 ikf seatf gs ls cs ∧ MapG wl5 plf holdf gh lh ck ∧ MapG wl5 ikf Value.bool g1_0 lg cg ∧ OVec wl5 w14_3.heap.size 3 iv 1 (some ⟨g16_2, 0, none⟩) nf nf (subS (comeO (goneO own.length ls old) (seats.take k4)) (seats.getD k4 noSeat) k5) ∧ Blk wl5 g35_2 44 (seatV (seats.getD k4 noSeat)).toArray) (fun k5 => 2 - k5) 0 ?_ ?_ ?_
               ·exact .cons rfl (.cons rfl (.cons rfl (.cons rfl (.cons rfl (.cons rfl (.cons rfl (.cons rfl (.cons rfl (.cons rfl (.cons rfl (.cons rfl (.nil _))))))))))))
               ·exact ⟨Nat.zero_le _, L141, Nat.le_refl _, f150, f151, f152, f153, f148, f149, f142⟩
               ·rintro k5 wl5 ⟨hk5, Ll5, zl5, f5_0, f5_1, f5_2, f5_3, f5_4, f5_5, f5_6⟩
                have lb5_11 : w14_3.heap.size ≤ wl5.heap.size := Nat.le_trans lb4_11 (by have := h35_2.size; have := h35_3.size; have := d36.size; have := h36_10_1.size; have := h36_11_1.size; omega)
                have hm4 := may_ok (hok.2.1.2 _ (getD_mem (z := noSeat) (show k4 < seats.length by omega)))
                have hpz := hm4.1
                have hab := subS_at hm4.2.2.2.1 hm4.2.2.2.2 hcb k5 hk5
                refine WC.seq (WC.region ?_)
                refine W.any (.lss rfl rfl) rfl rfl rfl ?_
                refine W.nil (E.thenN (WC.seq ?_))
                by_cases c9 : ((k5 : Nat) : Int) < 2
                ·refine WC.condY rfl (decide_eq_true c9) ?_
                 refine WC.skip (E.thenN (WC.seq (WC.block (WC.seq (WC.region ?_)))))
                 refine W.any (.move rfl) rfl rfl rfl ?_
                 refine W.any (.index1 (v := .int .i64 (((seats.getD k4 noSeat).p k5))) (k5) Tryz.underlying35 sz3 na3 rfl rfl (rfl) (by omega) (seatP_ix (seats.getD k4 noSeat) (by omega))) rfl rfl rfl ?_
                 refine W.any (.assign rfl) rfl rfl rfl ?_
                 refine W.any (.assign rfl) rfl rfl rfl ?_
                 refine W.nil (E.thenN ?_)
                 refine WC.draw [0, 1, 2, 3, 4, 5, 6, 7, 8, 9, 10] mixed (by kernel_rfl) ?_
                 intro w42 d42
                 have L154 := Ll5.le d42
                 refine G.any rfl rfl (.move rfl) rfl rfl rfl ?_
                 refine G.any rfl rfl (.move rfl) rfl rfl rfl ?_
                 refine G.any rfl rfl (.idxS (((seats.getD k4 noSeat).p k5).toNat) Tryz.underlying22 sz3 rfl rfl (o16_2.vec.isSome iv_row (by omega)) (by have := (seatOk_at hm4 (k := k5) (by omega)).1; omega) (by have := (seatOk_at hm4 (k := k5) (by omega)).1; omega)) rfl rfl rfl ?_
                 have f155 := (f5_5.le d42)
                 refine G.rd rfl rfl (.vone (v := .int .i64 (((subS (comeO (goneO own.length ls old) (seats.take k4)) (seats.getD k4 noSeat) k5).getD (((seats.getD k4 noSeat).p k5).toNat) 0))) na3 rfl f155.vec iv_row (getS (subS (comeO (goneO own.length ls old) (seats.take k4)) (seats.getD k4 noSeat) k5) 0 (by rw [subS_len, comeO_len, goneO_len]; have := (seatOk_at hm4 (k := k5) (by omega)).1; omega)) rfl) rfl rfl rfl ?_
                 refine G.any rfl rfl (.move rfl) rfl rfl rfl ?_
                 refine G.any rfl rfl (.field0 fa44_2 rfl) rfl rfl rfl ?_
                 refine G.any rfl rfl (.idxAo (k5) Tryz.underlying35 sz3 rfl rfl (rfl) (by omega)) rfl rfl rfl ?_
                 have f156 := (f5_6.le d42)
                 refine G.rd rfl rfl (.loadB (v := .int .i64 (((seats.getD k4 noSeat).h k5))) na3 rfl f156 (seatH_at (seats.getD k4 noSeat) (by omega))) rfl rfl rfl ?_
                 refine G.any rfl rfl (.sub rfl rfl (by have := hab ((seats.getD k4 noSeat).p k5).toNat; have := (seatOk_at hm4 (k := k5) (by omega)).2; omega)) rfl rfl rfl ?_
                 refine G.any rfl rfl (.idxS (((seats.getD k4 noSeat).p k5).toNat) Tryz.underlying22 sz3 rfl rfl (o16_2.vec.isSome iv_row (by omega)) (by have := (seatOk_at hm4 (k := k5) (by omega)).1; omega) (by have := (seatOk_at hm4 (k := k5) (by omega)).1; omega)) rfl rfl rfl ?_
                 refine G.ef0 rfl rfl rfl rfl ?_
                 refine Ef.vset (j := ((seats.getD k4 noSeat).p k5).toNat) (o := 0) (((subS (comeO (goneO own.length ls old) (seats.take k4)) (seats.getD k4 noSeat) k5).getD (((seats.getD k4 noSeat).p k5).toNat) 0) - ((seats.getD k4 noSeat).h k5)) sz3 rfl (by omega) rfl f155 iv_row (getS (subS (comeO (goneO own.length ls old) (seats.take k4)) (seats.getD k4 noSeat) k5) 0 (by rw [subS_len, comeO_len, goneO_len]; have := (seatOk_at hm4 (k := k5) (by omega)).1; omega)) (by decide) rfl rfl ?_
                 intro w42_10_1 o42_10_1 h42_10_1
                 refine ⟨fun h => absurd h (ne_true_of_eq_false (by kernel_rfl)), ?_⟩
                 have L157 : ChP w w42_10_1 (LF gp gs gh A c) := L154.ch h42_10_1 (fun i hi hlt => absurd hlt (by have := (f155.row hi).1; have := L57.size; omega))
                 refine G.nil (E.blkN (E.thenN (WC.region ?_)))
                 refine W.any (.add rfl rfl (by omega)) rfl rfl rfl ?_
                 refine W.any (.move rfl) rfl rfl rfl ?_
                 refine W.nil ?_
                 have f158 := ((f5_0.le d42).ch h42_10_1 (fun he => by have := (f155.row he).1; have := f1_0.lt; have := h14_3.size; omega))
                 have f159 := ((f5_1.le d42).ch h42_10_1 ((Apart.symm (fun q h1 h2 => by have := (f1_1.row h1).2; have := (f155.row h2).1; have := h14_3.size; omega))))
                 have f160 := ((f5_2.le d42).ch h42_10_1 (fun he => by have := (f155.row he).1; have := f1_2.lt; have := h14_3.size; omega))
                 have f161 := ((f5_3.le d42).ch h42_10_1 (fun he => by have := (f155.row he).1; have := f1_3.lt; have := h14_3.size; omega))
                 have f162 := ((f5_4.le d42).ch h42_10_1 (fun he => by have := (f155.row he).1; have := f1_4.lt; have := h14_3.size; omega))
                 have f163 := (f156.ch h42_10_1 (fun he => by have := (f4_5.row he).2; omega))
                 refine E.again (k5 + 1) (.cons rfl (.cons rfl (.cons rfl (.cons rfl (.cons rfl (.cons rfl (.cons rfl (.cons rfl (.cons rfl (.cons rfl (.cons rfl (.cons rfl (.nil _))))))))))))) ?_ ?_
                 ·exact ⟨by omega, L157, by have := zl5; have := d42.size; have := h42_10_1.size; omega, f158, f159, f160, f161, f162, o42_10_1, f163⟩
                 ·first | omega | (simp only []; omega)
                ·refine WC.condN rfl (decide_eq_false c9) ?_
                 refine WC.exit (E.thenX (E.thenX (E.blkH (E.blkN (E.thenN (WC.region ?_))))))
                 refine W.any (.add rfl rfl (by omega)) rfl rfl rfl ?_
                 refine W.any (.move rfl) rfl rfl rfl ?_
                 refine W.nil ?_
                 refine E.again (k4 + 1) (.cons rfl (.cons rfl (.cons rfl (.cons rfl (.cons rfl (.cons rfl (.cons rfl (.cons rfl (.cons rfl (.nil _)))))))))) ?_ ?_
                 ·exact ⟨by omega, fun i hi => (Nat.lt_succ_iff_lt_or_eq.1 hi).elim (hnt i) (fun hh => by subst hh; exact fun h => h.2 (hmo.val hk37_5).2), Ll5, by have := zl4; have := zl0; have := zl1; have := zl2; have := zl5; have := sc2; have := h1_0.size; have := h1_1.size; have := h14_3.size; have := h16_2.size; have := h35_2.size; have := h35_3.size; have := d36.size; have := h36_10_1.size; have := h36_11_1.size; omega, f5_0, f5_1, f5_2, f5_3, f5_4, (f5_5.cast rfl (by have e5 : k5 = 2 := (by omega); rw [e5, comeO_next (by omega)]))⟩
                 ·first | omega | (simp only []; omega)
            ·refine WC.condN rfl (decide_eq_false c7) ?_
             have ht4 := not_there hnt (by omega)
             refine WC.exit (E.thenX (E.thenX (E.blkH (E.thenN (WC.seq (WC.seq (WC.region ?_)))))))
             refine W.any (.move rfl) rfl rfl rfl ?_
             refine W.any (.move rfl) rfl rfl rfl ?_
             refine W.ef rfl rfl rfl ?_
             refine Ef.call go54 rfl rfl (eqints_ok wl4 f4_5.vec (hf.chP Ll4 hfa) (by omega)) ?_
             rintro _ w45_2 ⟨rfl, h45_2⟩
             refine ⟨_, rfl, ?_⟩
             have L164 := Ll4.le h45_2
             refine W.any (.not rfl) rfl rfl rfl ?_
             refine W.nil (E.thenN ?_)
             by_cases c10 : (comeO (goneO own.length ls old) (seats.take k4)) = fee
             ·refine WC.condN rfl (congrArg not (decide_eq_true c10)) ?_
              refine WC.skip (E.thenN (WC.seq (WC.seq (WC.region ?_))))
              refine W.any (.move rfl) rfl rfl rfl ?_
              refine W.rd (.len Tryz.underlying22 rfl) rfl rfl rfl ?_
              refine W.any (.move rfl) rfl rfl rfl ?_
              refine W.nil (E.thenN (WC.block ?_))
              have f165 := (f4_2.le h45_2)
              have f166 := (f4_0.le h45_2)
              have f167 := (f4_1.le h45_2)
              have f168 := (f4_3.le h45_2)
              refine WC.loop (ι := Nat × SM) (fun ⟨k6, lm⟩ => [(0, .pointer (some ⟨gp, 0, none⟩)), (2, .slice As ns cS), (3, .slice Af nf cf), (187, .slice Ao no co), (188, .int .i64 (((no : Nat) : Int))), (189, .int .i64 (((k6 : Nat) : Int)))]) (fun ⟨k6, lm⟩ wl6 => (k6 ≤ no) ∧ (lm = delAll ls (old.take k6)) ∧ ChP w wl6 (LF gp gs gh A c) ∧ w45_2.heap.size ≤ wl6.heap.size ∧ Blk wl6 gp 66 #[.slice A own.length c, .map (some gs), .map (some gh), .int .i64 (lost)] ∧ OVec wl6 0 3 iv 1 A own.length c own ∧ MapG wl6 ikf seatf gs lm cs ∧ MapG wl6 plf holdf gh lh ck) (fun ⟨k6, lm⟩ => no - k6) (0, ls) ?_ ?_ ?_
              ·exact .cons rfl (.cons rfl (.cons rfl (.cons rfl (.cons rfl (.cons rfl (.nil _))))))
              ·exact ⟨Nat.zero_le _, rfl, L164, Nat.le_refl _, f166, f167, f165, f168⟩
              ·rintro ⟨k6, lm⟩ wl6 ⟨hk6, hlm, Ll6, zl6, f6_0, f6_1, f6_2, f6_3⟩
               refine WC.seq (WC.region ?_)
               refine W.any (.lss rfl rfl) rfl rfl rfl ?_
               refine W.nil (E.thenN (WC.seq ?_))
               by_cases c11 : ((k6 : Nat) : Int) < ((no : Nat) : Int)
               ·refine WC.condY rfl (decide_eq_true c11) ?_
                refine WC.skip (E.thenN (WC.seq (WC.block (WC.seq (WC.region ?_)))))
                refine W.any (.idxS (k6) Tryz.underlying22 sz3 rfl rfl (ho.isSome iv_row (by omega)) (rfl) (by omega)) rfl rfl rfl ?_
                refine W.rd (.vone (v := .int .i64 ((old.getD k6 0))) na3 rfl (ho.chP Ll6 hoa) iv_row (getS old 0 (by first | omega | (simp only [List.length_cons, List.length_nil]; omega))) rfl) rfl rfl rfl ?_
                refine W.any (.assign rfl) rfl rfl rfl ?_
                refine W.nil (E.thenN (WC.region ?_))
                refine W.any (.move rfl) rfl rfl rfl ?_
                refine W.any (.nilCheck rfl) rfl rfl rfl ?_
                refine W.any (.field0 fa66_1 rfl) rfl rfl rfl ?_
                refine W.rd (.loadB (v := .map (some gs)) na63 rfl f6_0 rfl) rfl rfl rfl ?_
                refine W.any (.move rfl) rfl rfl rfl ?_
                refine W.ef0 rfl rfl ?_
                refine Ef.deleteG (key := (old.getD k6 0)) Tryz.underlying63 kint rfl rfl f6_2 ?_
                intro w50_5 b50_5 h50_5
                have L169 : ChP w w50_5 (LF gp gs gh A c) := Ll6.ch h50_5 (fun i hi _ => by cases hi; exact Or.inr (Or.inl rfl))
                refine W.nil (E.blkN (E.thenN (WC.region ?_)))
                refine W.any (.add rfl rfl (by omega)) rfl rfl rfl ?_
                refine W.any (.move rfl) rfl rfl rfl ?_
                refine W.nil ?_
                have f170 := (f6_0.ch h50_5 (fun h => (Ne.symm n1) (Option.some.inj h)))
                have f171 := (f6_1.ch h50_5 (fun q hq => by cases hq; exact n5))
                have f172 := (f6_3.ch h50_5 (fun h => n3 (Option.some.inj h)))
                refine E.again (k6 + 1, (delM (old.getD k6 0) lm)) (.cons rfl (.cons rfl (.cons rfl (.cons rfl (.cons rfl (.cons rfl (.nil _))))))) ?_ ?_
                ·exact ⟨by omega, by rw [delAll_next (by omega), ← hlm], L169, by have := zl6; have := h50_5.size; omega, f170, f171, b50_5, f172⟩
                ·first | omega | (simp only []; omega)
               ·refine WC.condN rfl (decide_eq_false c11) ?_
                refine WC.exit (E.thenX (E.thenX (E.blkH (E.thenN (WC.seq (WC.seq (WC.region ?_)))))))
                refine W.any (.move rfl) rfl rfl rfl ?_
                refine W.rd (.len Tryz.underlying37 rfl) rfl rfl rfl ?_
                refine W.any (.move rfl) rfl rfl rfl ?_
                refine W.nil (E.thenN (WC.block ?_))
                refine WC.loop (ι := Nat × SM × Nat) (fun ⟨k7, ln, cn⟩ => [(0, .pointer (some ⟨gp, 0, none⟩)), (3, .slice Af nf cf), (199, .slice As ns cS), (200, .int .i64 (((ns : Nat) : Int))), (201, .int .i64 (((k7 : Nat) : Int)))]) (fun ⟨k7, ln, cn⟩ wl7 => (k7 ≤ ns) ∧ ((ln, cn) = putAll (lm, cs) (seats.take k7)) ∧ ChP w wl7 (LF gp gs gh A c) ∧ wl6.heap.size ≤ wl7.heap.size ∧ Blk wl7 gp 66 #[.slice A own.length c, .map (some gs), .map (some gh), .int .i64 (lost)] ∧ OVec wl7 0 3 iv 1 A own.length c own ∧ MapG wl7 ikf seatf gs ln cn ∧ MapG wl7 plf holdf gh lh ck) (fun ⟨k7, ln, cn⟩ => ns - k7) (0, lm, cs) ?_ ?_ ?_
                ·exact .cons rfl (.cons rfl (.cons rfl (.cons rfl (.cons rfl (.nil _)))))
                ·exact ⟨Nat.zero_le _, rfl, Ll6, Nat.le_refl _, f6_0, f6_1, f6_2, f6_3⟩
                ·rintro ⟨k7, ln, cn⟩ wl7 ⟨hk7, hln, Ll7, zl7, f7_0, f7_1, f7_2, f7_3⟩
                 refine WC.seq (WC.region ?_)
                 refine W.any (.lss rfl rfl) rfl rfl rfl ?_
                 refine W.nil (E.thenN (WC.seq ?_))
                 by_cases c12 : ((k7 : Nat) : Int) < ((ns : Nat) : Int)
                 ·refine WC.condY rfl (decide_eq_true c12) ?_
                  refine WC.skip (E.thenN (WC.seq (WC.block (WC.seq (WC.region ?_)))))
                  refine W.any (.idxS (k7) Tryz.underlying37 sz44 rfl rfl (hs.isSome seatV_row (by omega)) (rfl) (by omega)) rfl rfl rfl ?_
                  refine W.rd (.vload ag44 rfl (hs.chP Ll7 hsa) seatV_row (getS seats noSeat (by first | omega | (simp only [List.length_cons, List.length_nil]; omega)))) rfl rfl rfl ?_
                  refine W.ef rfl rfl rfl ?_
                  refine Ef.allocA z44 ?_
                  intro g54_2 w54_2 hg54_2 b54_2 h54_2
                  have L173 := Ll7.le h54_2
                  have b54_2 : Blk w54_2 g54_2 44 (seatV noSeat).toArray := b54_2
                  refine W.ef0 rfl rfl ?_
                  refine Ef.storeAll sz44 (by rfl) rfl rfl b54_2 (by simp only [List.size_toArray, seatV_row.len]) (seatV_row.one (seats.getD k7 noSeat)) ?_
                  intro w54_3 b54_3 h54_3
                  have b54_3 : Blk w54_3 g54_2 44 (seatV (seats.getD k7 noSeat)).toArray := b54_3
                  have L174 : ChP w w54_3 (LF gp gs gh A c) := L173.ch h54_3 (fun i hi hlt => by cases hi; exact absurd hlt (by have := Ll7.size; have := hg54_2; omega))
                  refine W.nil (E.thenN ?_)
                  refine WC.draw [0, 1, 2, 3, 4, 5, 6, 7] mixed (by kernel_rfl) ?_
                  intro w55 d55
                  have L175 := L174.le d55
                  refine G.any rfl rfl (.move rfl) rfl rfl rfl ?_
                  refine G.any rfl rfl (.nilCheck rfl) rfl rfl rfl ?_
                  refine G.any rfl rfl (.field0 fa66_1 rfl) rfl rfl rfl ?_
                  have f176 := (((f7_0.le h54_2).ch h54_3 (fun h => (show g54_2 ≠ gp from by have := f7_0.lt; omega) (Option.some.inj h))).le d55)
                  refine G.rd rfl rfl (.loadB (v := .map (some gs)) na63 rfl f176 rfl) rfl rfl rfl ?_
                  refine G.any rfl rfl (.field0 fa44_0 rfl) rfl rfl rfl ?_
                  have f177 := (b54_3.le d55)
                  refine G.rd rfl rfl (.loadB (v := .int .i64 ((seats.getD k7 noSeat).ch)) na3 rfl f177 rfl) rfl rfl rfl ?_
                  refine G.rd rfl rfl (.loadAll ag44 (by rfl) rfl f177) rfl rfl rfl ?_
                  rcases optG (getG ((seats.getD k7 noSeat).ch) ln) with hk55_7 | ⟨vhk55_7, hk55_7⟩
                  ·have f178 := (((f7_2.le h54_2).ch h54_3 (fun h => (show g54_2 ≠ gs from by have := f7_2.lt; omega) (Option.some.inj h))).le d55)
                   refine G.ef0 rfl rfl rfl rfl ?_
                   refine Ef.insertG (key := ((seats.getD k7 noSeat).ch)) (u := (seats.getD k7 noSeat)) Tryz.underlying63 kint rfl rfl rfl f178 (hk55_7) ?_
                   intro w55_7 b55_7 h55_7
                   refine ⟨fun h => absurd h (ne_true_of_eq_false (by kernel_rfl)), ?_⟩
                   have L179 : ChP w w55_7 (LF gp gs gh A c) := L175.ch h55_7 (fun i hi _ => by cases hi; exact Or.inr (Or.inl rfl))
                   refine G.nil (E.blkN (E.thenN (WC.region ?_)))
                   refine W.any (.add rfl rfl (by omega)) rfl rfl rfl ?_
                   refine W.any (.move rfl) rfl rfl rfl ?_
                   refine W.nil ?_
                   have f180 := (f176.ch h55_7 (fun h => (Ne.symm n1) (Option.some.inj h)))
                   have f181 := ((((f7_1.le h54_2).ch h54_3 (fun q hq => by cases hq; exact (fun he => by have := (f7_1.row he).2; omega))).le d55).ch h55_7 (fun q hq => by cases hq; exact n5))
                   have f182 := ((((f7_3.le h54_2).ch h54_3 (fun h => (show g54_2 ≠ gh from by have := f7_3.lt; omega) (Option.some.inj h))).le d55).ch h55_7 (fun h => n3 (Option.some.inj h)))
                   refine E.again (k7 + 1, (ln ++ [(cn, (seats.getD k7 noSeat).ch, (seats.getD k7 noSeat))]), (cn + 1)) (.cons rfl (.cons rfl (.cons rfl (.cons rfl (.cons rfl (.nil _)))))) ?_ ?_
                   ·exact ⟨by omega, by rw [putAll_next (by omega), ← hln, putS_none hk55_7], L179, by have := zl7; have := h54_2.size; have := h54_3.size; have := d55.size; have := h55_7.size; omega, f180, f181, b55_7, f182⟩
                   ·first | omega | (simp only []; omega)
                  ·have f183 := (((f7_2.le h54_2).ch h54_3 (fun h => (show g54_2 ≠ gs from by have := f7_2.lt; omega) (Option.some.inj h))).le d55)
                   refine G.ef0 rfl rfl rfl rfl ?_
                   refine Ef.updateG (key := ((seats.getD k7 noSeat).ch)) (u := (seats.getD k7 noSeat)) Tryz.underlying63 kint rfl rfl rfl f183 stay_i (hk55_7) ?_
                   intro w55_7_1 b55_7_1 h55_7_1
                   refine ⟨fun h => absurd h (ne_true_of_eq_false (by kernel_rfl)), ?_⟩
                   have L184 : ChP w w55_7_1 (LF gp gs gh A c) := L175.ch h55_7_1 (fun i hi _ => by cases hi; exact Or.inr (Or.inl rfl))
                   refine G.nil (E.blkN (E.thenN (WC.region ?_)))
                   refine W.any (.add rfl rfl (by omega)) rfl rfl rfl ?_
                   refine W.any (.move rfl) rfl rfl rfl ?_
                   refine W.nil ?_
                   have f185 := (f176.ch h55_7_1 (fun h => (Ne.symm n1) (Option.some.inj h)))
                   have f186 := ((((f7_1.le h54_2).ch h54_3 (fun q hq => by cases hq; exact (fun he => by have := (f7_1.row he).2; omega))).le d55).ch h55_7_1 (fun q hq => by cases hq; exact n5))
                   have f187 := ((((f7_3.le h54_2).ch h54_3 (fun h => (show g54_2 ≠ gh from by have := f7_3.lt; omega) (Option.some.inj h))).le d55).ch h55_7_1 (fun h => n3 (Option.some.inj h)))
                   refine E.again (k7 + 1, (updM (seats.getD k7 noSeat).ch (seats.getD k7 noSeat) ln), cn) (.cons rfl (.cons rfl (.cons rfl (.cons rfl (.cons rfl (.nil _)))))) ?_ ?_
                   ·exact ⟨by omega, by rw [putAll_next (by omega), ← hln, putS_some hk55_7], L184, by have := zl7; have := h54_2.size; have := h54_3.size; have := d55.size; have := h55_7_1.size; omega, f185, f186, b55_7_1, f187⟩
                   ·first | omega | (simp only []; omega)
                 ·refine WC.condN rfl (decide_eq_false c12) ?_
                  refine WC.exit (E.thenX (E.thenX (E.blkH (E.thenN (WC.seq (WC.seq (WC.region ?_)))))))
                  refine W.any (.move rfl) rfl rfl rfl ?_
                  refine W.rd (.len Tryz.underlying22 rfl) rfl rfl rfl ?_
                  refine W.any (.move rfl) rfl rfl rfl ?_
                  refine W.nil (E.thenN (WC.block ?_))
                  refine WC.loop (ι := Nat × Int) (fun ⟨k8, lo⟩ => [(0, .pointer (some ⟨gp, 0, none⟩)), (213, .slice Af nf cf), (214, .int .i64 (((nf : Nat) : Int))), (215, .int .i64 (((k8 : Nat) : Int)))]) (fun ⟨k8, lo⟩ wl8 => (k8 ≤ nf) ∧ (lo = lost + (fee.take k8).sum) ∧ ChP w wl8 (LF gp gs gh A c) ∧ wl7.heap.size ≤ wl8.heap.size ∧ Blk wl8 gp 66 #[.slice A own.length c, .map (some gs), .map (some gh), .int .i64 (lo)] ∧ OVec wl8 0 3 iv 1 A own.length c own ∧ MapG wl8 ikf seatf gs ln cn ∧ MapG wl8 plf holdf gh lh ck) (fun ⟨k8, lo⟩ => nf - k8) (0, lost) ?_ ?_ ?_
                  ·exact .cons rfl (.cons rfl (.cons rfl (.cons rfl (.nil _))))
                  ·exact ⟨Nat.zero_le _, by simp, Ll7, Nat.le_refl _, f7_0, f7_1, f7_2, f7_3⟩
                  ·rintro ⟨k8, lo⟩ wl8 ⟨hk8, hlo, Ll8, zl8, f8_0, f8_1, f8_2, f8_3⟩
                   have hcs := coins_at hok.2.2 k8 (by omega)
                   refine WC.seq (WC.region ?_)
                   refine W.any (.lss rfl rfl) rfl rfl rfl ?_
                   refine W.nil (E.thenN (WC.seq ?_))
                   by_cases c13 : ((k8 : Nat) : Int) < ((nf : Nat) : Int)
                   ·refine WC.condY rfl (decide_eq_true c13) ?_
                    refine WC.skip (E.thenN (WC.seq (WC.block (WC.seq (WC.region ?_)))))
                    refine W.any (.idxS (k8) Tryz.underlying22 sz3 rfl rfl (hf.isSome iv_row (by omega)) (rfl) (by omega)) rfl rfl rfl ?_
                    refine W.rd (.vone (v := .int .i64 ((fee.getD k8 0))) na3 rfl (hf.chP Ll8 hfa) iv_row (getS fee 0 (by first | omega | (simp only [List.length_cons, List.length_nil]; omega))) rfl) rfl rfl rfl ?_
                    refine W.any (.assign rfl) rfl rfl rfl ?_
                    refine W.nil (E.thenN (WC.region ?_))
                    refine W.any (.move rfl) rfl rfl rfl ?_
                    refine W.any (.nilCheck rfl) rfl rfl rfl ?_
                    refine W.any (.field0 fa66_3 rfl) rfl rfl rfl ?_
                    refine W.rd (.loadB (v := .int .i64 (lo)) na3 rfl f8_0 rfl) rfl rfl rfl ?_
                    refine W.any (.move rfl) rfl rfl rfl ?_
                    refine W.any (.add rfl rfl (by have := coin_at hok.2.2 (show k8 < fee.length by omega); omega)) rfl rfl rfl ?_
                    refine W.any (.nilCheck rfl) rfl rfl rfl ?_
                    refine W.any (.field0 fa66_3 rfl) rfl rfl rfl ?_
                    refine W.ef0 rfl rfl ?_
                    refine Ef.store sz3 rfl rfl f8_0 (by first | decide | (simp; done)) (rfl) ?_
                    intro w60_8 b60_8 h60_8
                    have b60_8 : Blk w60_8 gp 66 #[.slice A own.length c, .map (some gs), .map (some gh), .int .i64 ((lo + (fee.getD k8 0)))] := b60_8
                    have L188 : ChP w w60_8 (LF gp gs gh A c) := Ll8.ch h60_8 (fun i hi _ => by cases hi; exact Or.inl rfl)
                    refine W.nil (E.blkN (E.thenN (WC.region ?_)))
                    refine W.any (.add rfl rfl (by omega)) rfl rfl rfl ?_
                    refine W.any (.move rfl) rfl rfl rfl ?_
                    refine W.nil ?_
                    have f189 := (f8_1.ch h60_8 (fun q hq => by cases hq; exact n4))
                    have f190 := (f8_2.ch h60_8 (fun h => n1 (Option.some.inj h)))
                    have f191 := (f8_3.ch h60_8 (fun h => n2 (Option.some.inj h)))
                    refine E.again (k8 + 1, (lo + (fee.getD k8 0))) (.cons rfl (.cons rfl (.cons rfl (.cons rfl (.nil _))))) ?_ ?_
                    ·exact ⟨by omega, by rw [sum_take_next (by omega)]; omega, L188, by have := zl8; have := h60_8.size; omega, b60_8, f189, f190, f191⟩
                    ·first | omega | (simp only []; omega)
                   ·refine WC.condN rfl (decide_eq_false c13) ?_
                    refine WC.exit (E.thenX (E.thenX (E.blkH (E.thenN (WC.seq (WC.region ?_))))))
                    refine W.any (.assign rfl) rfl rfl rfl ?_
                    refine W.nil (E.thenN (WC.ret ?_))
                    refine E.retG1 rfl rfl ?_
                    have e9 : cutC own.length ls lh old seats fee = 0 := cutC_ok hok ht5 ht14 ht4 (by rw [List.take_of_length_le (by omega)] at c10; exact c10); have e1 : cutLs ls cs old seats = (ln, cn) := (by rw [hln, hlm, List.take_of_length_le (by omega), List.take_of_length_le (by omega)]; rfl); have e2 : lost + fee.sum = lo := (by rw [hlo, List.take_of_length_le (by omega)]); exact ⟨Ll8, by rw [e9], .inr ⟨e9, by rw [e1, e2]; exact ⟨f8_0, f8_1, f8_2, f8_3, n1, n2, n3, n4, n5, n6⟩⟩⟩
             ·refine WC.condY rfl (congrArg not (decide_eq_false c10)) ?_
              refine WC.seq (WC.region ?_)
              refine W.any (.assign rfl) rfl rfl rfl ?_
              refine W.nil (E.thenN (WC.ret (E.thenR ?_)))
              have f192 := (f4_0.le h45_2)
              have f193 := (f4_1.le h45_2)
              have f194 := (f4_2.le h45_2)
              have f195 := (f4_3.le h45_2)
              refine E.retG1 rfl rfl ?_
              have e9 : cutC own.length ls lh old seats fee = 8 := cutC_8 hok ht5 ht14 ht4 (by rw [List.take_of_length_le (by omega)] at c10; exact c10); exact ⟨L164, by rw [e9], .inl ⟨by rw [e9]; decide, ⟨f192, f193, f194, f195, n1, n2, n3, n4, n5, n6⟩⟩⟩
end Go.Proofs.YtmgfgbplbemklaaGreat

namespace Go.Proofs.YtmgfgbplbemklaaGreat
open Go Go.Sx Go.Num Go.Gsp Go.Lsp
set_option maxRecDepth 20000
set_option linter.unusedSimpArgs false
set_option linter.unusedVariables false
theorem rowOf_of {A : Option Addr} {c q : Nat} (h : blkOf A = some q) (hc : 0 < c) : rowOf A c = some q := by
  unfold rowOf
  rw [if_neg (by omega)]
  exact h
def GrownL (w : World) (F F' : Nat → Prop) : Prop := ∀ k, F' k → F k ∨ w.heap.size ≤ k
/-- A ledger of a state, in the blocks F, all of them new behind 'base'. -/
def LPool (w : World) (base gp : Nat) (F : Nat → Prop) (s : Led) : Prop := ∃ gs gh A c, LedL w gp gs gh A c s.cs s.ck s.own s.ls s.lh s.lost ∧ GoodL s ∧ (∀ k, F k ↔ LF gp gs gh A c k) ∧ ∀ k, F k → base ≤ k
section
variable {w w' : World} {base gp : Nat} {F : Nat → Prop} {s : Led}
theorem LPool.chP {F' : Nat → Prop} (h : LPool w base gp F s) (hc : ChP w w' F') (hne : ∀ k, F k → ¬ F' k) : LPool w' base gp F s := by
  obtain ⟨gs, gh, A, c, h1, h2, h3, h4⟩ := h
  exact ⟨gs, gh, A, c, h1.chP hc (fun k hk => hne k ((h3 k).2 hk)), h2, h3, h4⟩
theorem LPool.ch {r : Option Nat} (h : LPool w base gp F s) (hc : Ch w w' r) (hne : ∀ k, r = some k → ¬ F k) : LPool w' base gp F s := h.chP (hc.chP (F := fun k => r = some k) (fun i hi => hi)) (fun k hk hr => hne k hr hk)
theorem LPool.le (h : LPool w base gp F s) (hl : Le w w') : LPool w' base gp F s := h.chP (hl.chP (fun _ => False)) (fun _ _ hf => hf)
theorem LPool.lt (h : LPool w base gp F s) {k : Nat} (hk : F k) : k < w.heap.size := by
  obtain ⟨gs, gh, A, c, h1, h2, h3, h4⟩ := h
  exact h1.lt ((h3 k).1 hk)
theorem LPool.good (h : LPool w base gp F s) : GoodL s := by
  obtain ⟨gs, gh, A, c, h1, h2, h3, h4⟩ := h
  exact h2
theorem LPool.old (h : LPool w base gp F s) {k : Nat} (hk : F k) : base ≤ k := by
  obtain ⟨gs, gh, A, c, h1, h2, h3, h4⟩ := h
  exact h4 k hk
theorem LPool.size (h : LPool w base gp F s) : base ≤ w.heap.size := by
  obtain ⟨gs, gh, A, c, h1, h2, h3, h4⟩ := h
  have := h4 gp ((h3 gp).2 (.inl rfl))
  have := h1.hp.lt
  omega
/-- Behind an act. -/
theorem LPool.next {gs gh gs' : Nat} {A : Option Addr} {c : Nat} {s' : Led} (h : LedL w' gp gs' gh A c s'.cs s'.ck s'.own s'.ls s'.lh s'.lost) (hg : GoodL s') (hF : ∀ k, F k ↔ LF gp gs gh A c k) (hb : ∀ k, F k → base ≤ k) (hbw : base ≤ w.heap.size) (hs : gs' = gs ∨ w.heap.size ≤ gs') :
    ∃ F', LPool w' base gp F' s' ∧ GrownL w F F' := by
  have hgr : ∀ k, LF gp gs' gh A c k → F k ∨ w.heap.size ≤ k := by
    rintro k (hk | hk | hk | hk)
    · exact .inl ((hF k).2 (.inl hk))
    · rcases hs with hs | hs
      · exact .inl ((hF k).2 (.inr (.inl (hk.trans hs))))
      · exact .inr (by omega)
    · exact .inl ((hF k).2 (.inr (.inr (.inl hk))))
    · exact .inl ((hF k).2 (.inr (.inr (.inr hk))))
  refine ⟨LF gp gs' gh A c, ⟨gs', gh, A, c, h, hg, fun _ => Iff.rfl, fun k hk => ?_⟩, hgr⟩
  rcases hgr k hk with h1 | h1
  · exact hb k h1
  · omega
theorem hGood_of (h : GoodL s) : hGood s.ls := fun x hx => by
  obtain ⟨_, _, _, _, _, h3, h4⟩ := h.seats x hx
  omega
theorem hw_of (h : GoodL s) : ∀ x ∈ s.ls, ∀ i, 0 ≤ x.2.2.h i ∧ x.2.2.h i ≤ 1125899906842624 := fun x hx i => (h_two (h.seats x hx).2.2 i).1
theorem hw2_of (h : GoodL s) : ∀ x ∈ s.ls, 0 ≤ x.2.2.h0 ∧ 0 ≤ x.2.2.h1 := fun x hx => by
  obtain ⟨_, _, _, _, _, h3, h4⟩ := h.seats x hx
  omega
theorem hv_of (h : GoodL s) : ∀ x ∈ s.lh, (0 ≤ x.2.1.side ∧ x.2.1.side ≤ 1) ∧ (0 ≤ x.2.2.am ∧ x.2.2.am ≤ 1125899906842624) ∧ ∃ t, getG x.2.1.ch s.ls = some t := fun x hx => by
  obtain ⟨h1, h2, h3⟩ := h.holds x hx
  exact ⟨h1, by omega, h3⟩
theorem hs_of (h : GoodL s) : ∀ x ∈ s.ls, seatOk s.own.length x.2.2 := fun x hx => (h.seats x hx).2.2
theorem hq_of (h : GoodL s) : ∀ ch side, heldL s.lh ch side ≤ 1125899906842624 := fun ch side => (h.heldB ch side).2
/-- What an act does: it tells a number, and the ledger is another one. -/
def Acted (w : World) (base gp : Nat) (F : Nat → Prop) (r : Led × Int) : Ending → World → Prop := fun e w' => ∃ F', e = .returned (.int .i64 r.2) ∧ LPool w' base gp F' r.1 ∧ GrownL w F F' ∧ ChP w w' F
theorem acted {gs gh gs' : Nat} {A : Option Addr} {c : Nat} {r : Led × Int} {e : Ending} (hr : e = .returned (.int .i64 r.2)) (h : LedL w' gp gs' gh A c r.1.cs r.1.ck r.1.own r.1.ls r.1.lh r.1.lost) (hg : GoodL r.1) (hF : ∀ k, F k ↔ LF gp gs gh A c k) (hb : ∀ k, F k → base ≤ k) (hbw : base ≤ w.heap.size) (hs : gs' = gs ∨ w.heap.size ≤ gs') (hc : ChP w w' (LF gp gs gh A c)) : Acted w base gp F r e w' := by
  obtain ⟨F', h1, h2⟩ := LPool.next h hg hF hb hbw hs
  exact ⟨F', hr, h1, h2, hc.mono (fun k hk _ => (hF k).2 hk)⟩
theorem open_led (t : Seat) (fee : Int) (h : LPool w base gp F s) : Calls Tryz.prog 11 #[.pointer (some ⟨gp, 0, none⟩), .agg (seatV t).toArray, .int .i64 fee] w (Acted w base gp F (openL s t fee)) := by
  have hbw := h.size
  have hgd := h.good
  have hg := (open_good hgd t fee).1
  obtain ⟨gs, gh, A, c, h1, h2, h3, h4⟩ := h
  refine Calls.mono (lopen_ok t fee w h1 hgd.ownB hgd.lostB) ?_
  rintro r w' ⟨hc, hr⟩
  rcases hr with ⟨q1, rfl, hL⟩ | ⟨q1, ⟨u, q2⟩, rfl, hL⟩ | ⟨q1, q2, q3, rfl, hL⟩ | ⟨q1, q2, q3, rfl, hL⟩
  · have e : openL s t fee = (s, 1) := by unfold openL; rw [if_pos q1]
    rw [e] at hg ⊢
    exact acted rfl hL hg h3 h4 hbw (.inl rfl) hc
  · have e : openL s t fee = (s, 4) := by unfold openL; rw [if_neg (not_not_intro q1), if_pos (by rw [q2]; rfl)]
    rw [e] at hg ⊢
    exact acted rfl hL hg h3 h4 hbw (.inl rfl) hc
  · have e : openL s t fee = (s, 8) := by unfold openL; rw [if_neg (not_not_intro q1), if_neg (by rw [q2]; simp), if_pos q3]
    rw [e] at hg ⊢
    exact acted rfl hL hg h3 h4 hbw (.inl rfl) hc
  · have e : openL s t fee = (⟨giveO (giveO s.own t 0 t.h0 fee) t 1 t.h1 0, s.ls ++ [(s.cs, t.ch, t)], s.cs + 1, s.lh, s.ck, s.lost + fee⟩, 0) := by unfold openL; rw [if_neg (not_not_intro q1), if_neg (by rw [q2]; simp), if_neg q3]
    rw [e] at hg ⊢
    exact acted rfl hL hg h3 h4 hbw (.inl rfl) hc
theorem close_led (ch : Int) (fee : Pair) (h : LPool w base gp F s) : Calls Tryz.prog 16 #[.pointer (some ⟨gp, 0, none⟩), .int .i64 ch, .agg (pairV fee).toArray] w (Acted w base gp F (closeL s ch fee)) := by
  have hbw := h.size
  have hgd := h.good
  have hg := (close_good hgd ch fee).1
  obtain ⟨gs, gh, A, c, h1, h2, h3, h4⟩ := h
  refine Calls.mono (lclose_ok ch fee w h1 hgd.a_nn (hq_of hgd) (hs_of hgd) hgd.ownB hgd.lostB) ?_
  rintro r w' ⟨hc, hr⟩
  rcases hr with ⟨q1, rfl, hL⟩ | ⟨q1, q2, rfl, hL⟩ | ⟨q1, t, q2, ⟨q3, rfl, hL⟩ | ⟨q3, q4, rfl, hL⟩ | ⟨q3, q4, rfl, hL⟩⟩
  · have e : closeL s ch fee = (s, 1) := by unfold closeL; rw [if_pos q1]
    rw [e] at hg ⊢
    exact acted rfl hL hg h3 h4 hbw (.inl rfl) hc
  · have e : closeL s ch fee = (s, 5) := by unfold closeL; rw [if_neg (not_not_intro q1), q2]
    rw [e] at hg ⊢
    exact acted rfl hL hg h3 h4 hbw (.inl rfl) hc
  · have e : closeL s ch fee = (s, 14) := by unfold closeL; rw [if_neg (not_not_intro q1), q2]; simp only; rw [if_pos q3]
    rw [e] at hg ⊢
    exact acted rfl hL hg h3 h4 hbw (.inl rfl) hc
  · have e : closeL s ch fee = (s, 8) := by unfold closeL; rw [if_neg (not_not_intro q1), q2]; simp only; rw [if_neg (not_not_intro q3), if_pos q4]
    rw [e] at hg ⊢
    exact acted rfl hL hg h3 h4 hbw (.inl rfl) hc
  · have e : closeL s ch fee = (⟨backO s.own t fee 2, delM ch s.ls, s.cs, s.lh, s.ck, backF s.lost fee 2⟩, 0) := by unfold closeL; rw [if_neg (not_not_intro q1), q2]; simp only; rw [if_neg (not_not_intro q3), if_neg q4]
    rw [e] at hg ⊢
    exact acted rfl hL hg h3 h4 hbw (.inl rfl) hc
theorem offer_led (ch side id am : Int) (pt : Nat) (hpt : pt < 18446744073709551616) (h : LPool w base gp F s) : Calls Tryz.prog 14 #[.pointer (some ⟨gp, 0, none⟩), .int .i64 ch, .int .i64 side, .int .i64 id, .int .i64 am, .int .u64 ((pt : Nat) : Int)] w (Acted w base gp F (offerL s ch side id am pt)) := by
  have hbw := h.size
  have hgd := h.good
  have hg := (offer_good hgd ch side id am pt).1
  obtain ⟨gs, gh, A, c, h1, h2, h3, h4⟩ := h
  refine Calls.mono (loffer_ok ch side id am pt w h1 hpt (hw_of hgd)) ?_
  rintro r w' ⟨hc, hr⟩
  rcases hr with ⟨q1, rfl, hL⟩ | ⟨q1, q2, rfl, hL⟩ | ⟨q1, t, q2, ⟨x, q3, rfl, hL⟩ | ⟨q3, ⟨q4, rfl, hL⟩ | ⟨q4, rfl, hL⟩⟩⟩
  · have e : offerL s ch side id am pt = (s, 1) := by unfold offerL; rw [if_pos q1]
    rw [e] at hg ⊢
    exact acted rfl hL hg h3 h4 hbw (.inl rfl) hc
  · have e : offerL s ch side id am pt = (s, 5) := by unfold offerL; rw [if_neg (not_not_intro q1), q2]
    rw [e] at hg ⊢
    exact acted rfl hL hg h3 h4 hbw (.inl rfl) hc
  · have e : offerL s ch side id am pt = (s, 4) := by unfold offerL; rw [if_neg (not_not_intro q1), q2]; simp only; rw [if_pos (by rw [q3]; rfl)]
    rw [e] at hg ⊢
    exact acted rfl hL hg h3 h4 hbw (.inl rfl) hc
  · have e : offerL s ch side id am pt = (s, 8) := by unfold offerL; rw [if_neg (not_not_intro q1), q2]; simp only; rw [if_neg (by rw [q3]; simp), if_pos q4]
    rw [e] at hg ⊢
    exact acted rfl hL hg h3 h4 hbw (.inl rfl) hc
  · have e : offerL s ch side id am pt = (⟨s.own, updM ch (t.setH side.toNat (t.h side.toNat - am)) s.ls, s.cs, s.lh ++ [(s.ck, ⟨ch, side, id⟩, ⟨am, pt⟩)], s.ck + 1, s.lost⟩, 0) := by unfold offerL; rw [if_neg (not_not_intro q1), q2]; simp only; rw [if_neg (by rw [q3]; simp), if_neg q4]
    rw [e] at hg ⊢
    exact acted rfl hL hg h3 h4 hbw (.inl rfl) hc
theorem settle_led (ch side id : Int) (sec : Nat) (h : LPool w base gp F s) : Calls Tryz.prog 17 #[.pointer (some ⟨gp, 0, none⟩), .int .i64 ch, .int .i64 side, .int .i64 id, .int .u64 ((sec : Nat) : Int)] w (Acted w base gp F (settleL s ch side id sec)) := by
  have hbw := h.size
  have hgd := h.good
  have hg := (settle_good hgd ch side id sec).1
  obtain ⟨gs, gh, A, c, h1, h2, h3, h4⟩ := h
  refine Calls.mono (lsettle_ok ch side id sec w h1 (hw_of hgd) (hv_of hgd)) ?_
  rintro r w' ⟨hc, hr⟩
  rcases hr with ⟨q1, rfl, hL⟩ | ⟨x, q1, ⟨q2, rfl, hL⟩ | ⟨q2, rfl, t, q3, hL⟩⟩
  · have e : settleL s ch side id sec = (s, 5) := by unfold settleL; rw [q1]
    rw [e] at hg ⊢
    exact acted rfl hL hg h3 h4 hbw (.inl rfl) hc
  · have e : settleL s ch side id sec = (s, 23) := by unfold settleL; rw [q1]; simp only; rw [if_pos q2]
    rw [e] at hg ⊢
    exact acted rfl hL hg h3 h4 hbw (.inl rfl) hc
  · have e : settleL s ch side id sec = (endL s ch side id x t (1 - side), 0) := by unfold settleL; rw [q1]; simp only; rw [if_neg (not_not_intro q2), q3]; rfl
    rw [e] at hg ⊢
    exact acted rfl hL hg h3 h4 hbw (.inl rfl) hc
theorem fail_led (ch side id : Int) (h : LPool w base gp F s) : Calls Tryz.prog 18 #[.pointer (some ⟨gp, 0, none⟩), .int .i64 ch, .int .i64 side, .int .i64 id] w (Acted w base gp F (failL s ch side id)) := by
  have hbw := h.size
  have hgd := h.good
  have hg := (fail_good hgd ch side id).1
  obtain ⟨gs, gh, A, c, h1, h2, h3, h4⟩ := h
  refine Calls.mono (lfail_ok ch side id w h1 (hw_of hgd) (hv_of hgd)) ?_
  rintro r w' ⟨hc, hr⟩
  rcases hr with ⟨q1, rfl, hL⟩ | ⟨x, q1, rfl, t, q3, hL⟩
  · have e : failL s ch side id = (s, 5) := by unfold failL; rw [q1]
    rw [e] at hg ⊢
    exact acted rfl hL hg h3 h4 hbw (.inl rfl) hc
  · have e : failL s ch side id = (endL s ch side id x t side, 0) := by unfold failL; rw [q1]; simp only; rw [q3]; rfl
    rw [e] at hg ⊢
    exact acted rfl hL hg h3 h4 hbw (.inl rfl) hc
theorem pay_led {Ag : Option Addr} {ng cg : Nat} {legs : List Leg} (h : LPool w base gp F s) (hg0 : Vec w legV 3 Ag ng legs) (hng : ng ≤ 1000) (hga : ∀ q, blkOf Ag = some q → 0 < ng → q < w.heap.size → ¬ F q) : Calls Tryz.prog 19 #[.pointer (some ⟨gp, 0, none⟩), .slice Ag ng cg] w (Acted w base gp F (payL s legs)) := by
  have hbw := h.size
  have hgd := h.good
  have hg := (pay_good hgd legs).1
  obtain ⟨gs, gh, A, c, h1, h2, h3, h4⟩ := h
  refine Calls.mono (lpay_ok w h1 hg0 hng (hGood_of hgd) (fun q a b d e => hga q a b d ((h3 q).2 e))) ?_
  rintro r w' ⟨hc, hr⟩
  rcases hr with ⟨q1, rfl, hL⟩ | ⟨q1, rfl, gs', q2, hL⟩
  · have e : payL s legs = (s, (payTo s.ls legs).2) := by unfold payL; rw [if_pos q1]
    rw [e] at hg ⊢
    exact acted rfl hL hg h3 h4 hbw (.inl rfl) hc
  · have e : payL s legs = (⟨s.own, (payTo s.ls legs).1, s.cs, s.lh, s.ck, s.lost⟩, 0) := by unfold payL; rw [if_neg (by simpa using q1)]
    rw [e] at hg ⊢
    exact acted rfl hL hg h3 h4 hbw (.inr q2) hc
theorem splice_led (ch : Int) (d fee : Pair) (hd : ∀ k, k < 2 → -9223372036854775808 ≤ d.ix k ∧ d.ix k ≤ 9223372036854775807) (h : LPool w base gp F s) : Calls Tryz.prog 21 #[.pointer (some ⟨gp, 0, none⟩), .int .i64 ch, .agg (pairV d).toArray, .agg (pairV fee).toArray] w (Acted w base gp F (spliceL s ch d fee)) := by
  have hbw := h.size
  have hgd := h.good
  have hg := (splice_good hgd ch d fee).1
  obtain ⟨gs, gh, A, c, h1, h2, h3, h4⟩ := h
  refine Calls.mono (lsplice_ok ch d fee w h1 hd (hs_of hgd) hgd.ownB hgd.lostB) ?_
  rintro r w' ⟨hc, hr⟩
  rcases hr with ⟨q1, rfl, hL⟩ | ⟨q1, q2, rfl, hL⟩ | ⟨q1, t, q2, ⟨q3, rfl, hL⟩ | ⟨q3, rfl, hL⟩⟩
  · have e : spliceL s ch d fee = (s, 1) := by unfold spliceL; rw [if_pos q1]
    rw [e] at hg ⊢
    exact acted rfl hL hg h3 h4 hbw (.inl rfl) hc
  · have e : spliceL s ch d fee = (s, 5) := by unfold spliceL; rw [if_neg (not_not_intro q1), q2]
    rw [e] at hg ⊢
    exact acted rfl hL hg h3 h4 hbw (.inl rfl) hc
  · have q4 : spNo s.own t d fee 0 ∨ spNo s.own t d fee 1 := by
      obtain ⟨k, hk, hh⟩ := q3
      have : k = 0 ∨ k = 1 := by omega
      rcases this with rfl | rfl
      · exact .inl hh
      · exact .inr hh
    have e : spliceL s ch d fee = (s, 8) := by unfold spliceL; rw [if_neg (not_not_intro q1), q2]; simp only; rw [if_pos q4]
    rw [e] at hg ⊢
    exact acted rfl hL hg h3 h4 hbw (.inl rfl) hc
  · have q4 : ¬ (spNo s.own t d fee 0 ∨ spNo s.own t d fee 1) := by
      rintro (hh | hh)
      · exact q3 0 (by omega) hh
      · exact q3 1 (by omega) hh
    have e : spliceL s ch d fee = (⟨spO s.own (addK t d 2) d fee 2, updM ch (addK t d 2) s.ls, s.cs, s.lh, s.ck, backF s.lost fee 2⟩, 0) := by unfold spliceL; rw [if_neg (not_not_intro q1), q2]; simp only; rw [if_neg q4]
    rw [e] at hg ⊢
    exact acted rfl hL hg h3 h4 hbw (.inl rfl) hc
theorem cut_led {Ao As Af : Option Addr} {no co ns cS nf cf : Nat} {old fee : List Int} {ss : List Seat} (h : LPool w base gp F s) (ho : Vec w iv 1 Ao no old) (hs : Vec w seatV 5 As ns ss) (hf : Vec w iv 1 Af nf fee) (hno : no ≤ 1000) (hns : ns ≤ 1000) (hnf : nf ≤ 1000)
    (hoa : ∀ q, blkOf Ao = some q → 0 < no → q < w.heap.size → ¬ F q) (hsa : ∀ q, blkOf As = some q → 0 < ns → q < w.heap.size → ¬ F q) (hfa : ∀ q, blkOf Af = some q → 0 < nf → q < w.heap.size → ¬ F q) :
    Calls Tryz.prog 20 #[.pointer (some ⟨gp, 0, none⟩), .slice Ao no co, .slice As ns cS, .slice Af nf cf] w (Acted w base gp F (cutL s old ss fee)) := by
  have hbw := h.size
  have hgd := h.good
  have hg := (cut_good hgd old ss fee).1
  obtain ⟨gs, gh, A, c, h1, h2, h3, h4⟩ := h
  refine Calls.mono (lcut_ok w h1 ho hs hf hno hns hnf (fun q a b d e => hoa q a b d ((h3 q).2 e)) (fun q a b d e => hsa q a b d ((h3 q).2 e)) (fun q a b d e => hfa q a b d ((h3 q).2 e)) hgd.a_nn (hq_of hgd) (hs_of hgd) hgd.lostB) ?_
  rintro r w' ⟨hc, rfl, hr⟩
  rcases hr with ⟨q1, hL⟩ | ⟨q1, hL⟩
  · have e : cutL s old ss fee = (s, cutC s.own.length s.ls s.lh old ss fee) := by unfold cutL; rw [if_pos q1]
    rw [e] at hg ⊢
    exact acted rfl hL hg h3 h4 hbw (.inl rfl) hc
  · have e : cutL s old ss fee = (⟨s.own, (cutLs s.ls s.cs old ss).1, (cutLs s.ls s.cs old ss).2, s.lh, s.ck, s.lost + fee.sum⟩, 0) := by unfold cutL; rw [if_neg (not_not_intro q1)]
    rw [e] at hg ⊢
    exact acted (by rw [q1]) hL hg h3 h4 hbw (.inl rfl) hc
theorem own_led (party : Int) (h : LPool w base gp F s) : Calls Tryz.prog 12 #[.pointer (some ⟨gp, 0, none⟩), .int .i64 party] w fun r w' => r = .returned (.int .i64 (ownL s.own party)) ∧ Le w w' := by
  obtain ⟨gs, gh, A, c, h1, h2, h3, h4⟩ := h
  exact lown_ok party w h1
theorem lost_led (h : LPool w base gp F s) : Calls Tryz.prog 25 #[.pointer (some ⟨gp, 0, none⟩)] w fun r w' => r = .returned (.int .i64 s.lost) ∧ Le w w' := by
  obtain ⟨gs, gh, A, c, h1, h2, h3, h4⟩ := h
  exact lost_ok w h1
theorem seat_led (ch : Int) (h : LPool w base gp F s) : Calls Tryz.prog 22 #[.pointer (some ⟨gp, 0, none⟩), .int .i64 ch] w fun r w' => r = .returned (.tuple #[.agg (seatV (seatAt' s.ls ch)).toArray, .bool (getG ch s.ls).isSome]) ∧ Le w w' := by
  obtain ⟨gs, gh, A, c, h1, h2, h3, h4⟩ := h
  exact lseat_ok ch w h1
theorem held_led (ch side : Int) (h : LPool w base gp F s) : Calls Tryz.prog 15 #[.pointer (some ⟨gp, 0, none⟩), .int .i64 ch, .int .i64 side] w fun r w' => r = .returned (.int .i64 (heldL s.lh ch side)) ∧ Le w w' := by
  have hgd := h.good
  obtain ⟨gs, gh, A, c, h1, h2, h3, h4⟩ := h
  exact lheld_ok ch side w h1 hgd.a_nn (by have := (hgd.heldB ch side).2; omega)
theorem worth_led (party : Int) (h : LPool w base gp F s) : Calls Tryz.prog 13 #[.pointer (some ⟨gp, 0, none⟩), .int .i64 party] w fun r w' => r = .returned (.int .i64 (worthL s.own s.ls s.lh party)) ∧ Le w w' := by
  have hgd := h.good
  obtain ⟨gs, gh, A, c, h1, h2, h3, h4⟩ := h
  exact lworth_ok party w h1 hgd.a_nn (hw2_of hgd) (worth_ge hgd party).2 (by have := worth_le hgd party; omega)
theorem total_led (h : LPool w base gp F s) : Calls Tryz.prog 24 #[.pointer (some ⟨gp, 0, none⟩)] w fun r w' => r = .returned (.int .i64 (s.all - s.lost)) ∧ Le w w' := by
  have hgd := h.good
  obtain ⟨gs, gh, A, c, h1, h2, h3, h4⟩ := h
  have ht := total_all hgd
  refine Calls.mono (ltotal_ok w h1 hgd.a_nn (hw2_of hgd) (fun i => (worth_ge hgd i).2) (by have := hgd.len; omega) (fun i => by have h1 := worth_ge hgd i; have h2 := worth_le hgd i; omega)) ?_
  rintro r w' ⟨rfl, hl⟩
  exact ⟨by rw [ht]; unfold Led.all; congr 2; omega, hl⟩
theorem seats_led (h : LPool w base gp F s) : Calls Tryz.prog 23 #[.pointer (some ⟨gp, 0, none⟩)] w fun r w' => ∃ (A : Option Addr) (c : Nat), r = .returned (.slice A (seatsL s.ls).length c) ∧ OVec w' w.heap.size 44 seatV 5 A (seatsL s.ls).length c (seatsL s.ls) ∧ Le w w' := by
  have hgd := h.good
  obtain ⟨gs, gh, A, c, h1, h2, h3, h4⟩ := h
  refine Calls.mono (lseats_ok w h1 (fun x hx => by have := (hgd.seats x hx).2.1; unfold inI; omega) (by have := hgd.few; omega)) ?_
  rintro r w' ⟨A', c', ns, rfl, hp, hw, ho, hl⟩
  have e : ns = srtI (keysM s.ls) := srt_uniq (hp.trans (srtI_perm _).symm) hw (srtI_srt _)
  subst e
  exact ⟨A', c', by rw [seatsL_len], ho.cast (seatsL_len _).symm rfl, hl⟩
theorem new_led {Aw : Option Addr} {nw cw : Nat} {own : List Int} (w : World) (hO : Vec w iv 1 Aw nw own) (hn : newOk own) : Calls Tryz.prog 6 #[.slice Aw nw cw] w fun r w' => ∃ gp F, r = .returned (.pointer (some ⟨gp, 0, none⟩)) ∧ LPool w' w.heap.size gp F ⟨own, [], 0, [], 0, 0⟩ ∧ Le w w' := by
  refine Calls.mono (lnew_ok w hO) ?_
  rintro r w' (⟨q, _⟩ | ⟨q, gp, gs, gh, A, c, rfl, hL, hk, hl⟩)
  · exact absurd hn q
  · exact ⟨gp, LF gp gs gh A c, rfl, ⟨gs, gh, A, c, hL, (new_good q).1, fun _ => Iff.rfl, hk⟩, hl⟩
theorem new_none {Aw : Option Addr} {nw cw : Nat} {own : List Int} (w : World) (hO : Vec w iv 1 Aw nw own) (hn : ¬ newOk own) : Calls Tryz.prog 6 #[.slice Aw nw cw] w fun r w' => r = .returned (.pointer none) ∧ Le w w' := by
  refine Calls.mono (lnew_ok w hO) ?_
  rintro r w' (⟨q, h⟩ | ⟨q, _⟩)
  · exact h
  · exact absurd q hn
end
end Go.Proofs.YtmgfgbplbemklaaGreat

namespace Go.Proofs.YtmgfgbplbemklaaGreat
open Go Go.Sx Go.Num Go.Gsp Go.Lsp
set_option maxRecDepth 20000
set_option linter.unusedSimpArgs false
set_option linter.unusedVariables false
theorem eqv_pairV {d : Nat} (a b : Pair) : Eqv Tryz.prog (d + 2) 35 (.agg (pairV a).toArray) (.agg (pairV b).toArray) (decide (a = b)) := by
  have h := Eqv.arr (P := Tryz.prog) (d := d + 1) (xs := (pairV a).toArray) (ys := (pairV b).toArray) (fun i => decide (a.ix i = b.ix i)) (fun i => .int .i64 (a.ix i)) (fun i => .int .i64 (b.ix i)) Tryz.underlying35 sz3 (fun i hi w => run_part1 na3 (by rw [Nat.mul_one]; exact pair_ix a hi) w) (fun i hi w => run_part1 na3 (by rw [Nat.mul_one]; exact pair_ix b hi) w) (fun i hi => Eqv.int (P := Tryz.prog) _ _ Tryz.underlying3)
  have e : ((List.range 2).all fun i => decide (a.ix i = b.ix i)) = decide (a = b) := by
    obtain ⟨a1, a2⟩ := a
    obtain ⟨b1, b2⟩ := b
    rw [Bool.eq_iff_iff]
    simp [List.range_succ, Pair.ix]
  rw [e] at h
  exact h
theorem seat_pairs (a : Seat) : ((seatV a).drop 1).take 2 = pairV ⟨a.p0, a.p1⟩ ∧ ((seatV a).drop 3).take 2 = pairV ⟨a.h0, a.h1⟩ := ⟨rfl, rfl⟩
theorem eqv_seatV {d : Nat} (a b : Seat) : Eqv Tryz.prog (d + 3) 44 (.agg (seatV a).toArray) (.agg (seatV b).toArray) (decide (a = b)) := by
  have h := Eqv.struct (P := Tryz.prog) (d := d + 2) (t := 44) (seatV a).toArray (seatV b).toArray [(0, .int .i64 a.ch, .int .i64 b.ch, decide (a.ch = b.ch)), (1, .agg (pairV ⟨a.p0, a.p1⟩).toArray, .agg (pairV ⟨b.p0, b.p1⟩).toArray, decide ((⟨a.p0, a.p1⟩ : Pair) = ⟨b.p0, b.p1⟩)), (3, .agg (pairV ⟨a.h0, a.h1⟩).toArray, .agg (pairV ⟨b.h0, b.h1⟩).toArray, decide ((⟨a.h0, a.h1⟩ : Pair) = ⟨b.h0, b.h1⟩))] (by kernel_rfl) (by kernel_rfl) (by
    rw [show (Tryz.prog.fieldsOf 44) = _ from (by unfold Program.fieldsOf; rw [Tryz.underlying44])]
    exact ⟨by decide, rfl, fun w => run_part1 na3 rfl w, fun w => run_part1 na3 rfl w, Eqv.int (P := Tryz.prog) _ _ Tryz.underlying3,
      by decide, rfl, fun w => run_partA _ ag35 rfl (seat_pairs a).1 w, fun w => run_partA _ ag35 rfl (seat_pairs b).1 w, eqv_pairV _ _,
      by decide, rfl, fun w => run_partA _ ag35 rfl (seat_pairs a).2 w, fun w => run_partA _ ag35 rfl (seat_pairs b).2 w, eqv_pairV _ _, trivial⟩)
  have e : (([(0, .int .i64 a.ch, .int .i64 b.ch, decide (a.ch = b.ch)), (1, .agg (pairV ⟨a.p0, a.p1⟩).toArray, .agg (pairV ⟨b.p0, b.p1⟩).toArray, decide ((⟨a.p0, a.p1⟩ : Pair) = ⟨b.p0, b.p1⟩)), (3, .agg (pairV ⟨a.h0, a.h1⟩).toArray, .agg (pairV ⟨b.h0, b.h1⟩).toArray, decide ((⟨a.h0, a.h1⟩ : Pair) = ⟨b.h0, b.h1⟩))] : List (Nat × Value × Value × Bool)).all fun k => k.2.2.2) = decide (a = b) := by
    obtain ⟨a1, a2, a3, a4, a5⟩ := a
    obtain ⟨b1, b2, b3, b4, b5⟩ := b
    rw [Bool.eq_iff_iff]
    simp
    intro _
    constructor
    · rintro ⟨⟨h2, h3⟩, h4, h5⟩; exact ⟨h2, h3, h4, h5⟩
    · rintro ⟨h2, h3, h4, h5⟩; exact ⟨⟨h2, h3⟩, h4, h5⟩
  rw [e] at h
  exact h
namespace S46
def s0 : Led := ⟨[100, 100, 50], [], 0, [], 0, 0⟩
def s1 : Led := (openL s0 (⟨3, 0, 1, 60, 0⟩ : Seat) 5).1
theorem e1 : openL s0 (⟨3, 0, 1, 60, 0⟩ : Seat) 5 = (s1, 0) := by decide +kernel
theorem e2 : openL s1 (⟨3, 1, 2, 0, 0⟩ : Seat) 0 = (s1, 4) := by decide +kernel
theorem e3 : openL s1 (⟨4, 0, 1, 36, 0⟩ : Seat) 0 = (s1, 8) := by decide +kernel
theorem e4 : ownL s1.own 0 = 35 := by decide +kernel
theorem e5 : worthL s1.own s1.ls s1.lh 0 = 95 := by decide +kernel
def s6 : Led := (offerL s1 3 0 1 40 16).1
theorem e6 : offerL s1 3 0 1 40 16 = (s6, 0) := by decide +kernel
theorem e7 : heldL s6.lh 3 0 = 40 := by decide +kernel
theorem e8 : worthL s6.own s6.ls s6.lh 0 = 95 := by decide +kernel
theorem e9 : closeL s6 3 (⟨0, 0⟩ : Pair) = (s6, 14) := by decide +kernel
theorem e10 : settleL s6 3 0 1 3 = (s6, 23) := by decide +kernel
def s11 : Led := (settleL s6 3 0 1 2).1
theorem e11 : settleL s6 3 0 1 2 = (s11, 0) := by decide +kernel
theorem e12 : worthL s11.own s11.ls s11.lh 1 = 140 := by decide +kernel
theorem e13 : failL s11 3 0 1 = (s11, 5) := by decide +kernel
def s14 : Led := (openL s11 (⟨7, 1, 2, 30, 10⟩ : Seat) 0).1
theorem e14 : openL s11 (⟨7, 1, 2, 30, 10⟩ : Seat) 0 = (s14, 0) := by decide +kernel
def s15 : Led := (payL s14 [(⟨3, 0, 12⟩ : Leg), (⟨7, 0, 11⟩ : Leg)]).1
theorem e15 : payL s14 [(⟨3, 0, 12⟩ : Leg), (⟨7, 0, 11⟩ : Leg)] = (s15, 0) := by decide +kernel
theorem e16 : worthL s15.own s15.ls s15.lh 2 = 61 := by decide +kernel
theorem e17 : payL s15 [(⟨3, 0, 1⟩ : Leg), (⟨7, 0, 99⟩ : Leg)] = (s15, 8) := by decide +kernel
theorem e18 : worthL s15.own s15.ls s15.lh 0 = 43 := by decide +kernel
def s19 : Led := (cutL s15 [3, 7] [(⟨3, 0, 2, 8, 21⟩ : Seat), (⟨9, 1, 0, 70, 0⟩ : Seat)] [0, 1, 0]).1
theorem e19 : cutL s15 [3, 7] [(⟨3, 0, 2, 8, 21⟩ : Seat), (⟨9, 1, 0, 70, 0⟩ : Seat)] [0, 1, 0] = (s19, 0) := by decide +kernel
def s20 : Led := (spliceL s19 9 (⟨(-20), 30⟩ : Pair) (⟨2, 0⟩ : Pair)).1
theorem e20 : spliceL s19 9 (⟨(-20), 30⟩ : Pair) (⟨2, 0⟩ : Pair) = (s20, 0) := by decide +kernel
theorem e21 : ownL s20.own 1 = 88 := by decide +kernel
theorem e22 : ownL s20.own 0 = 5 := by decide +kernel
theorem f1 : seatAt' s20.ls 9 = ⟨9, 1, 0, 50, 30⟩ := by decide +kernel
theorem f2 : (getG 9 s20.ls).isSome = true := by decide +kernel
theorem f3 : (seatsL s20.ls).length = 2 := by decide +kernel
theorem f4 : s20.all - s20.lost = 242 := by decide +kernel
theorem f5 : s20.lost = 8 := by decide +kernel
end S46
open S46
theorem small46_ok (w : World) : Calls Tryz.prog 4 #[] w fun r w' => r = .returned (.bool true) ∧ Le w w' := by
 refine enter Tryz.func4 rfl rfl ?_
 have L0 := Le.refl w
 refine WC.seq (WC.region ?_)
 refine W.any (.assign rfl) rfl rfl rfl ?_
 refine W.nil (E.thenN (WC.seq (WC.region ?_)))
 refine W.ef rfl rfl rfl ?_
 refine Ef.buildSliceV (len := 3) [_, _, _] Tryz.underlying22 el3 rfl (by simp [Value.cells]) rfl (by decide) (by decide) ?_
 intro g1_0 w1_0 hg1_0 b1_0 h1_0
 have L1 := L0.trans h1_0
 have b1_0 : Blk w1_0 g1_0 3 (([100, 100, 50]).map iv).flatten.toArray := b1_0
 have o1_0 : OVec w1_0 w.heap.size 3 iv 1 (some ⟨g1_0, 0, none⟩) 3 3 ([100, 100, 50]) := b1_0.ovec hg1_0 iv_row rfl rfl (by decide)
 refine W.ef rfl rfl rfl ?_
 refine Ef.call go6 rfl rfl (new_led w1_0 o1_0.vec (by decide)) ?_
 rintro _ w1_1 ⟨gp1_1, F1_1, rfl, p1_1, h1_1⟩
 refine ⟨_, rfl, ?_⟩
 have L2 := L1.trans h1_1
 refine W.any (.assign rfl) rfl rfl rfl ?_
 refine W.nil (E.thenN (WC.seq (WC.seq (WC.region ?_))))
 refine W.any (.move rfl) rfl rfl rfl ?_
 refine W.any (.dec (.isNilP (by kernel_rfl) rfl) rfl) rfl rfl rfl ?_
 refine W.any (.move rfl) rfl rfl rfl ?_
 refine W.efg rfl rfl rfl (rfl) rfl rfl ?_
 refine Ef.call go6 rfl rfl (new_none w1_1 (Vec.nil _ _ _ _) (by decide)) ?_
 rintro _ w2_3 ⟨rfl, h2_3⟩
 refine ⟨_, rfl, ?_⟩
 have L3 := L2.trans h2_3
 refine W.rdg (Any.rd (.dec (.notNilP (by kernel_rfl) rfl) rfl) _) rfl rfl rfl (rfl) rfl rfl ?_
 refine W.any (.pickF rfl rfl rfl) rfl rfl rfl ?_
 refine W.any (.move rfl) rfl rfl rfl ?_
 refine W.efg rfl rfl rfl (rfl) rfl rfl ?_
 refine Ef.buildSliceV (len := 2) [_, _] Tryz.underlying22 el3 rfl (by simp [Value.cells]) rfl (by decide) (by decide) ?_
 intro g2_7 w2_7 hg2_7 b2_7 h2_7
 have L4 := L3.trans h2_7
 have b2_7 : Blk w2_7 g2_7 3 (([1125899906842624, 1]).map iv).flatten.toArray := b2_7
 have o2_7 : OVec w2_7 w2_3.heap.size 3 iv 1 (some ⟨g2_7, 0, none⟩) 2 2 ([1125899906842624, 1]) := b2_7.ovec hg2_7 iv_row rfl rfl (by decide)
 refine W.efg rfl rfl rfl (rfl) rfl rfl ?_
 refine Ef.call go6 rfl rfl (new_none w2_7 o2_7.vec (by decide)) ?_
 rintro _ w2_8 ⟨rfl, h2_8⟩
 refine ⟨_, rfl, ?_⟩
 have L5 := L4.trans h2_8
 refine W.rdg (Any.rd (.dec (.notNilP (by kernel_rfl) rfl) rfl) _) rfl rfl rfl (rfl) rfl rfl ?_
 refine W.any (.pickF rfl rfl rfl) rfl rfl rfl ?_
 refine W.any (.move rfl) rfl rfl rfl ?_
 refine W.efg rfl rfl rfl (rfl) rfl rfl ?_
 refine Ef.buildSliceV (len := 1) [_] Tryz.underlying22 el3 rfl (by simp [Value.cells]) rfl (by decide) (by decide) ?_
 intro g2_12 w2_12 hg2_12 b2_12 h2_12
 have L6 := L5.trans h2_12
 have b2_12 : Blk w2_12 g2_12 3 (([(-1)]).map iv).flatten.toArray := b2_12
 have o2_12 : OVec w2_12 w2_8.heap.size 3 iv 1 (some ⟨g2_12, 0, none⟩) 1 1 ([(-1)]) := b2_12.ovec hg2_12 iv_row rfl rfl (by decide)
 refine W.efg rfl rfl rfl (rfl) rfl rfl ?_
 refine Ef.call go6 rfl rfl (new_none w2_12 o2_12.vec (by decide)) ?_
 rintro _ w2_13 ⟨rfl, h2_13⟩
 refine ⟨_, rfl, ?_⟩
 have L7 := L6.trans h2_13
 refine W.rdg (Any.rd (.dec (.notNilP (by kernel_rfl) rfl) rfl) _) rfl rfl rfl (rfl) rfl rfl ?_
 refine W.any (.pickF rfl rfl rfl) rfl rfl rfl ?_
 refine W.nil (E.thenN ?_)
 refine WC.condF rfl ?_
 refine WC.skip (E.thenN (WC.seq (WC.region ?_)))
 refine W.any (.move rfl) rfl rfl rfl ?_
 refine W.any (.buildA (cells := (pairV (⟨0, 1⟩ : Pair)).toArray) Tryz.underlying35 sz3 z35 rfl rfl) rfl rfl rfl ?_
 refine W.any (.buildA (cells := (pairV (⟨60, 0⟩ : Pair)).toArray) Tryz.underlying35 sz3 z35 rfl rfl) rfl rfl rfl ?_
 refine W.any (.buildP (seatV (⟨3, 0, 1, 60, 0⟩ : Seat)) pl44 z44 rfl rfl) rfl rfl rfl ?_
 have f8 := (p1_1.le (h2_3.trans (h2_7.trans (h2_8.trans (h2_12.trans h2_13)))))
 refine W.ef rfl rfl rfl ?_
 refine Ef.call go11 rfl rfl ((by have h := open_led (s := s0) (⟨3, 0, 1, 60, 0⟩ : Seat) 5 f8; rw [e1] at h; exact h)) ?_
 rintro _ w4_4 ⟨F4_4, rfl, p4_4, g4_4, h4_4⟩
 refine ⟨_, rfl, ?_⟩
 have L9 := L7.chP_then h4_4 (fun i hi => Nat.le_trans L1.size (f8.old hi))
 have f10 := (o1_0.le (h1_1.trans (h2_3.trans (h2_7.trans (h2_8.trans (h2_12.trans h2_13))))))
 have f11 := (o2_7.le (h2_8.trans (h2_12.trans h2_13)))
 have f12 := (o2_12.le h2_13)
 have zq13n := (show ∀ g, rowOf (some ⟨g1_0, 0, none⟩) 3 = some g → ¬ F1_1 g from (fun g hg hF => by have := f8.old hF;  have := (o1_0.row hg).2; omega))
 have zq13 := f10.chP h4_4 zq13n
 have zq13g : ∀ g, rowOf (some ⟨g1_0, 0, none⟩) 3 = some g → ¬ F4_4 g := fun g hg hF => (g4_4 _ hF).elim (zq13n g hg) (fun hz => by have := (f10.row hg).2; omega)
 have zq14n := (show ∀ g, rowOf (some ⟨g2_7, 0, none⟩) 2 = some g → ¬ F1_1 g from (fun g hg hF => by have := p1_1.lt hF; have := h2_3.size; have := (f11.row hg).1; omega))
 have zq14 := f11.chP h4_4 zq14n
 have zq14g : ∀ g, rowOf (some ⟨g2_7, 0, none⟩) 2 = some g → ¬ F4_4 g := fun g hg hF => (g4_4 _ hF).elim (zq14n g hg) (fun hz => by have := (f11.row hg).2; omega)
 have zq15n := (show ∀ g, rowOf (some ⟨g2_12, 0, none⟩) 1 = some g → ¬ F1_1 g from (fun g hg hF => by have := p1_1.lt hF; have := h2_3.size; have := h2_7.size; have := h2_8.size; have := (f12.row hg).1; omega))
 have zq15 := f12.chP h4_4 zq15n
 have zq15g : ∀ g, rowOf (some ⟨g2_12, 0, none⟩) 1 = some g → ¬ F4_4 g := fun g hg hF => (g4_4 _ hF).elim (zq15n g hg) (fun hz => by have := (f12.row hg).2; omega)
 refine W.any (.dec (.eql rfl rfl) (show _ = true from by first | decide | rfl)) rfl rfl rfl ?_
 refine W.any (.move rfl) rfl rfl rfl ?_
 refine W.rdg (Any.rd (.move rfl) _) rfl rfl rfl (rfl) rfl rfl ?_
 refine W.rdg (Any.rd (.buildA (cells := (pairV (⟨1, 2⟩ : Pair)).toArray) Tryz.underlying35 sz3 z35 rfl rfl) _) rfl rfl rfl (rfl) rfl rfl ?_
 refine W.rdg (Any.rd (.buildP (seatV (⟨3, 1, 2, 0, 0⟩ : Seat)) pl44 z44 rfl rfl) _) rfl rfl rfl (rfl) rfl rfl ?_
 refine W.efg rfl rfl rfl (rfl) rfl rfl ?_
 refine Ef.call go11 rfl rfl ((by have h := open_led (s := s1) (⟨3, 1, 2, 0, 0⟩ : Seat) 0 p4_4; rw [e2] at h; exact h)) ?_
 rintro _ w4_10 ⟨F4_10, rfl, p4_10, g4_10, h4_10⟩
 refine ⟨_, rfl, ?_⟩
 have L16 := L9.chP_then h4_10 (fun i hi => Nat.le_trans L1.size (p4_4.old hi))
 have zq17n := (show ∀ g, rowOf (some ⟨g1_0, 0, none⟩) 3 = some g → ¬ F4_4 g from zq13g)
 have zq17 := zq13.chP h4_10 zq17n
 have zq17g : ∀ g, rowOf (some ⟨g1_0, 0, none⟩) 3 = some g → ¬ F4_10 g := fun g hg hF => (g4_10 _ hF).elim (zq17n g hg) (fun hz => by have := (zq13.row hg).2; omega)
 have zq18n := (show ∀ g, rowOf (some ⟨g2_7, 0, none⟩) 2 = some g → ¬ F4_4 g from zq14g)
 have zq18 := zq14.chP h4_10 zq18n
 have zq18g : ∀ g, rowOf (some ⟨g2_7, 0, none⟩) 2 = some g → ¬ F4_10 g := fun g hg hF => (g4_10 _ hF).elim (zq18n g hg) (fun hz => by have := (zq14.row hg).2; omega)
 have zq19n := (show ∀ g, rowOf (some ⟨g2_12, 0, none⟩) 1 = some g → ¬ F4_4 g from zq15g)
 have zq19 := zq15.chP h4_10 zq19n
 have zq19g : ∀ g, rowOf (some ⟨g2_12, 0, none⟩) 1 = some g → ¬ F4_10 g := fun g hg hF => (g4_10 _ hF).elim (zq19n g hg) (fun hz => by have := (zq15.row hg).2; omega)
 refine W.rdg (Any.rd (.dec (.eql rfl rfl) (show _ = true from by first | decide | rfl)) _) rfl rfl rfl (rfl) rfl rfl ?_
 refine W.any (.pickT rfl rfl rfl) rfl rfl rfl ?_
 refine W.any (.move rfl) rfl rfl rfl ?_
 refine W.rdg (Any.rd (.move rfl) _) rfl rfl rfl (rfl) rfl rfl ?_
 refine W.rdg (Any.rd (.buildA (cells := (pairV (⟨0, 1⟩ : Pair)).toArray) Tryz.underlying35 sz3 z35 rfl rfl) _) rfl rfl rfl (rfl) rfl rfl ?_
 refine W.rdg (Any.rd (.buildA (cells := (pairV (⟨36, 0⟩ : Pair)).toArray) Tryz.underlying35 sz3 z35 rfl rfl) _) rfl rfl rfl (rfl) rfl rfl ?_
 refine W.rdg (Any.rd (.buildP (seatV (⟨4, 0, 1, 36, 0⟩ : Seat)) pl44 z44 rfl rfl) _) rfl rfl rfl (rfl) rfl rfl ?_
 refine W.efg rfl rfl rfl (rfl) rfl rfl ?_
 refine Ef.call go11 rfl rfl ((by have h := open_led (s := s1) (⟨4, 0, 1, 36, 0⟩ : Seat) 0 p4_10; rw [e3] at h; exact h)) ?_
 rintro _ w4_18 ⟨F4_18, rfl, p4_18, g4_18, h4_18⟩
 refine ⟨_, rfl, ?_⟩
 have L20 := L16.chP_then h4_18 (fun i hi => Nat.le_trans L1.size (p4_10.old hi))
 have zq21n := (show ∀ g, rowOf (some ⟨g1_0, 0, none⟩) 3 = some g → ¬ F4_10 g from zq17g)
 have zq21 := zq17.chP h4_18 zq21n
 have zq21g : ∀ g, rowOf (some ⟨g1_0, 0, none⟩) 3 = some g → ¬ F4_18 g := fun g hg hF => (g4_18 _ hF).elim (zq21n g hg) (fun hz => by have := (zq17.row hg).2; omega)
 have zq22n := (show ∀ g, rowOf (some ⟨g2_7, 0, none⟩) 2 = some g → ¬ F4_10 g from zq18g)
 have zq22 := zq18.chP h4_18 zq22n
 have zq22g : ∀ g, rowOf (some ⟨g2_7, 0, none⟩) 2 = some g → ¬ F4_18 g := fun g hg hF => (g4_18 _ hF).elim (zq22n g hg) (fun hz => by have := (zq18.row hg).2; omega)
 have zq23n := (show ∀ g, rowOf (some ⟨g2_12, 0, none⟩) 1 = some g → ¬ F4_10 g from zq19g)
 have zq23 := zq19.chP h4_18 zq23n
 have zq23g : ∀ g, rowOf (some ⟨g2_12, 0, none⟩) 1 = some g → ¬ F4_18 g := fun g hg hF => (g4_18 _ hF).elim (zq23n g hg) (fun hz => by have := (zq19.row hg).2; omega)
 refine W.rdg (Any.rd (.dec (.eql rfl rfl) (show _ = true from by first | decide | rfl)) _) rfl rfl rfl (rfl) rfl rfl ?_
 refine W.any (.pickT rfl rfl rfl) rfl rfl rfl ?_
 refine W.any (.move rfl) rfl rfl rfl ?_
 refine W.rdg (Any.rd (.move rfl) _) rfl rfl rfl (rfl) rfl rfl ?_
 refine W.efg rfl rfl rfl (rfl) rfl rfl ?_
 refine Ef.call go12 rfl rfl ((by have h := own_led (s := s1) 0 p4_18; rw [e4] at h; exact h)) ?_
 rintro _ w4_23 ⟨rfl, h4_23⟩
 refine ⟨_, rfl, ?_⟩
 have L24 := L20.trans h4_23
 refine W.rdg (Any.rd (.dec (.eql rfl rfl) (show _ = true from by first | decide | rfl)) _) rfl rfl rfl (rfl) rfl rfl ?_
 refine W.any (.pickT rfl rfl rfl) rfl rfl rfl ?_
 refine W.any (.move rfl) rfl rfl rfl ?_
 refine W.rdg (Any.rd (.move rfl) _) rfl rfl rfl (rfl) rfl rfl ?_
 have f25 := (p4_18.le h4_23)
 refine W.efg rfl rfl rfl (rfl) rfl rfl ?_
 refine Ef.call go13 rfl rfl ((by have h := worth_led (s := s1) 0 f25; rw [e5] at h; exact h)) ?_
 rintro _ w4_28 ⟨rfl, h4_28⟩
 refine ⟨_, rfl, ?_⟩
 have L26 := L24.trans h4_28
 refine W.rdg (Any.rd (.dec (.eql rfl rfl) (show _ = true from by first | decide | rfl)) _) rfl rfl rfl (rfl) rfl rfl ?_
 refine W.any (.pickT rfl rfl rfl) rfl rfl rfl ?_
 refine W.any (.assign rfl) rfl rfl rfl ?_
 refine W.nil (E.thenN (WC.seq (WC.region ?_)))
 refine W.any (.move rfl) rfl rfl rfl ?_
 have f27 := (f25.le h4_28)
 refine W.ef rfl rfl rfl ?_
 refine Ef.call go14 rfl rfl ((by have h := offer_led (s := s1) 3 0 1 40 16 (by omega) f27; rw [e6] at h; exact h)) ?_
 rintro _ w5_1 ⟨F5_1, rfl, p5_1, g5_1, h5_1⟩
 refine ⟨_, rfl, ?_⟩
 have L28 := L26.chP_then h5_1 (fun i hi => Nat.le_trans L1.size (f27.old hi))
 have f29 := (zq21.le (h4_23.trans h4_28))
 have f30 := (zq22.le (h4_23.trans h4_28))
 have f31 := (zq23.le (h4_23.trans h4_28))
 have zq32n := (show ∀ g, rowOf (some ⟨g1_0, 0, none⟩) 3 = some g → ¬ F4_18 g from zq21g)
 have zq32 := f29.chP h5_1 zq32n
 have zq32g : ∀ g, rowOf (some ⟨g1_0, 0, none⟩) 3 = some g → ¬ F5_1 g := fun g hg hF => (g5_1 _ hF).elim (zq32n g hg) (fun hz => by have := (f29.row hg).2; omega)
 have zq33n := (show ∀ g, rowOf (some ⟨g2_7, 0, none⟩) 2 = some g → ¬ F4_18 g from zq22g)
 have zq33 := f30.chP h5_1 zq33n
 have zq33g : ∀ g, rowOf (some ⟨g2_7, 0, none⟩) 2 = some g → ¬ F5_1 g := fun g hg hF => (g5_1 _ hF).elim (zq33n g hg) (fun hz => by have := (f30.row hg).2; omega)
 have zq34n := (show ∀ g, rowOf (some ⟨g2_12, 0, none⟩) 1 = some g → ¬ F4_18 g from zq23g)
 have zq34 := f31.chP h5_1 zq34n
 have zq34g : ∀ g, rowOf (some ⟨g2_12, 0, none⟩) 1 = some g → ¬ F5_1 g := fun g hg hF => (g5_1 _ hF).elim (zq34n g hg) (fun hz => by have := (f31.row hg).2; omega)
 refine W.any (.dec (.eql rfl rfl) (show _ = true from by first | decide | rfl)) rfl rfl rfl ?_
 refine W.any (.move rfl) rfl rfl rfl ?_
 refine W.rdg (Any.rd (.move rfl) _) rfl rfl rfl (rfl) rfl rfl ?_
 refine W.efg rfl rfl rfl (rfl) rfl rfl ?_
 refine Ef.call go15 rfl rfl ((by have h := held_led (s := s6) 3 0 p5_1; rw [e7] at h; exact h)) ?_
 rintro _ w5_5 ⟨rfl, h5_5⟩
 refine ⟨_, rfl, ?_⟩
 have L35 := L28.trans h5_5
 refine W.rdg (Any.rd (.dec (.eql rfl rfl) (show _ = true from by first | decide | rfl)) _) rfl rfl rfl (rfl) rfl rfl ?_
 refine W.any (.pickT rfl rfl rfl) rfl rfl rfl ?_
 refine W.any (.move rfl) rfl rfl rfl ?_
 refine W.rdg (Any.rd (.move rfl) _) rfl rfl rfl (rfl) rfl rfl ?_
 have f36 := (p5_1.le h5_5)
 refine W.efg rfl rfl rfl (rfl) rfl rfl ?_
 refine Ef.call go13 rfl rfl ((by have h := worth_led (s := s6) 0 f36; rw [e8] at h; exact h)) ?_
 rintro _ w5_10 ⟨rfl, h5_10⟩
 refine ⟨_, rfl, ?_⟩
 have L37 := L35.trans h5_10
 refine W.rdg (Any.rd (.dec (.eql rfl rfl) (show _ = true from by first | decide | rfl)) _) rfl rfl rfl (rfl) rfl rfl ?_
 refine W.any (.pickT rfl rfl rfl) rfl rfl rfl ?_
 refine W.any (.move rfl) rfl rfl rfl ?_
 refine W.rdg (Any.rd (.move rfl) _) rfl rfl rfl (rfl) rfl rfl ?_
 refine W.rdg (Any.rd (.buildA (cells := (pairV (⟨0, 0⟩ : Pair)).toArray) Tryz.underlying35 sz3 z35 rfl rfl) _) rfl rfl rfl (rfl) rfl rfl ?_
 have f38 := (f36.le h5_10)
 refine W.efg rfl rfl rfl (rfl) rfl rfl ?_
 refine Ef.call go16 rfl rfl ((by have h := close_led (s := s6) 3 (⟨0, 0⟩ : Pair) f38; rw [e9] at h; exact h)) ?_
 rintro _ w5_16 ⟨F5_16, rfl, p5_16, g5_16, h5_16⟩
 refine ⟨_, rfl, ?_⟩
 have L39 := L37.chP_then h5_16 (fun i hi => Nat.le_trans L1.size (f38.old hi))
 have f40 := (zq32.le (h5_5.trans h5_10))
 have f41 := (zq33.le (h5_5.trans h5_10))
 have f42 := (zq34.le (h5_5.trans h5_10))
 have zq43n := (show ∀ g, rowOf (some ⟨g1_0, 0, none⟩) 3 = some g → ¬ F5_1 g from zq32g)
 have zq43 := f40.chP h5_16 zq43n
 have zq43g : ∀ g, rowOf (some ⟨g1_0, 0, none⟩) 3 = some g → ¬ F5_16 g := fun g hg hF => (g5_16 _ hF).elim (zq43n g hg) (fun hz => by have := (f40.row hg).2; omega)
 have zq44n := (show ∀ g, rowOf (some ⟨g2_7, 0, none⟩) 2 = some g → ¬ F5_1 g from zq33g)
 have zq44 := f41.chP h5_16 zq44n
 have zq44g : ∀ g, rowOf (some ⟨g2_7, 0, none⟩) 2 = some g → ¬ F5_16 g := fun g hg hF => (g5_16 _ hF).elim (zq44n g hg) (fun hz => by have := (f41.row hg).2; omega)
 have zq45n := (show ∀ g, rowOf (some ⟨g2_12, 0, none⟩) 1 = some g → ¬ F5_1 g from zq34g)
 have zq45 := f42.chP h5_16 zq45n
 have zq45g : ∀ g, rowOf (some ⟨g2_12, 0, none⟩) 1 = some g → ¬ F5_16 g := fun g hg hF => (g5_16 _ hF).elim (zq45n g hg) (fun hz => by have := (f42.row hg).2; omega)
 refine W.rdg (Any.rd (.dec (.eql rfl rfl) (show _ = true from by first | decide | rfl)) _) rfl rfl rfl (rfl) rfl rfl ?_
 refine W.any (.pickT rfl rfl rfl) rfl rfl rfl ?_
 refine W.any (.move rfl) rfl rfl rfl ?_
 refine W.rdg (Any.rd (.move rfl) _) rfl rfl rfl (rfl) rfl rfl ?_
 refine W.efg rfl rfl rfl (rfl) rfl rfl ?_
 refine Ef.call go17 rfl rfl ((by have h := settle_led (s := s6) 3 0 1 3 p5_16; rw [e10] at h; exact h)) ?_
 rintro _ w5_21 ⟨F5_21, rfl, p5_21, g5_21, h5_21⟩
 refine ⟨_, rfl, ?_⟩
 have L46 := L39.chP_then h5_21 (fun i hi => Nat.le_trans L1.size (p5_16.old hi))
 have zq47n := (show ∀ g, rowOf (some ⟨g1_0, 0, none⟩) 3 = some g → ¬ F5_16 g from zq43g)
 have zq47 := zq43.chP h5_21 zq47n
 have zq47g : ∀ g, rowOf (some ⟨g1_0, 0, none⟩) 3 = some g → ¬ F5_21 g := fun g hg hF => (g5_21 _ hF).elim (zq47n g hg) (fun hz => by have := (zq43.row hg).2; omega)
 have zq48n := (show ∀ g, rowOf (some ⟨g2_7, 0, none⟩) 2 = some g → ¬ F5_16 g from zq44g)
 have zq48 := zq44.chP h5_21 zq48n
 have zq48g : ∀ g, rowOf (some ⟨g2_7, 0, none⟩) 2 = some g → ¬ F5_21 g := fun g hg hF => (g5_21 _ hF).elim (zq48n g hg) (fun hz => by have := (zq44.row hg).2; omega)
 have zq49n := (show ∀ g, rowOf (some ⟨g2_12, 0, none⟩) 1 = some g → ¬ F5_16 g from zq45g)
 have zq49 := zq45.chP h5_21 zq49n
 have zq49g : ∀ g, rowOf (some ⟨g2_12, 0, none⟩) 1 = some g → ¬ F5_21 g := fun g hg hF => (g5_21 _ hF).elim (zq49n g hg) (fun hz => by have := (zq45.row hg).2; omega)
 refine W.rdg (Any.rd (.dec (.eql rfl rfl) (show _ = true from by first | decide | rfl)) _) rfl rfl rfl (rfl) rfl rfl ?_
 refine W.any (.pickT rfl rfl rfl) rfl rfl rfl ?_
 refine W.any (.move rfl) rfl rfl rfl ?_
 refine W.rdg (Any.rd (.move rfl) _) rfl rfl rfl (rfl) rfl rfl ?_
 refine W.efg rfl rfl rfl (rfl) rfl rfl ?_
 refine Ef.call go17 rfl rfl ((by have h := settle_led (s := s6) 3 0 1 2 p5_21; rw [e11] at h; exact h)) ?_
 rintro _ w5_26 ⟨F5_26, rfl, p5_26, g5_26, h5_26⟩
 refine ⟨_, rfl, ?_⟩
 have L50 := L46.chP_then h5_26 (fun i hi => Nat.le_trans L1.size (p5_21.old hi))
 have zq51n := (show ∀ g, rowOf (some ⟨g1_0, 0, none⟩) 3 = some g → ¬ F5_21 g from zq47g)
 have zq51 := zq47.chP h5_26 zq51n
 have zq51g : ∀ g, rowOf (some ⟨g1_0, 0, none⟩) 3 = some g → ¬ F5_26 g := fun g hg hF => (g5_26 _ hF).elim (zq51n g hg) (fun hz => by have := (zq47.row hg).2; omega)
 have zq52n := (show ∀ g, rowOf (some ⟨g2_7, 0, none⟩) 2 = some g → ¬ F5_21 g from zq48g)
 have zq52 := zq48.chP h5_26 zq52n
 have zq52g : ∀ g, rowOf (some ⟨g2_7, 0, none⟩) 2 = some g → ¬ F5_26 g := fun g hg hF => (g5_26 _ hF).elim (zq52n g hg) (fun hz => by have := (zq48.row hg).2; omega)
 have zq53n := (show ∀ g, rowOf (some ⟨g2_12, 0, none⟩) 1 = some g → ¬ F5_21 g from zq49g)
 have zq53 := zq49.chP h5_26 zq53n
 have zq53g : ∀ g, rowOf (some ⟨g2_12, 0, none⟩) 1 = some g → ¬ F5_26 g := fun g hg hF => (g5_26 _ hF).elim (zq53n g hg) (fun hz => by have := (zq49.row hg).2; omega)
 refine W.rdg (Any.rd (.dec (.eql rfl rfl) (show _ = true from by first | decide | rfl)) _) rfl rfl rfl (rfl) rfl rfl ?_
 refine W.any (.pickT rfl rfl rfl) rfl rfl rfl ?_
 refine W.any (.move rfl) rfl rfl rfl ?_
 refine W.rdg (Any.rd (.move rfl) _) rfl rfl rfl (rfl) rfl rfl ?_
 refine W.efg rfl rfl rfl (rfl) rfl rfl ?_
 refine Ef.call go13 rfl rfl ((by have h := worth_led (s := s11) 1 p5_26; rw [e12] at h; exact h)) ?_
 rintro _ w5_31 ⟨rfl, h5_31⟩
 refine ⟨_, rfl, ?_⟩
 have L54 := L50.trans h5_31
 refine W.rdg (Any.rd (.dec (.eql rfl rfl) (show _ = true from by first | decide | rfl)) _) rfl rfl rfl (rfl) rfl rfl ?_
 refine W.any (.pickT rfl rfl rfl) rfl rfl rfl ?_
 refine W.any (.move rfl) rfl rfl rfl ?_
 refine W.rdg (Any.rd (.move rfl) _) rfl rfl rfl (rfl) rfl rfl ?_
 have f55 := (p5_26.le h5_31)
 refine W.efg rfl rfl rfl (rfl) rfl rfl ?_
 refine Ef.call go18 rfl rfl ((by have h := fail_led (s := s11) 3 0 1 f55; rw [e13] at h; exact h)) ?_
 rintro _ w5_36 ⟨F5_36, rfl, p5_36, g5_36, h5_36⟩
 refine ⟨_, rfl, ?_⟩
 have L56 := L54.chP_then h5_36 (fun i hi => Nat.le_trans L1.size (f55.old hi))
 have f57 := (zq51.le h5_31)
 have f58 := (zq52.le h5_31)
 have f59 := (zq53.le h5_31)
 have zq60n := (show ∀ g, rowOf (some ⟨g1_0, 0, none⟩) 3 = some g → ¬ F5_26 g from zq51g)
 have zq60 := f57.chP h5_36 zq60n
 have zq60g : ∀ g, rowOf (some ⟨g1_0, 0, none⟩) 3 = some g → ¬ F5_36 g := fun g hg hF => (g5_36 _ hF).elim (zq60n g hg) (fun hz => by have := (f57.row hg).2; omega)
 have zq61n := (show ∀ g, rowOf (some ⟨g2_7, 0, none⟩) 2 = some g → ¬ F5_26 g from zq52g)
 have zq61 := f58.chP h5_36 zq61n
 have zq61g : ∀ g, rowOf (some ⟨g2_7, 0, none⟩) 2 = some g → ¬ F5_36 g := fun g hg hF => (g5_36 _ hF).elim (zq61n g hg) (fun hz => by have := (f58.row hg).2; omega)
 have zq62n := (show ∀ g, rowOf (some ⟨g2_12, 0, none⟩) 1 = some g → ¬ F5_26 g from zq53g)
 have zq62 := f59.chP h5_36 zq62n
 have zq62g : ∀ g, rowOf (some ⟨g2_12, 0, none⟩) 1 = some g → ¬ F5_36 g := fun g hg hF => (g5_36 _ hF).elim (zq62n g hg) (fun hz => by have := (f59.row hg).2; omega)
 refine W.rdg (Any.rd (.dec (.eql rfl rfl) (show _ = true from by first | decide | rfl)) _) rfl rfl rfl (rfl) rfl rfl ?_
 refine W.any (.pickT rfl rfl rfl) rfl rfl rfl ?_
 refine W.any (.assign rfl) rfl rfl rfl ?_
 refine W.nil (E.thenN (WC.seq (WC.region ?_)))
 refine W.any (.move rfl) rfl rfl rfl ?_
 refine W.any (.buildA (cells := (pairV (⟨1, 2⟩ : Pair)).toArray) Tryz.underlying35 sz3 z35 rfl rfl) rfl rfl rfl ?_
 refine W.any (.buildA (cells := (pairV (⟨30, 10⟩ : Pair)).toArray) Tryz.underlying35 sz3 z35 rfl rfl) rfl rfl rfl ?_
 refine W.any (.buildP (seatV (⟨7, 1, 2, 30, 10⟩ : Seat)) pl44 z44 rfl rfl) rfl rfl rfl ?_
 refine W.ef rfl rfl rfl ?_
 refine Ef.call go11 rfl rfl ((by have h := open_led (s := s11) (⟨7, 1, 2, 30, 10⟩ : Seat) 0 p5_36; rw [e14] at h; exact h)) ?_
 rintro _ w6_4 ⟨F6_4, rfl, p6_4, g6_4, h6_4⟩
 refine ⟨_, rfl, ?_⟩
 have L63 := L56.chP_then h6_4 (fun i hi => Nat.le_trans L1.size (p5_36.old hi))
 have zq64n := (show ∀ g, rowOf (some ⟨g1_0, 0, none⟩) 3 = some g → ¬ F5_36 g from zq60g)
 have zq64 := zq60.chP h6_4 zq64n
 have zq64g : ∀ g, rowOf (some ⟨g1_0, 0, none⟩) 3 = some g → ¬ F6_4 g := fun g hg hF => (g6_4 _ hF).elim (zq64n g hg) (fun hz => by have := (zq60.row hg).2; omega)
 have zq65n := (show ∀ g, rowOf (some ⟨g2_7, 0, none⟩) 2 = some g → ¬ F5_36 g from zq61g)
 have zq65 := zq61.chP h6_4 zq65n
 have zq65g : ∀ g, rowOf (some ⟨g2_7, 0, none⟩) 2 = some g → ¬ F6_4 g := fun g hg hF => (g6_4 _ hF).elim (zq65n g hg) (fun hz => by have := (zq61.row hg).2; omega)
 have zq66n := (show ∀ g, rowOf (some ⟨g2_12, 0, none⟩) 1 = some g → ¬ F5_36 g from zq62g)
 have zq66 := zq62.chP h6_4 zq66n
 have zq66g : ∀ g, rowOf (some ⟨g2_12, 0, none⟩) 1 = some g → ¬ F6_4 g := fun g hg hF => (g6_4 _ hF).elim (zq66n g hg) (fun hz => by have := (zq62.row hg).2; omega)
 refine W.any (.dec (.eql rfl rfl) (show _ = true from by first | decide | rfl)) rfl rfl rfl ?_
 refine W.any (.move rfl) rfl rfl rfl ?_
 refine W.rdg (Any.rd (.move rfl) _) rfl rfl rfl (rfl) rfl rfl ?_
 refine W.rdg (Any.rd (.buildP (legV (⟨3, 0, 12⟩ : Leg)) pl53 z53 rfl rfl) _) rfl rfl rfl (rfl) rfl rfl ?_
 refine W.rdg (Any.rd (.buildP (legV (⟨7, 0, 11⟩ : Leg)) pl53 z53 rfl rfl) _) rfl rfl rfl (rfl) rfl rfl ?_
 refine W.efg rfl rfl rfl (rfl) rfl rfl ?_
 refine Ef.buildSliceV (len := 2) [_, _] Tryz.underlying36 el53 rfl (by simp [Value.cells, legV_row.len]) rfl (by decide) (by decide) ?_
 intro g6_10 w6_10 hg6_10 b6_10 h6_10
 have L67 := L63.trans h6_10
 have b6_10 : Blk w6_10 g6_10 53 (([(⟨3, 0, 12⟩ : Leg), (⟨7, 0, 11⟩ : Leg)]).map legV).flatten.toArray := b6_10
 have o6_10 : OVec w6_10 w6_4.heap.size 53 legV 3 (some ⟨g6_10, 0, none⟩) 2 2 ([(⟨3, 0, 12⟩ : Leg), (⟨7, 0, 11⟩ : Leg)]) := b6_10.ovec hg6_10 legV_row rfl rfl (by decide)
 have f68 := (p6_4.le h6_10)
 refine W.efg rfl rfl rfl (rfl) rfl rfl ?_
 refine Ef.call go19 rfl rfl ((by have h := pay_led (s := s14) (cg := 2) f68 o6_10.vec (by omega) (fun q h0 h1 h2 => (show ∀ g, rowOf (some ⟨g6_10, 0, none⟩) 2 = some g → ¬ F6_4 g from (fun g hg hF => by have := p6_4.lt hF;  have := (o6_10.row hg).1; omega)) q (rowOf_of h0 (by have := o6_10.cap; omega))); rw [e15] at h; exact h)) ?_
 rintro _ w6_11 ⟨F6_11, rfl, p6_11, g6_11, h6_11⟩
 refine ⟨_, rfl, ?_⟩
 have L69 := L67.chP_then h6_11 (fun i hi => Nat.le_trans L1.size (f68.old hi))
 have f70 := (zq64.le h6_10)
 have f71 := (zq65.le h6_10)
 have f72 := (zq66.le h6_10)
 have zq73n := (show ∀ g, rowOf (some ⟨g1_0, 0, none⟩) 3 = some g → ¬ F6_4 g from zq64g)
 have zq73 := f70.chP h6_11 zq73n
 have zq73g : ∀ g, rowOf (some ⟨g1_0, 0, none⟩) 3 = some g → ¬ F6_11 g := fun g hg hF => (g6_11 _ hF).elim (zq73n g hg) (fun hz => by have := (f70.row hg).2; omega)
 have zq74n := (show ∀ g, rowOf (some ⟨g2_7, 0, none⟩) 2 = some g → ¬ F6_4 g from zq65g)
 have zq74 := f71.chP h6_11 zq74n
 have zq74g : ∀ g, rowOf (some ⟨g2_7, 0, none⟩) 2 = some g → ¬ F6_11 g := fun g hg hF => (g6_11 _ hF).elim (zq74n g hg) (fun hz => by have := (f71.row hg).2; omega)
 have zq75n := (show ∀ g, rowOf (some ⟨g2_12, 0, none⟩) 1 = some g → ¬ F6_4 g from zq66g)
 have zq75 := f72.chP h6_11 zq75n
 have zq75g : ∀ g, rowOf (some ⟨g2_12, 0, none⟩) 1 = some g → ¬ F6_11 g := fun g hg hF => (g6_11 _ hF).elim (zq75n g hg) (fun hz => by have := (f72.row hg).2; omega)
 have zq76n := (show ∀ g, rowOf (some ⟨g6_10, 0, none⟩) 2 = some g → ¬ F6_4 g from (fun g hg hF => by have := p6_4.lt hF;  have := (o6_10.row hg).1; omega))
 have zq76 := o6_10.chP h6_11 zq76n
 have zq76g : ∀ g, rowOf (some ⟨g6_10, 0, none⟩) 2 = some g → ¬ F6_11 g := fun g hg hF => (g6_11 _ hF).elim (zq76n g hg) (fun hz => by have := (o6_10.row hg).2; omega)
 refine W.rdg (Any.rd (.dec (.eql rfl rfl) (show _ = true from by first | decide | rfl)) _) rfl rfl rfl (rfl) rfl rfl ?_
 refine W.any (.pickT rfl rfl rfl) rfl rfl rfl ?_
 refine W.any (.move rfl) rfl rfl rfl ?_
 refine W.rdg (Any.rd (.move rfl) _) rfl rfl rfl (rfl) rfl rfl ?_
 refine W.efg rfl rfl rfl (rfl) rfl rfl ?_
 refine Ef.call go13 rfl rfl ((by have h := worth_led (s := s15) 2 p6_11; rw [e16] at h; exact h)) ?_
 rintro _ w6_16 ⟨rfl, h6_16⟩
 refine ⟨_, rfl, ?_⟩
 have L77 := L69.trans h6_16
 refine W.rdg (Any.rd (.dec (.eql rfl rfl) (show _ = true from by first | decide | rfl)) _) rfl rfl rfl (rfl) rfl rfl ?_
 refine W.any (.pickT rfl rfl rfl) rfl rfl rfl ?_
 refine W.any (.move rfl) rfl rfl rfl ?_
 refine W.rdg (Any.rd (.move rfl) _) rfl rfl rfl (rfl) rfl rfl ?_
 refine W.rdg (Any.rd (.buildP (legV (⟨3, 0, 1⟩ : Leg)) pl53 z53 rfl rfl) _) rfl rfl rfl (rfl) rfl rfl ?_
 refine W.rdg (Any.rd (.buildP (legV (⟨7, 0, 99⟩ : Leg)) pl53 z53 rfl rfl) _) rfl rfl rfl (rfl) rfl rfl ?_
 refine W.efg rfl rfl rfl (rfl) rfl rfl ?_
 refine Ef.buildSliceV (len := 2) [_, _] Tryz.underlying36 el53 rfl (by simp [Value.cells, legV_row.len]) rfl (by decide) (by decide) ?_
 intro g6_23 w6_23 hg6_23 b6_23 h6_23
 have L78 := L77.trans h6_23
 have b6_23 : Blk w6_23 g6_23 53 (([(⟨3, 0, 1⟩ : Leg), (⟨7, 0, 99⟩ : Leg)]).map legV).flatten.toArray := b6_23
 have o6_23 : OVec w6_23 w6_16.heap.size 53 legV 3 (some ⟨g6_23, 0, none⟩) 2 2 ([(⟨3, 0, 1⟩ : Leg), (⟨7, 0, 99⟩ : Leg)]) := b6_23.ovec hg6_23 legV_row rfl rfl (by decide)
 have f79 := (p6_11.le (h6_16.trans h6_23))
 refine W.efg rfl rfl rfl (rfl) rfl rfl ?_
 refine Ef.call go19 rfl rfl ((by have h := pay_led (s := s15) (cg := 2) f79 o6_23.vec (by omega) (fun q h0 h1 h2 => (show ∀ g, rowOf (some ⟨g6_23, 0, none⟩) 2 = some g → ¬ F6_11 g from (fun g hg hF => by have := p6_11.lt hF; have := h6_16.size; have := (o6_23.row hg).1; omega)) q (rowOf_of h0 (by have := o6_23.cap; omega))); rw [e17] at h; exact h)) ?_
 rintro _ w6_24 ⟨F6_24, rfl, p6_24, g6_24, h6_24⟩
 refine ⟨_, rfl, ?_⟩
 have L80 := L78.chP_then h6_24 (fun i hi => Nat.le_trans L1.size (f79.old hi))
 have f81 := (zq73.le (h6_16.trans h6_23))
 have f82 := (zq74.le (h6_16.trans h6_23))
 have f83 := (zq75.le (h6_16.trans h6_23))
 have f84 := (zq76.le (h6_16.trans h6_23))
 have zq85n := (show ∀ g, rowOf (some ⟨g1_0, 0, none⟩) 3 = some g → ¬ F6_11 g from zq73g)
 have zq85 := f81.chP h6_24 zq85n
 have zq85g : ∀ g, rowOf (some ⟨g1_0, 0, none⟩) 3 = some g → ¬ F6_24 g := fun g hg hF => (g6_24 _ hF).elim (zq85n g hg) (fun hz => by have := (f81.row hg).2; omega)
 have zq86n := (show ∀ g, rowOf (some ⟨g2_7, 0, none⟩) 2 = some g → ¬ F6_11 g from zq74g)
 have zq86 := f82.chP h6_24 zq86n
 have zq86g : ∀ g, rowOf (some ⟨g2_7, 0, none⟩) 2 = some g → ¬ F6_24 g := fun g hg hF => (g6_24 _ hF).elim (zq86n g hg) (fun hz => by have := (f82.row hg).2; omega)
 have zq87n := (show ∀ g, rowOf (some ⟨g2_12, 0, none⟩) 1 = some g → ¬ F6_11 g from zq75g)
 have zq87 := f83.chP h6_24 zq87n
 have zq87g : ∀ g, rowOf (some ⟨g2_12, 0, none⟩) 1 = some g → ¬ F6_24 g := fun g hg hF => (g6_24 _ hF).elim (zq87n g hg) (fun hz => by have := (f83.row hg).2; omega)
 have zq88n := (show ∀ g, rowOf (some ⟨g6_10, 0, none⟩) 2 = some g → ¬ F6_11 g from zq76g)
 have zq88 := f84.chP h6_24 zq88n
 have zq88g : ∀ g, rowOf (some ⟨g6_10, 0, none⟩) 2 = some g → ¬ F6_24 g := fun g hg hF => (g6_24 _ hF).elim (zq88n g hg) (fun hz => by have := (f84.row hg).2; omega)
 have zq89n := (show ∀ g, rowOf (some ⟨g6_23, 0, none⟩) 2 = some g → ¬ F6_11 g from (fun g hg hF => by have := p6_11.lt hF; have := h6_16.size; have := (o6_23.row hg).1; omega))
 have zq89 := o6_23.chP h6_24 zq89n
 have zq89g : ∀ g, rowOf (some ⟨g6_23, 0, none⟩) 2 = some g → ¬ F6_24 g := fun g hg hF => (g6_24 _ hF).elim (zq89n g hg) (fun hz => by have := (o6_23.row hg).2; omega)
 refine W.rdg (Any.rd (.dec (.eql rfl rfl) (show _ = true from by first | decide | rfl)) _) rfl rfl rfl (rfl) rfl rfl ?_
 refine W.any (.pickT rfl rfl rfl) rfl rfl rfl ?_
 refine W.any (.move rfl) rfl rfl rfl ?_
 refine W.rdg (Any.rd (.move rfl) _) rfl rfl rfl (rfl) rfl rfl ?_
 refine W.efg rfl rfl rfl (rfl) rfl rfl ?_
 refine Ef.call go13 rfl rfl ((by have h := worth_led (s := s15) 0 p6_24; rw [e18] at h; exact h)) ?_
 rintro _ w6_29 ⟨rfl, h6_29⟩
 refine ⟨_, rfl, ?_⟩
 have L90 := L80.trans h6_29
 refine W.rdg (Any.rd (.dec (.eql rfl rfl) (show _ = true from by first | decide | rfl)) _) rfl rfl rfl (rfl) rfl rfl ?_
 refine W.any (.pickT rfl rfl rfl) rfl rfl rfl ?_
 refine W.any (.assign rfl) rfl rfl rfl ?_
 refine W.nil (E.thenN (WC.seq (WC.region ?_)))
 refine W.any (.move rfl) rfl rfl rfl ?_
 refine W.ef rfl rfl rfl ?_
 refine Ef.buildSliceV (len := 2) [_, _] Tryz.underlying22 el3 rfl (by simp [Value.cells]) rfl (by decide) (by decide) ?_
 intro g7_1 w7_1 hg7_1 b7_1 h7_1
 have L91 := L90.trans h7_1
 have b7_1 : Blk w7_1 g7_1 3 (([3, 7]).map iv).flatten.toArray := b7_1
 have o7_1 : OVec w7_1 w6_29.heap.size 3 iv 1 (some ⟨g7_1, 0, none⟩) 2 2 ([3, 7]) := b7_1.ovec hg7_1 iv_row rfl rfl (by decide)
 refine W.any (.buildA (cells := (pairV (⟨0, 2⟩ : Pair)).toArray) Tryz.underlying35 sz3 z35 rfl rfl) rfl rfl rfl ?_
 refine W.any (.buildA (cells := (pairV (⟨8, 21⟩ : Pair)).toArray) Tryz.underlying35 sz3 z35 rfl rfl) rfl rfl rfl ?_
 refine W.any (.buildP (seatV (⟨3, 0, 2, 8, 21⟩ : Seat)) pl44 z44 rfl rfl) rfl rfl rfl ?_
 refine W.any (.buildA (cells := (pairV (⟨1, 0⟩ : Pair)).toArray) Tryz.underlying35 sz3 z35 rfl rfl) rfl rfl rfl ?_
 refine W.any (.buildA (cells := (pairV (⟨70, 0⟩ : Pair)).toArray) Tryz.underlying35 sz3 z35 rfl rfl) rfl rfl rfl ?_
 refine W.any (.buildP (seatV (⟨9, 1, 0, 70, 0⟩ : Seat)) pl44 z44 rfl rfl) rfl rfl rfl ?_
 refine W.ef rfl rfl rfl ?_
 refine Ef.buildSliceV (len := 2) [_, _] Tryz.underlying37 el44 rfl (by simp [Value.cells, seatV_row.len]) rfl (by decide) (by decide) ?_
 intro g7_8 w7_8 hg7_8 b7_8 h7_8
 have L92 := L91.trans h7_8
 have b7_8 : Blk w7_8 g7_8 44 (([(⟨3, 0, 2, 8, 21⟩ : Seat), (⟨9, 1, 0, 70, 0⟩ : Seat)]).map seatV).flatten.toArray := b7_8
 have o7_8 : OVec w7_8 w7_1.heap.size 44 seatV 5 (some ⟨g7_8, 0, none⟩) 2 2 ([(⟨3, 0, 2, 8, 21⟩ : Seat), (⟨9, 1, 0, 70, 0⟩ : Seat)]) := b7_8.ovec hg7_8 seatV_row rfl rfl (by decide)
 refine W.ef rfl rfl rfl ?_
 refine Ef.buildSliceV (len := 3) [_, _, _] Tryz.underlying22 el3 rfl (by simp [Value.cells]) rfl (by decide) (by decide) ?_
 intro g7_9 w7_9 hg7_9 b7_9 h7_9
 have L93 := L92.trans h7_9
 have b7_9 : Blk w7_9 g7_9 3 (([0, 1, 0]).map iv).flatten.toArray := b7_9
 have o7_9 : OVec w7_9 w7_8.heap.size 3 iv 1 (some ⟨g7_9, 0, none⟩) 3 3 ([0, 1, 0]) := b7_9.ovec hg7_9 iv_row rfl rfl (by decide)
 have f94 := (p6_24.le (h6_29.trans (h7_1.trans (h7_8.trans h7_9))))
 have f95 := (o7_1.le (h7_8.trans h7_9))
 have f96 := (o7_8.le h7_9)
 refine W.ef rfl rfl rfl ?_
 refine Ef.call go20 rfl rfl ((by have h := cut_led (s := s15) (co := 2) (cS := 2) (cf := 3) f94 f95.vec f96.vec o7_9.vec (by omega) (by omega) (by omega) (fun q h0 h1 h2 => (show ∀ g, rowOf (some ⟨g7_1, 0, none⟩) 2 = some g → ¬ F6_24 g from (fun g hg hF => by have := p6_24.lt hF; have := h6_29.size; have := (f95.row hg).1; omega)) q (rowOf_of h0 (by have := f95.cap; omega))) (fun q h0 h1 h2 => (show ∀ g, rowOf (some ⟨g7_8, 0, none⟩) 2 = some g → ¬ F6_24 g from (fun g hg hF => by have := p6_24.lt hF; have := h6_29.size; have := h7_1.size; have := (f96.row hg).1; omega)) q (rowOf_of h0 (by have := f96.cap; omega))) (fun q h0 h1 h2 => (show ∀ g, rowOf (some ⟨g7_9, 0, none⟩) 3 = some g → ¬ F6_24 g from (fun g hg hF => by have := p6_24.lt hF; have := h6_29.size; have := h7_1.size; have := h7_8.size; have := (o7_9.row hg).1; omega)) q (rowOf_of h0 (by have := o7_9.cap; omega))); rw [e19] at h; exact h)) ?_
 rintro _ w7_10 ⟨F7_10, rfl, p7_10, g7_10, h7_10⟩
 refine ⟨_, rfl, ?_⟩
 have L97 := L93.chP_then h7_10 (fun i hi => Nat.le_trans L1.size (f94.old hi))
 have f98 := (zq85.le (h6_29.trans (h7_1.trans (h7_8.trans h7_9))))
 have f99 := (zq86.le (h6_29.trans (h7_1.trans (h7_8.trans h7_9))))
 have f100 := (zq87.le (h6_29.trans (h7_1.trans (h7_8.trans h7_9))))
 have f101 := (zq88.le (h6_29.trans (h7_1.trans (h7_8.trans h7_9))))
 have f102 := (zq89.le (h6_29.trans (h7_1.trans (h7_8.trans h7_9))))
 have zq103n := (show ∀ g, rowOf (some ⟨g1_0, 0, none⟩) 3 = some g → ¬ F6_24 g from zq85g)
 have zq103 := f98.chP h7_10 zq103n
 have zq103g : ∀ g, rowOf (some ⟨g1_0, 0, none⟩) 3 = some g → ¬ F7_10 g := fun g hg hF => (g7_10 _ hF).elim (zq103n g hg) (fun hz => by have := (f98.row hg).2; omega)
 have zq104n := (show ∀ g, rowOf (some ⟨g2_7, 0, none⟩) 2 = some g → ¬ F6_24 g from zq86g)
 have zq104 := f99.chP h7_10 zq104n
 have zq104g : ∀ g, rowOf (some ⟨g2_7, 0, none⟩) 2 = some g → ¬ F7_10 g := fun g hg hF => (g7_10 _ hF).elim (zq104n g hg) (fun hz => by have := (f99.row hg).2; omega)
 have zq105n := (show ∀ g, rowOf (some ⟨g2_12, 0, none⟩) 1 = some g → ¬ F6_24 g from zq87g)
 have zq105 := f100.chP h7_10 zq105n
 have zq105g : ∀ g, rowOf (some ⟨g2_12, 0, none⟩) 1 = some g → ¬ F7_10 g := fun g hg hF => (g7_10 _ hF).elim (zq105n g hg) (fun hz => by have := (f100.row hg).2; omega)
 have zq106n := (show ∀ g, rowOf (some ⟨g6_10, 0, none⟩) 2 = some g → ¬ F6_24 g from zq88g)
 have zq106 := f101.chP h7_10 zq106n
 have zq106g : ∀ g, rowOf (some ⟨g6_10, 0, none⟩) 2 = some g → ¬ F7_10 g := fun g hg hF => (g7_10 _ hF).elim (zq106n g hg) (fun hz => by have := (f101.row hg).2; omega)
 have zq107n := (show ∀ g, rowOf (some ⟨g6_23, 0, none⟩) 2 = some g → ¬ F6_24 g from zq89g)
 have zq107 := f102.chP h7_10 zq107n
 have zq107g : ∀ g, rowOf (some ⟨g6_23, 0, none⟩) 2 = some g → ¬ F7_10 g := fun g hg hF => (g7_10 _ hF).elim (zq107n g hg) (fun hz => by have := (f102.row hg).2; omega)
 have zq108n := (show ∀ g, rowOf (some ⟨g7_1, 0, none⟩) 2 = some g → ¬ F6_24 g from (fun g hg hF => by have := p6_24.lt hF; have := h6_29.size; have := (f95.row hg).1; omega))
 have zq108 := f95.chP h7_10 zq108n
 have zq108g : ∀ g, rowOf (some ⟨g7_1, 0, none⟩) 2 = some g → ¬ F7_10 g := fun g hg hF => (g7_10 _ hF).elim (zq108n g hg) (fun hz => by have := (f95.row hg).2; omega)
 have zq109n := (show ∀ g, rowOf (some ⟨g7_8, 0, none⟩) 2 = some g → ¬ F6_24 g from (fun g hg hF => by have := p6_24.lt hF; have := h6_29.size; have := h7_1.size; have := (f96.row hg).1; omega))
 have zq109 := f96.chP h7_10 zq109n
 have zq109g : ∀ g, rowOf (some ⟨g7_8, 0, none⟩) 2 = some g → ¬ F7_10 g := fun g hg hF => (g7_10 _ hF).elim (zq109n g hg) (fun hz => by have := (f96.row hg).2; omega)
 have zq110n := (show ∀ g, rowOf (some ⟨g7_9, 0, none⟩) 3 = some g → ¬ F6_24 g from (fun g hg hF => by have := p6_24.lt hF; have := h6_29.size; have := h7_1.size; have := h7_8.size; have := (o7_9.row hg).1; omega))
 have zq110 := o7_9.chP h7_10 zq110n
 have zq110g : ∀ g, rowOf (some ⟨g7_9, 0, none⟩) 3 = some g → ¬ F7_10 g := fun g hg hF => (g7_10 _ hF).elim (zq110n g hg) (fun hz => by have := (o7_9.row hg).2; omega)
 refine W.any (.dec (.eql rfl rfl) (show _ = true from by first | decide | rfl)) rfl rfl rfl ?_
 refine W.any (.move rfl) rfl rfl rfl ?_
 refine W.rdg (Any.rd (.move rfl) _) rfl rfl rfl (rfl) rfl rfl ?_
 refine W.rdg (Any.rd (.buildA (cells := (pairV (⟨(-20), 30⟩ : Pair)).toArray) Tryz.underlying35 sz3 z35 rfl rfl) _) rfl rfl rfl (rfl) rfl rfl ?_
 refine W.rdg (Any.rd (.buildA (cells := (pairV (⟨2, 0⟩ : Pair)).toArray) Tryz.underlying35 sz3 z35 rfl rfl) _) rfl rfl rfl (rfl) rfl rfl ?_
 refine W.efg rfl rfl rfl (rfl) rfl rfl ?_
 refine Ef.call go21 rfl rfl ((by have h := splice_led (s := s19) 9 (⟨(-20), 30⟩ : Pair) (⟨2, 0⟩ : Pair) (by intro k hk; have : k = 0 ∨ k = 1 := (by omega); rcases this with rfl | rfl <;> simp [Pair.ix]) p7_10; rw [e20] at h; exact h)) ?_
 rintro _ w7_16 ⟨F7_16, rfl, p7_16, g7_16, h7_16⟩
 refine ⟨_, rfl, ?_⟩
 have L111 := L97.chP_then h7_16 (fun i hi => Nat.le_trans L1.size (p7_10.old hi))
 have zq112n := (show ∀ g, rowOf (some ⟨g1_0, 0, none⟩) 3 = some g → ¬ F7_10 g from zq103g)
 have zq112 := zq103.chP h7_16 zq112n
 have zq112g : ∀ g, rowOf (some ⟨g1_0, 0, none⟩) 3 = some g → ¬ F7_16 g := fun g hg hF => (g7_16 _ hF).elim (zq112n g hg) (fun hz => by have := (zq103.row hg).2; omega)
 have zq113n := (show ∀ g, rowOf (some ⟨g2_7, 0, none⟩) 2 = some g → ¬ F7_10 g from zq104g)
 have zq113 := zq104.chP h7_16 zq113n
 have zq113g : ∀ g, rowOf (some ⟨g2_7, 0, none⟩) 2 = some g → ¬ F7_16 g := fun g hg hF => (g7_16 _ hF).elim (zq113n g hg) (fun hz => by have := (zq104.row hg).2; omega)
 have zq114n := (show ∀ g, rowOf (some ⟨g2_12, 0, none⟩) 1 = some g → ¬ F7_10 g from zq105g)
 have zq114 := zq105.chP h7_16 zq114n
 have zq114g : ∀ g, rowOf (some ⟨g2_12, 0, none⟩) 1 = some g → ¬ F7_16 g := fun g hg hF => (g7_16 _ hF).elim (zq114n g hg) (fun hz => by have := (zq105.row hg).2; omega)
 have zq115n := (show ∀ g, rowOf (some ⟨g6_10, 0, none⟩) 2 = some g → ¬ F7_10 g from zq106g)
 have zq115 := zq106.chP h7_16 zq115n
 have zq115g : ∀ g, rowOf (some ⟨g6_10, 0, none⟩) 2 = some g → ¬ F7_16 g := fun g hg hF => (g7_16 _ hF).elim (zq115n g hg) (fun hz => by have := (zq106.row hg).2; omega)
 have zq116n := (show ∀ g, rowOf (some ⟨g6_23, 0, none⟩) 2 = some g → ¬ F7_10 g from zq107g)
 have zq116 := zq107.chP h7_16 zq116n
 have zq116g : ∀ g, rowOf (some ⟨g6_23, 0, none⟩) 2 = some g → ¬ F7_16 g := fun g hg hF => (g7_16 _ hF).elim (zq116n g hg) (fun hz => by have := (zq107.row hg).2; omega)
 have zq117n := (show ∀ g, rowOf (some ⟨g7_1, 0, none⟩) 2 = some g → ¬ F7_10 g from zq108g)
 have zq117 := zq108.chP h7_16 zq117n
 have zq117g : ∀ g, rowOf (some ⟨g7_1, 0, none⟩) 2 = some g → ¬ F7_16 g := fun g hg hF => (g7_16 _ hF).elim (zq117n g hg) (fun hz => by have := (zq108.row hg).2; omega)
 have zq118n := (show ∀ g, rowOf (some ⟨g7_8, 0, none⟩) 2 = some g → ¬ F7_10 g from zq109g)
 have zq118 := zq109.chP h7_16 zq118n
 have zq118g : ∀ g, rowOf (some ⟨g7_8, 0, none⟩) 2 = some g → ¬ F7_16 g := fun g hg hF => (g7_16 _ hF).elim (zq118n g hg) (fun hz => by have := (zq109.row hg).2; omega)
 have zq119n := (show ∀ g, rowOf (some ⟨g7_9, 0, none⟩) 3 = some g → ¬ F7_10 g from zq110g)
 have zq119 := zq110.chP h7_16 zq119n
 have zq119g : ∀ g, rowOf (some ⟨g7_9, 0, none⟩) 3 = some g → ¬ F7_16 g := fun g hg hF => (g7_16 _ hF).elim (zq119n g hg) (fun hz => by have := (zq110.row hg).2; omega)
 refine W.rdg (Any.rd (.dec (.eql rfl rfl) (show _ = true from by first | decide | rfl)) _) rfl rfl rfl (rfl) rfl rfl ?_
 refine W.any (.pickT rfl rfl rfl) rfl rfl rfl ?_
 refine W.any (.move rfl) rfl rfl rfl ?_
 refine W.rdg (Any.rd (.move rfl) _) rfl rfl rfl (rfl) rfl rfl ?_
 refine W.efg rfl rfl rfl (rfl) rfl rfl ?_
 refine Ef.call go12 rfl rfl ((by have h := own_led (s := s20) 1 p7_16; rw [e21] at h; exact h)) ?_
 rintro _ w7_21 ⟨rfl, h7_21⟩
 refine ⟨_, rfl, ?_⟩
 have L120 := L111.trans h7_21
 refine W.rdg (Any.rd (.dec (.eql rfl rfl) (show _ = true from by first | decide | rfl)) _) rfl rfl rfl (rfl) rfl rfl ?_
 refine W.any (.pickT rfl rfl rfl) rfl rfl rfl ?_
 refine W.any (.move rfl) rfl rfl rfl ?_
 refine W.rdg (Any.rd (.move rfl) _) rfl rfl rfl (rfl) rfl rfl ?_
 have f121 := (p7_16.le h7_21)
 refine W.efg rfl rfl rfl (rfl) rfl rfl ?_
 refine Ef.call go12 rfl rfl ((by have h := own_led (s := s20) 0 f121; rw [e22] at h; exact h)) ?_
 rintro _ w7_26 ⟨rfl, h7_26⟩
 refine ⟨_, rfl, ?_⟩
 have L122 := L120.trans h7_26
 refine W.rdg (Any.rd (.dec (.eql rfl rfl) (show _ = true from by first | decide | rfl)) _) rfl rfl rfl (rfl) rfl rfl ?_
 refine W.any (.pickT rfl rfl rfl) rfl rfl rfl ?_
 refine W.any (.assign rfl) rfl rfl rfl ?_
 refine W.nil (E.thenN (WC.seq (WC.region ?_)))
 refine W.any (.move rfl) rfl rfl rfl ?_
 have f123 := (f121.le h7_26)
 refine W.ef rfl rfl rfl ?_
 refine Ef.call go22 rfl rfl ((by have h := seat_led (s := s20) 9 f123; rw [f1, f2] at h; exact h)) ?_
 rintro _ w8_1 ⟨rfl, h8_1⟩
 refine ⟨_, rfl, ?_⟩
 have L124 := L122.trans h8_1
 refine W.any (.move rfl) rfl rfl rfl ?_
 refine W.any (.extract (v := .agg (seatV (⟨9, 1, 0, 50, 30⟩ : Seat)).toArray) rfl rfl) rfl rfl rfl ?_
 refine W.any (.extract (v := .bool true) rfl rfl) rfl rfl rfl ?_
 refine W.ef rfl rfl rfl ?_
 refine Ef.allocA z44 ?_
 intro g8_5 w8_5 hg8_5 b8_5 h8_5
 have L125 := L124.trans h8_5
 have b8_5 : Blk w8_5 g8_5 44 (seatV noSeat).toArray := b8_5
 refine W.ef0 rfl rfl ?_
 refine Ef.storeAll sz44 (by rfl) rfl rfl b8_5 (by simp only [List.size_toArray, seatV_row.len]) (seatV_row.one (⟨9, 1, 0, 50, 30⟩ : Seat)) ?_
 intro w8_6 b8_6 h8_6
 have b8_6 : Blk w8_6 g8_5 44 (seatV (⟨9, 1, 0, 50, 30⟩ : Seat)).toArray := b8_6
 have L126 : Le w w8_6 := L125.then_ h8_6 (fun q hq => by cases hq; exact Nat.le_trans L124.size hg8_5)
 refine W.any (.assign rfl) rfl rfl rfl ?_
 refine W.nil (E.thenN (WC.seq (WC.region ?_)))
 refine W.any (.move rfl) rfl rfl rfl ?_
 refine W.any (.move rfl) rfl rfl rfl ?_
 refine W.rdg (Any.rd (.move rfl) _) rfl rfl rfl (rfl) rfl rfl ?_
 refine W.any (.pickT rfl rfl rfl) rfl rfl rfl ?_
 refine W.any (.move rfl) rfl rfl rfl ?_
 refine W.rdg (Any.rd (.move rfl) _) rfl rfl rfl (rfl) rfl rfl ?_
 refine W.any (.pickT rfl rfl rfl) rfl rfl rfl ?_
 refine W.any (.move rfl) rfl rfl rfl ?_
 refine W.rdg (Any.rd (.move rfl) _) rfl rfl rfl (rfl) rfl rfl ?_
 refine W.any (.pickT rfl rfl rfl) rfl rfl rfl ?_
 refine W.any (.move rfl) rfl rfl rfl ?_
 refine W.rdg (Any.rd (.move rfl) _) rfl rfl rfl (rfl) rfl rfl ?_
 refine W.any (.pickT rfl rfl rfl) rfl rfl rfl ?_
 refine W.any (.move rfl) rfl rfl rfl ?_
 refine W.rdg (Any.rd (.field0 fa44_2 rfl) _) rfl rfl rfl (rfl) rfl rfl ?_
 refine W.rdg (.bpart [.int .i64 ((⟨9, 1, 0, 50, 30⟩ : Seat).h0), .int .i64 ((⟨9, 1, 0, 50, 30⟩ : Seat).h1)] ag35 rfl (by decide) rfl b8_6 rfl) rfl rfl rfl (rfl) rfl rfl ?_
 refine W.rdg (Any.rd (.buildA (cells := (pairV (⟨50, 30⟩ : Pair)).toArray) Tryz.underlying35 sz3 z35 rfl rfl) _) rfl rfl rfl (rfl) rfl rfl ?_
 refine W.rdg (Any.rd (.dec (.eqA eg35 rfl rfl (eqv_pairV (d := 9998) (⟨(⟨9, 1, 0, 50, 30⟩ : Seat).h0, (⟨9, 1, 0, 50, 30⟩ : Seat).h1⟩ : Pair) (⟨50, 30⟩ : Pair))) (show _ = true from by decide)) _) rfl rfl rfl (rfl) rfl rfl ?_
 refine W.any (.pickT rfl rfl rfl) rfl rfl rfl ?_
 refine W.any (.move rfl) rfl rfl rfl ?_
 refine W.rdg (Any.rd (.move rfl) _) rfl rfl rfl (rfl) rfl rfl ?_
 have f127 := ((f123.le (h8_1.trans h8_5)).ch h8_6 (fun q hqq hF => by cases hqq; have := f123.lt hF; have := h8_1.size; have := hg8_5; omega))
 refine W.efg rfl rfl rfl (rfl) rfl rfl ?_
 refine Ef.call go23 rfl rfl ((by have h := seats_led (s := s20) f127; rw [f3] at h; exact h)) ?_
 rintro _ w9_21 ⟨A9_21, c9_21, rfl, o9_21, h9_21⟩
 refine ⟨_, rfl, ?_⟩
 have L128 := L126.trans h9_21
 refine W.rdg (.len Tryz.underlying37 rfl) rfl rfl rfl (rfl) rfl rfl ?_
 refine W.rdg (Any.rd (.dec (.eql rfl rfl) (show _ = true from by first | decide | rfl)) _) rfl rfl rfl (rfl) rfl rfl ?_
 refine W.any (.pickT rfl rfl rfl) rfl rfl rfl ?_
 refine W.any (.move rfl) rfl rfl rfl ?_
 refine W.rdg (Any.rd (.move rfl) _) rfl rfl rfl (rfl) rfl rfl ?_
 have f129 := (f127.le h9_21)
 refine W.efg rfl rfl rfl (rfl) rfl rfl ?_
 refine Ef.call go24 rfl rfl ((by have h := total_led (s := s20) f129; rw [f4] at h; exact h)) ?_
 rintro _ w9_27 ⟨rfl, h9_27⟩
 refine ⟨_, rfl, ?_⟩
 have L130 := L128.trans h9_27
 refine W.rdg (Any.rd (.move rfl) _) rfl rfl rfl (rfl) rfl rfl ?_
 have f131 := (f129.le h9_27)
 refine W.efg rfl rfl rfl (rfl) rfl rfl ?_
 refine Ef.call go25 rfl rfl ((by have h := lost_led (s := s20) f131; rw [f5] at h; exact h)) ?_
 rintro _ w9_29 ⟨rfl, h9_29⟩
 refine ⟨_, rfl, ?_⟩
 have L132 := L130.trans h9_29
 refine W.rdg (Any.rd (.add rfl rfl (by omega)) _) rfl rfl rfl (rfl) rfl rfl ?_
 refine W.rdg (Any.rd (.dec (.eql rfl rfl) (show _ = true from by decide)) _) rfl rfl rfl (rfl) rfl rfl ?_
 refine W.any (.pickT rfl rfl rfl) rfl rfl rfl ?_
 refine W.any (.move rfl) rfl rfl rfl ?_
 refine W.rdg (Any.rd (.move rfl) _) rfl rfl rfl (rfl) rfl rfl ?_
 have f133 := (f131.le h9_29)
 refine W.efg rfl rfl rfl (rfl) rfl rfl ?_
 refine Ef.call go25 rfl rfl ((by have h := lost_led (s := s20) f133; rw [f5] at h; exact h)) ?_
 rintro _ w9_35 ⟨rfl, h9_35⟩
 refine ⟨_, rfl, ?_⟩
 have L134 := L132.trans h9_35
 refine W.rdg (Any.rd (.dec (.eql rfl rfl) (show _ = true from by first | decide | rfl)) _) rfl rfl rfl (rfl) rfl rfl ?_
 refine W.any (.pickT rfl rfl rfl) rfl rfl rfl ?_
 refine W.any (.assign rfl) rfl rfl rfl ?_
 refine W.nil (E.thenN (WC.ret ?_))
 refine E.retG1 rfl rfl ?_
 exact ⟨rfl, L134⟩
end Go.Proofs.YtmgfgbplbemklaaGreat

