/- LedgerWhole: for every input the law answers true and leaves its arguments as they were. -/
import Derived.Test.YtnmcbdbpafhinaaLedgerWholeK
import Derived.OrdersHeld
import Derived.WalkKit
import Derived.Deep.AppendSrc
import Derived.Deep.MidRow
import Derived.Laws.OwnMore
import Derived.WalkSpells
import Derived.Lib.ConvBytes
import Derived.Lib.AppendZerosOnto
import Derived.Laws.StructEq
import Derived.Maps.RangeRun
import Derived.Laws.Pointers
import Derived.Test.YtnmcbdbpafhinaaProg
import Derived.KernelRfl
import Derived.Lib.Mul64
import Derived.Shelf.SlIterI.Nil
import Derived.Shelf.SortM.Plain
import Derived.Shelf.SortM.SortNone
import Derived.Ground.GgzProg
import Derived.Ground.SlgmProg
set_option linter.unusedSimpArgs false
set_option linter.unusedVariables false
set_option maxRecDepth 20000
namespace Go.Proofs
open Go.Shelf
def Try.keysA_ren : Go.Shelf.Ren := ⟨fun | 7 => 52 | 10 => 86 | n => n, fun | 23 => 101 | 26 => 3 | 3 => 33 | 28 => 117 | 0 => 0 | 27 => 116 | 33 => 106 | 4 => 4 | n => n, fun | n => n⟩
theorem Try.keysA : Go.Proofs.SlLaysZI.n7 Try.prog Try.keysA_ren := {
  mixed := by kernel_rfl
  f7 := ⟨Try.f52.name, by decide, Try.func52.trans (congrArg some (by kernel_rfl))⟩
  f10 := ⟨Try.f86.name, by decide, Try.func86.trans (congrArg some (by kernel_rfl))⟩
  t0 := Try.underlying0
  a0 := Try.isAgg0
  z0 := Try.sizeOf0
  v0 := Try.zeroValue0
  t4 := Try.underlying4
  a4 := Try.isAgg4
  z4 := Try.sizeOf4
  v4 := Try.zeroValue4
  t23 := Try.underlying101
  a23 := Try.isAgg101
  z23 := Try.sizeOf101
  v23 := Try.zeroValue101
  t26 := Try.underlying3
  a26 := Try.isAgg3
  z26 := Try.sizeOf3
  v26 := Try.zeroValue3
  t27 := Try.underlying116
  a27 := Try.isAgg116
  z27 := Try.sizeOf116
  v27 := Try.zeroValue116
  t28 := Try.underlying117
  a28 := Try.isAgg117
  z28 := Try.sizeOf117
  v28 := Try.zeroValue117
  t33 := Try.underlying106
  a33 := Try.isAgg106
  z33 := Try.sizeOf106
  v33 := Try.zeroValue106 }
def Try.sortedA_ren : Go.Shelf.Ren := ⟨fun | 6 => 51 | 8 => 84 | 9 => 85 | 11 => 106 | 13 => 90 | 12 => 107 | 23 => 117 | 24 => 118 | 14 => 133 | 15 => 134 | 16 => 135 | 17 => 136 | 18 => 137 | 19 => 138 | 20 => 139 | 21 => 140 | 22 => 141 | 25 => 155 | 26 => 143 | 27 => 144 | 28 => 156 | 29 => 157 | 30 => 91 | 31 => 160 | n => n, fun | 26 => 3 | 28 => 117 | 24 => 41 | 0 => 0 | 3 => 3 | 37 => 158 | 48 => 182 | 50 => 47 | 4 => 4 | 40 => 176 | 39 => 175 | 45 => 95 | 5 => 5 | 9 => 9 | 51 => 205 | 55 => 209 | 57 => 222 | 58 => 223 | 33 => 106 | n => n, fun | n => n⟩
theorem Try.sortedA : Go.Proofs.SlLaysZI.n6 Try.prog Try.sortedA_ren := {
  mixed := by kernel_rfl
  f6 := ⟨Try.f51.name, by decide, Try.func51.trans (congrArg some (by kernel_rfl))⟩
  f8 := ⟨Try.f84.name, by decide, Try.func84.trans (congrArg some (by kernel_rfl))⟩
  f11 := ⟨Try.f106.name, by decide, Try.func106.trans (congrArg some (by kernel_rfl))⟩
  t0 := Try.underlying0
  a0 := Try.isAgg0
  z0 := Try.sizeOf0
  v0 := Try.zeroValue0
  t24 := Try.underlying41
  a24 := Try.isAgg41
  z24 := Try.sizeOf41
  v24 := Try.zeroValue41
  t26 := Try.underlying3
  a26 := Try.isAgg3
  z26 := Try.sizeOf3
  v26 := Try.zeroValue3
  t28 := Try.underlying117
  a28 := Try.isAgg117
  z28 := Try.sizeOf117
  v28 := Try.zeroValue117
  i26 := by kernel_rfl }
def Try.sortA_ren : Go.Shelf.Ren := ⟨fun | 5 => 85 | 8 => 90 | 7 => 107 | 19 => 117 | 20 => 118 | 10 => 133 | 11 => 134 | 12 => 135 | 13 => 136 | 14 => 137 | 15 => 138 | 16 => 139 | 17 => 140 | 18 => 141 | 30 => 155 | 31 => 143 | 32 => 144 | 33 => 156 | 34 => 157 | 35 => 91 | 40 => 160 | n => n, fun | 23 => 41 | 25 => 3 | 3 => 3 | 32 => 158 | 22 => 41 | 0 => 0 | 44 => 182 | 46 => 47 | 4 => 4 | 36 => 176 | 35 => 175 | 41 => 95 | 5 => 5 | 9 => 9 | 53 => 205 | 57 => 209 | 63 => 222 | 64 => 223 | n => n, fun | n => n⟩
theorem Try.sortA : Go.Proofs.SlLaysM.n5 Try.prog Try.sortA_ren := {
  mixed := by kernel_rfl
  f5 := ⟨Try.f85.name, by decide, Try.func85.trans (congrArg some (by kernel_rfl))⟩
  f7 := ⟨Try.f107.name, by decide, Try.func107.trans (congrArg some (by kernel_rfl))⟩
  f8 := Try.func90.trans (congrArg some (by kernel_rfl))
  f10 := ⟨Try.f133.name, by decide, Try.func133.trans (congrArg some (by kernel_rfl))⟩
  f11 := ⟨Try.f134.name, by decide, Try.func134.trans (congrArg some (by kernel_rfl))⟩
  f12 := ⟨Try.f135.name, by decide, Try.func135.trans (congrArg some (by kernel_rfl))⟩
  f13 := ⟨Try.f136.name, by decide, Try.func136.trans (congrArg some (by kernel_rfl))⟩
  f14 := ⟨Try.f137.name, by decide, Try.func137.trans (congrArg some (by kernel_rfl))⟩
  f15 := ⟨Try.f138.name, by decide, Try.func138.trans (congrArg some (by kernel_rfl))⟩
  f16 := ⟨Try.f139.name, by decide, Try.func139.trans (congrArg some (by kernel_rfl))⟩
  f17 := ⟨Try.f140.name, by decide, Try.func140.trans (congrArg some (by kernel_rfl))⟩
  f18 := ⟨Try.f141.name, by decide, Try.func141.trans (congrArg some (by kernel_rfl))⟩
  f19 := Try.func117.trans (congrArg some (by kernel_rfl))
  f20 := Try.func118.trans (congrArg some (by kernel_rfl))
  f30 := ⟨Try.f155.name, by decide, Try.func155.trans (congrArg some (by kernel_rfl))⟩
  f31 := Try.func143.trans (congrArg some (by kernel_rfl))
  f32 := Try.func144.trans (congrArg some (by kernel_rfl))
  f33 := ⟨Try.f156.name, by decide, Try.func156.trans (congrArg some (by kernel_rfl))⟩
  f34 := ⟨Try.f157.name, by decide, Try.func157.trans (congrArg some (by kernel_rfl))⟩
  f35 := ⟨Try.f91.name, by decide, Try.func91.trans (congrArg some (by kernel_rfl))⟩
  f40 := ⟨Try.f160.name, by decide, Try.func160.trans (congrArg some (by kernel_rfl))⟩
  t0 := Try.underlying0
  a0 := Try.isAgg0
  z0 := Try.sizeOf0
  v0 := Try.zeroValue0
  t3 := Try.underlying3
  a3 := Try.isAgg3
  z3 := Try.sizeOf3
  v3 := Try.zeroValue3
  t4 := Try.underlying4
  a4 := Try.isAgg4
  z4 := Try.sizeOf4
  v4 := Try.zeroValue4
  t5 := Try.underlying5
  a5 := Try.isAgg5
  z5 := Try.sizeOf5
  v5 := Try.zeroValue5
  t9 := Try.underlying9
  a9 := Try.isAgg9
  z9 := Try.sizeOf9
  v9 := Try.zeroValue9
  t22 := Try.underlying41
  a22 := Try.isAgg41
  z22 := Try.sizeOf41
  v22 := Try.zeroValue41
  t23 := Try.underlying41
  a23 := Try.isAgg41
  z23 := Try.sizeOf41
  v23 := Try.zeroValue41
  t25 := Try.underlying3
  a25 := Try.isAgg3
  z25 := Try.sizeOf3
  v25 := Try.zeroValue3
  t32 := Try.underlying158
  a32 := Try.isAgg158
  z32 := Try.sizeOf158
  v32 := Try.zeroValue158
  t35 := Try.underlying175
  a35 := Try.isAgg175
  z35 := Try.sizeOf175
  v35 := Try.zeroValue175
  t36 := Try.underlying176
  a36 := Try.isAgg176
  z36 := Try.sizeOf176
  v36 := Try.zeroValue176
  t41 := Try.underlying95
  a41 := Try.isAgg95
  z41 := Try.sizeOf95
  v41 := Try.zeroValue95
  t44 := Try.underlying182
  a44 := Try.isAgg182
  z44 := Try.sizeOf182
  v44 := Try.zeroValue182
  t46 := Try.underlying47
  a46 := Try.isAgg47
  z46 := Try.sizeOf47
  v46 := Try.zeroValue47
  t53 := Try.underlying205
  a53 := Try.isAgg205
  z53 := Try.sizeOf205
  v53 := Try.zeroValue205
  t57 := Try.underlying209
  a57 := Try.isAgg209
  z57 := Try.sizeOf209
  v57 := Try.zeroValue209
  t63 := Try.underlying222
  a63 := Try.isAgg222
  z63 := Try.sizeOf222
  v63 := Try.zeroValue222
  t64 := Try.underlying223
  a64 := Try.isAgg223
  z64 := Try.sizeOf223
  v64 := Try.zeroValue223 }
end Go.Proofs
namespace Go.Proofs.Ytnmcbdbpafhinaa
open Go Go.Sx Go.Num Go.Gsp Go.Lsp Go.RowKit Go.Maps Go.Sort Go.Shelf
theorem sortsA (m : Nat) : AnyZI.SortsIn Try.prog Try.sortedA_ren Fence.wide m :=
  ⟨fun blk off cap ss W hH hblk hsz => callsIn_wide.2 (AnyM.slices_Sort_int Try.sortA blk off cap ss W hH hblk hsz),
   fun p cap W => callsIn_wide.2 (AnyM.slices_Sort_int_none Try.sortA p cap W)⟩
theorem keys_ok (ga : Nat) (w : World) : Calls Try.prog 52 #[.map (some ga)] w fun r w' => r = .returned (.func (.func 86) #[] #[.pointer (some ⟨w.heap.size, 0, none⟩)]) ∧ Blk w' w.heap.size 101 #[.map (some ga)] ∧ Le w w' := by
  have h := callsIn_wide.1 (AnyZI.keys_in Try.keysA Fence.wide 5 trivial rfl (some ga) w)
  refine Calls.mono h ?_
  rintro e w' ⟨rfl, rfl⟩
  exact ⟨rfl, Blk.new w _ _, (Below.refl _ w).alloc (Nat.le_refl _) _⟩
/-- Keys that a reader reads. -/
def inI (x : Int) : Prop := -9223372036854775808 ≤ x ∧ x ≤ 9223372036854775807
theorem inI_wf {x : Int} (h : inI x) : (Lit.int .i64 x).wf = true := by
  unfold inI at h
  have h1 : IntKind.i64.min = -9223372036854775808 := by decide
  have h2 : IntKind.i64.max = 9223372036854775807 := by decide
  simp only [Lit.wf, h1, h2, decide_eq_true_eq, Bool.and_eq_true]
  omega
abbrev noR : Value → Option (DataW Unit × List MemPlace) := fun _ => some (.nil, [])
def mapD (la : List (Nat × Int × Seat)) : DataW Unit := .map ((la.map fun x => (Lit.int .i64 x.2.1, (DataW.nil : DataW Unit))).foldr DataW.insert [])
theorem rd_key1 {x : Nat × Int × Seat} (h : inI x.2.1) : Go.WideElems.rd Try.prog 3 noR (entG ikf seatf x) = some (Lit.int .i64 x.2.1, .nil) := by
  have hk : keyOf Try.prog 3 (Value.int .i64 x.2.1) = some (Lit.int .i64 x.2.1) := by
    unfold keyOf
    rw [Try.underlying3]
    simp [mapKey, Try.underlying3, inI_wf h]
  unfold Go.WideElems.rd
  simp only [entG, ikf, hk]
  rfl
theorem mapOwn {ga ca : Nat} {la : List (Nat × Int × Seat)} {w : World} (hM : MapG w ikf seatf ga la ca) (hr : ∀ x ∈ la, inI x.2.1) (hl : la.length ≤ 1000000) : w.ownsMap Try.prog 3 noR ga la.length (mapD la) := by
  refine ⟨_, _, hM.1, ⟨by simp; unfold maxLen; omega, ⟨?_, ?_, ?_⟩, ?_⟩, by simp, ?_⟩
  · intro x hx
    simp only [List.mem_map] at hx
    obtain ⟨y, hy, rfl⟩ := hx
    exact hM.2.old y hy
  · have := hM.2.borns
    simpa [List.map_map, Function.comp_def, entG] using this
  · have h := hM.2.keys
    have e : (la.map (entG ikf seatf)).map (fun x => x.key) = (la.map fun x => x.2.1).map ikf := by simp [List.map_map, Function.comp_def, entG]
    simp only
    rw [e]
    exact List.Pairwise.map _ (fun a b hab he => hab (by simpa [ikf] using he)) h
  · intro x hx
    simp only [List.mem_map] at hx
    obtain ⟨y, hy, rfl⟩ := hx
    exact ⟨_, rd_key1 (hr y hy)⟩
  · unfold mapD
    congr 2
    simp only [List.map_map]
    apply List.map_congr_left
    intro x hx
    simp only [Function.comp, Go.WideElems.rg, rd_key1 (hr x hx)]
    rfl
theorem mapD_size (la : List (Nat × Int × Seat)) : Maps.size (mapD la) = la.length := by
  unfold mapD
  rw [Maps.size_eq, (Go.WideShapes.sorted_perm _).length_eq]
  simp
theorem mapD_keys (la : List (Nat × Int × Seat)) : (intKeys (mapD la)).Perm (la.map fun x => x.2.1) := by
  unfold mapD intKeys
  refine ((Go.WideShapes.sorted_perm _).map _).trans ?_
  rw [List.map_map]
  exact List.Perm.refl _
theorem sorted_ok {ga ca gk : Nat} {la : List (Nat × Int × Seat)} (w : World) (hB : Blk w gk 101 #[.map (some ga)]) (hM : MapG w ikf seatf ga la ca) (hr : ∀ x ∈ la, inI x.2.1) (hl : la.length ≤ 1000000) :
    Calls Try.prog 51 #[.func (.func 86) #[] #[.pointer (some ⟨gk, 0, none⟩)]] w fun r w' => ∃ (A : Option Addr) (c : Nat) (ns : List Int), r = .returned (.slice A la.length c) ∧ ns.Perm (la.map fun x => x.2.1) ∧ ns.Pairwise (· ≤ ·) ∧ OVec w' w.heap.size 3 iv 1 A la.length c ns ∧ Le w w' := by
  have hown := mapOwn hM hr hl
  have hseq : SeqGives Fence.wide 2 Try.prog 86 #[.pointer (some ⟨gk, 0, none⟩)] encZ (fun ss => ss.Perm (intKeys (mapD la))) (Maps.size (mapD la)) w :=
    AnyZI.keys_gives (ρ := Try.keysA_ren) { Try.keysA with } Fence.wide _ trivial rfl (by omega) gk ga la.length (mapD la) _ hB.lt (by unfold World.cell?; rw [show w.heap[gk]? = _ from hB]; rfl) hown
  have cS := AnyZI.sorted_in Try.sortedA Fence.wide 5 trivial trivial trivial trivial rfl (by omega) (sortsA _) (enters_of Try.func85 (by kernel_rfl) rfl) 86 #[.pointer (some ⟨gk, 0, none⟩)] trivial (enters_of Try.func86 (by kernel_rfl) rfl) _ _ (by rw [mapD_size]; unfold maxLen; omega) (by rw [mapD_size]; omega) _ hseq
  change CallsIn _ _ Try.prog 51 _ _ _ at cS
  refine Calls.mono (callsIn_wide.1 cS) ?_
  rintro e w' ⟨v, ss, rfl, hS, hrow, hnil, hb⟩
  have hp : ss.Perm (la.map fun x => x.2.1) := hS.trans (mapD_keys la)
  have hlen : ss.length = la.length := by rw [hp.length_eq, List.length_map]
  have hms : (ss.mergeSort (fun x y => decide (x ≤ y))).Perm (la.map fun x => x.2.1) := (List.mergeSort_perm _ _).trans hp
  have hpw : (ss.mergeSort (fun x y => decide (x ≤ y))).Pairwise (· ≤ ·) := by
    have := List.pairwise_mergeSort (le := fun x y : Int => decide (x ≤ y)) (by intro a b c; simp; omega) (by intro a b; simp; omega) ss
    exact this.imp (by intro a b h; simpa using h)
  obtain ⟨h1, h2⟩ := hrow
  rcases h2 with ⟨rfl, h0⟩ | ⟨g, cap, cur, rfl, hg, hc, hn, hm, hz, ht⟩
  · have e0 : la.length = 0 := by omega
    have hs0 : ss = [] := List.length_eq_zero_iff.1 h0
    subst hs0
    rw [e0]
    exact ⟨none, 0, [], rfl, by simpa using hms, List.Pairwise.nil, OVec.nil _ _ _ _ _ _, hb⟩
  · rw [hlen] at h1 hn ht ⊢
    exact ⟨some ⟨g, 0, none⟩, cap, _, rfl, hms, hpw, Own.ovec ⟨h1, .inr ⟨g, cur, rfl, hg, hc, hn, hm, hz, ht⟩⟩, hb⟩
end Go.Proofs.Ytnmcbdbpafhinaa

namespace Go.Proofs.Ytnmcbdbpafhinaa
open Go Go.Sx Go.Num Go.Gsp Go.Lsp
set_option maxRecDepth 20000
set_option linter.unusedSimpArgs false
set_option linter.unusedVariables false
def seatAt (ls : SM) (k : Int) : Seat := (getG k ls).getD noSeat
theorem seats_next {ls : SM} {ns : List Int} {k : Nat} (h : k < ns.length) : (ns.take k).map (seatAt ls) ++ [seatAt ls (ns.getD k 0)] = (ns.take (k + 1)).map (seatAt ls) := by
  rw [List.take_add_one, getS ns 0 h, List.map_append]
  rfl
theorem lseats_ok {gp gs gh c cs ck : Nat} {A : Option Addr} {own : List Int} {ls : SM} {lh : HM} {lost : Int} (w : World) (hL : LedL w gp gs gh A c cs ck own ls lh lost) (hr : ∀ x ∈ ls, inI x.2.1) (hl : ls.length ≤ 1000000) : Calls Try.prog 23 #[.pointer (some ⟨gp, 0, none⟩)] w fun r w' => ∃ (A' : Option Addr) (c' : Nat) (ns : List Int), r = .returned (.slice A' ls.length c') ∧ ns.Perm (ls.map fun x => x.2.1) ∧ ns.Pairwise (· ≤ ·) ∧ OVec w' w.heap.size 33 seatV 5 A' ls.length c' (ns.map (seatAt ls)) ∧ Le w w' := by
  refine enter Try.func23 rfl rfl ?_
  have L0 := Le.refl w
  refine WC.seq ?_
  refine WC.region ?_
  refine W.any (.assign rfl) rfl rfl rfl ?_
  refine W.nil ?_
  refine E.thenN ?_
  refine WC.seq ?_
  refine WC.region ?_
  refine W.any (.assign rfl) rfl rfl rfl ?_
  refine W.nil ?_
  refine E.thenN ?_
  refine WC.seq ?_
  refine WC.seq ?_
  refine WC.region ?_
  refine W.any (.move rfl) rfl rfl rfl ?_
  refine W.any (.nilCheck rfl) rfl rfl rfl ?_
  refine W.any (.field0 fa105_1 rfl) rfl rfl rfl ?_
  refine W.rd (.loadB (v := .map (some gs)) na101 rfl (hL.hp.le L0) rfl) rfl rfl rfl ?_
  refine W.ef rfl rfl rfl ?_
  refine Ef.call go52 rfl rfl (keys_ok gs w) ?_
  rintro _ w2_4 ⟨rfl, bk2_4, h2_4⟩
  refine ⟨_, rfl, ?_⟩
  have L1 := L0.trans h2_4
  refine W.ef rfl rfl rfl ?_
  refine Ef.call go51 rfl rfl (sorted_ok w2_4 bk2_4 (hL.hS.le L1) hr hl) ?_
  rintro _ w2_5 ⟨An2_5, cn2_5, ns2_5, rfl, hpm2_5, hpw2_5, hon2_5, h2_5⟩
  refine ⟨_, rfl, ?_⟩
  have L2 := L1.trans h2_5
  refine W.rd (.len Try.underlying41 rfl) rfl rfl rfl ?_
  refine W.any (.move rfl) rfl rfl rfl ?_
  refine W.nil ?_
  refine E.thenN ?_
  refine WC.block ?_
  refine WC.loop (ι := Nat × (Option Addr) × Nat) (fun ⟨k, Ab, cb⟩ => [(0, .pointer (some ⟨gp, 0, none⟩)), (3, .slice Ab k cb), (11, .slice An2_5 ls.length cn2_5), (12, .int .i64 (((ls.length : Nat) : Int))), (13, .int .i64 (((k : Nat) : Int)))]) (fun ⟨k, Ab, cb⟩ wl0 => (k ≤ ls.length) ∧ Le w wl0 ∧ w2_5.heap.size ≤ wl0.heap.size ∧ MapG wl0 ikf seatf gs ls cs ∧ MapG wl0 plf holdf gh lh ck ∧ OVec wl0 w2_5.heap.size 33 seatV 5 Ab k cb ((ns2_5.take k).map (seatAt ls)) ∧ OVec wl0 w2_4.heap.size 3 iv 1 An2_5 ls.length cn2_5 ns2_5) (fun ⟨k, Ab, cb⟩ => ls.length - k) (0, none, 0) ?_ ?_ ?_
  · exact .cons rfl (.cons rfl (.cons rfl (.cons rfl (.cons rfl (.nil _)))))
  · exact ⟨Nat.zero_le _, L2, Nat.le_refl _, (hL.hS.le L2), (hL.hH.le L2), (OVec.nil w2_5 w2_5.heap.size 33 seatV 5 none), hon2_5⟩
  · rintro ⟨k, Ab, cb⟩ wl0 ⟨hk, Ll0, sz0, f0_0, f0_1, f0_2, f0_3⟩
    have lb0_7 : w2_5.heap.size ≤ wl0.heap.size := by omega
    have lb0_6 : w2_4.heap.size ≤ wl0.heap.size := by have := h2_5.size; omega
    have hnl := hon2_5.1
    refine WC.seq ?_
    refine WC.region ?_
    refine W.any (.lss rfl rfl) rfl rfl rfl ?_
    refine W.nil ?_
    refine E.thenN ?_
    refine WC.seq ?_
    by_cases c0 : ((k : Nat) : Int) < ((ls.length : Nat) : Int)
    · refine WC.condY rfl (decide_eq_true c0) ?_
      refine WC.skip ?_
      refine E.thenN ?_
      refine WC.seq ?_
      refine WC.block ?_
      refine WC.seq ?_
      refine WC.region ?_
      refine W.any (.idxS (k) Try.underlying41 sz3 rfl rfl (hon2_5.vec.isSome iv_row (by omega)) (rfl) (by omega)) rfl rfl rfl ?_
      refine W.rd (.vone (v := .int .i64 ((ns2_5.getD k 0))) na3 rfl f0_3.vec iv_row (getS ns2_5 0 (by first | omega | (simp only [List.length_cons, List.length_nil]; omega))) rfl) rfl rfl rfl ?_
      refine W.any (.assign rfl) rfl rfl rfl ?_
      refine W.nil ?_
      refine E.thenN ?_
      refine WC.region ?_
      refine W.any (.move rfl) rfl rfl rfl ?_
      refine W.any (.move rfl) rfl rfl rfl ?_
      refine W.any (.nilCheck rfl) rfl rfl rfl ?_
      refine W.any (.field0 fa105_1 rfl) rfl rfl rfl ?_
      refine W.rd (.loadB (v := .map (some gs)) na101 rfl (hL.hp.le Ll0) rfl) rfl rfl rfl ?_
      refine W.any (.move rfl) rfl rfl rfl ?_
      rcases optG (getG (ns2_5.getD k 0) ls) with hk5_6 | ⟨vhk5_6, hk5_6⟩
      · refine W.rd (.as (.lookup1 (key := (ns2_5.getD k 0)) Try.underlying101 kint z33 rfl rfl f0_0) (by rw [hk5_6] <;> rfl)) rfl rfl rfl ?_
        refine W.ef rfl rfl rfl ?_
        refine Ef.buildSliceV (len := 1) [_] Try.underlying50 el33 rfl (by simp [Value.cells, seatf, seatV_row.len]) rfl (by decide) (by decide) ?_
        intro g5_7 w5_7 hg5_7 b5_7 h5_7
        have L3 := Ll0.trans h5_7
        have b5_7 : Blk w5_7 g5_7 33 (([noSeat]).map seatV).flatten.toArray := b5_7
        have o5_7 : OVec w5_7 wl0.heap.size 33 seatV 5 (some ⟨g5_7, 0, none⟩) 1 1 ([noSeat]) := b5_7.ovec hg5_7 seatV_row rfl rfl (by decide)
        have f4 := (f0_2.le h5_7)
        refine W.ef rfl rfl rfl ?_
        refine Ef.vpush (a := noSeat) Try.underlying50 el33 Try.underlying50 seatV_row rfl f4 rfl b5_7 (by omega) (by unfold maxLen; omega) (by have := lb0_7; have := h5_7.size; omega) ?_
        intro A5_8 c5_8 w5_8 o5_8 h5_8 at5_8
        have L5 : Le w w5_8 := L3.then_ h5_8 (fun q hq => Nat.le_trans L2.size (f4.row hq).1)
        refine W.any (.assign rfl) rfl rfl rfl ?_
        refine W.nil ?_
        refine E.blkN ?_
        refine E.thenN ?_
        refine WC.region ?_
        refine W.any (.add rfl rfl (by omega)) rfl rfl rfl ?_
        refine W.any (.move rfl) rfl rfl rfl ?_
        refine W.nil ?_
        have f6 := ((f0_0.le h5_7).ch h5_8 (fun he => by have := (f4.row he).1; have := hL.hS.lt; have := h2_4.size; have := h2_5.size; omega))
        have f7 := ((f0_1.le h5_7).ch h5_8 (fun he => by have := (f4.row he).1; have := hL.hH.lt; have := h2_4.size; have := h2_5.size; omega))
        have f8 := ((f0_3.le h5_7).ch h5_8 ((Apart.symm (fun q h1 h2 => by have := (hon2_5.row h1).2; have := (f4.row h2).1; omega))))
        refine E.again (k + 1, A5_8, c5_8) (.cons rfl (.cons rfl (.cons rfl (.cons rfl (.cons rfl (.nil _)))))) ?_ ?_
        · exact ⟨by omega, L5, by have := sz0; have := h5_7.size; have := h5_8.size; omega, f6, f7, (o5_8.cast rfl (by rw [← seats_next (by omega)]; unfold seatAt; first | rfl | (rw [hk5_6]; rfl))), f8⟩
        · first | omega | (simp only []; omega)
      · refine W.rd (.as (.lookup1 (key := (ns2_5.getD k 0)) Try.underlying101 kint z33 rfl rfl f0_0) (by rw [hk5_6] <;> rfl)) rfl rfl rfl ?_
        refine W.ef rfl rfl rfl ?_
        refine Ef.buildSliceV (len := 1) [_] Try.underlying50 el33 rfl (by simp [Value.cells, seatf, seatV_row.len]) rfl (by decide) (by decide) ?_
        intro g5_7_1 w5_7_1 hg5_7_1 b5_7_1 h5_7_1
        have L9 := Ll0.trans h5_7_1
        have b5_7_1 : Blk w5_7_1 g5_7_1 33 (([vhk5_6]).map seatV).flatten.toArray := b5_7_1
        have o5_7_1 : OVec w5_7_1 wl0.heap.size 33 seatV 5 (some ⟨g5_7_1, 0, none⟩) 1 1 ([vhk5_6]) := b5_7_1.ovec hg5_7_1 seatV_row rfl rfl (by decide)
        have f10 := (f0_2.le h5_7_1)
        refine W.ef rfl rfl rfl ?_
        refine Ef.vpush (a := vhk5_6) Try.underlying50 el33 Try.underlying50 seatV_row rfl f10 rfl b5_7_1 (by omega) (by unfold maxLen; omega) (by have := lb0_7; have := h5_7_1.size; omega) ?_
        intro A5_8_1 c5_8_1 w5_8_1 o5_8_1 h5_8_1 at5_8_1
        have L11 : Le w w5_8_1 := L9.then_ h5_8_1 (fun q hq => Nat.le_trans L2.size (f10.row hq).1)
        refine W.any (.assign rfl) rfl rfl rfl ?_
        refine W.nil ?_
        refine E.blkN ?_
        refine E.thenN ?_
        refine WC.region ?_
        refine W.any (.add rfl rfl (by omega)) rfl rfl rfl ?_
        refine W.any (.move rfl) rfl rfl rfl ?_
        refine W.nil ?_
        have f12 := ((f0_0.le h5_7_1).ch h5_8_1 (fun he => by have := (f10.row he).1; have := hL.hS.lt; have := h2_4.size; have := h2_5.size; omega))
        have f13 := ((f0_1.le h5_7_1).ch h5_8_1 (fun he => by have := (f10.row he).1; have := hL.hH.lt; have := h2_4.size; have := h2_5.size; omega))
        have f14 := ((f0_3.le h5_7_1).ch h5_8_1 ((Apart.symm (fun q h1 h2 => by have := (hon2_5.row h1).2; have := (f10.row h2).1; omega))))
        refine E.again (k + 1, A5_8_1, c5_8_1) (.cons rfl (.cons rfl (.cons rfl (.cons rfl (.cons rfl (.nil _)))))) ?_ ?_
        · exact ⟨by omega, L11, by have := sz0; have := h5_7_1.size; have := h5_8_1.size; omega, f12, f13, (o5_8_1.cast rfl (by rw [← seats_next (by omega)]; unfold seatAt; first | rfl | (rw [hk5_6]; rfl))), f14⟩
        · first | omega | (simp only []; omega)
    · refine WC.condN rfl (decide_eq_false c0) ?_
      refine WC.exit ?_
      refine E.thenX ?_
      refine E.thenX ?_
      refine E.blkH ?_
      refine E.thenN ?_
      refine WC.seq ?_
      refine WC.region ?_
      refine W.any (.move rfl) rfl rfl rfl ?_
      refine W.any (.assign rfl) rfl rfl rfl ?_
      refine W.nil ?_
      refine E.thenN ?_
      refine WC.ret ?_
      refine E.retG1 rfl rfl ?_
      have hnl := hon2_5.1; have ek : k = ls.length := (by omega); have hq := (f0_2.mono L2.size); rw [List.take_of_length_le (by omega)] at hq; subst ek; exact ⟨_, _, _, rfl, hpm2_5, hpw2_5, hq, Ll0⟩
end Go.Proofs.Ytnmcbdbpafhinaa

namespace Go.Proofs.Ytnmcbdbpafhinaa
open Go Go.Sx Go.Num Go.Gsp Go.Lsp
set_option maxRecDepth 20000
set_option linter.unusedSimpArgs false
set_option linter.unusedVariables false
theorem cut1_ok (n : Int) (w : World) : Calls Try.prog 80 #[.int .i64 (n)] w fun r w' => r = .returned (.bool (!coinL n)) ∧ Le w w' := by
  refine enter Try.func80 rfl rfl ?_
  have L0 := Le.refl w
  refine WC.seq ?_
  refine WC.region ?_
  refine W.any (.assign rfl) rfl rfl rfl ?_
  refine W.nil ?_
  refine E.thenN ?_
  refine WC.seq ?_
  refine WC.region ?_
  refine W.any (.move rfl) rfl rfl rfl ?_
  refine W.ef rfl rfl rfl ?_
  refine Ef.call go46 rfl rfl (coin_ok n w) ?_
  rintro _ w1_1 ⟨rfl, h1_1⟩
  refine ⟨_, rfl, ?_⟩
  have L1 := L0.trans h1_1
  refine W.any (.not rfl) rfl rfl rfl ?_
  refine W.any (.assign rfl) rfl rfl rfl ?_
  refine W.nil ?_
  refine E.thenN ?_
  refine WC.ret ?_
  refine E.retG1 rfl rfl ?_
  exact ⟨rfl, L1⟩

theorem ixcoin_ok {Af : Option Addr} {nf cf : Nat} {fs : List Int} (w : World) (hf : Vec w iv 1 Af nf fs) (hn : nf ≤ 1000000) : Calls Try.prog 93 #[.slice Af nf cf, .func (.func 80) #[] #[]] w fun r w' => ∃ z : Int, r = .returned (.int .i64 z) ∧ ((0 ≤ z ∧ ∃ x ∈ fs, coinL x = false) ∨ (z = -1 ∧ ∀ x ∈ fs, coinL x = true)) ∧ Le w w' := by
  have hfn := hf.1
  refine enter Try.func93 rfl rfl ?_
  have L0 := Le.refl w
  refine WC.seq ?_
  refine WC.region ?_
  refine W.any (.assign rfl) rfl rfl rfl ?_
  refine W.nil ?_
  refine E.thenN ?_
  refine WC.seq ?_
  refine WC.seq ?_
  refine WC.region ?_
  refine W.any (.move rfl) rfl rfl rfl ?_
  refine W.rd (.len Try.underlying41 rfl) rfl rfl rfl ?_
  refine W.any (.move rfl) rfl rfl rfl ?_
  refine W.nil ?_
  refine E.thenN ?_
  refine WC.block ?_
  refine WC.loop (ι := Nat) (fun k => [(0, .slice Af nf cf), (1, .func (.func 80) #[] #[]), (7, .int .i64 (((nf : Nat) : Int))), (8, .int .i64 (((k : Nat) : Int)))]) (fun k wl0 => (k ≤ nf) ∧ (∀ j, j < k → coinL (fs.getD j 0) = true) ∧ Le w wl0 ∧ w.heap.size ≤ wl0.heap.size) (fun k => nf - k) 0 ?_ ?_ ?_
  · exact .cons rfl (.cons rfl (.cons rfl (.cons rfl (.nil _))))
  · exact ⟨Nat.zero_le _, fun j hj => by omega, L0, Nat.le_refl _⟩
  · rintro k wl0 ⟨hk, hc, Ll0, sz0⟩
    refine WC.seq ?_
    refine WC.region ?_
    refine W.any (.lss rfl rfl) rfl rfl rfl ?_
    refine W.nil ?_
    refine E.thenN ?_
    refine WC.seq ?_
    by_cases c0 : ((k : Nat) : Int) < ((nf : Nat) : Int)
    · refine WC.condY rfl (decide_eq_true c0) ?_
      refine WC.skip ?_
      refine E.thenN ?_
      refine WC.seq ?_
      refine WC.block ?_
      refine WC.seq ?_
      refine WC.region ?_
      refine W.any (.move rfl) rfl rfl rfl ?_
      refine W.any (.assign rfl) rfl rfl rfl ?_
      refine W.nil ?_
      refine E.thenN ?_
      refine WC.seq ?_
      refine WC.region ?_
      refine W.any (.move rfl) rfl rfl rfl ?_
      refine W.any (.move rfl) rfl rfl rfl ?_
      refine W.any (.move rfl) rfl rfl rfl ?_
      refine W.any (.idxS (k) Try.underlying41 sz3 rfl rfl (hf.isSome iv_row (by omega)) (rfl) (by omega)) rfl rfl rfl ?_
      refine W.rd (.vone (v := .int .i64 ((fs.getD k 0))) na3 rfl (hf.le Ll0) iv_row (getS fs 0 (by first | omega | (simp only [List.length_cons, List.length_nil]; omega))) rfl) rfl rfl rfl ?_
      refine W.ef rfl rfl rfl ?_
      refine Ef.call go80 rfl rfl (cut1_ok (fs.getD k 0) wl0) ?_
      rintro _ w4_5 ⟨rfl, h4_5⟩
      refine ⟨_, rfl, ?_⟩
      have L1 := Ll0.trans h4_5
      refine W.nil ?_
      refine E.thenN ?_
      by_cases c1 : (coinL (fs.getD k 0)) = true
      · refine WC.condN rfl (congrArg not (c1)) ?_
        refine WC.skip ?_
        refine E.blkN ?_
        refine E.thenN ?_
        refine WC.region ?_
        refine W.any (.add rfl rfl (by omega)) rfl rfl rfl ?_
        refine W.any (.move rfl) rfl rfl rfl ?_
        refine W.nil ?_
        refine E.again (k + 1) (.cons rfl (.cons rfl (.cons rfl (.cons rfl (.nil _))))) ?_ ?_
        · exact ⟨by omega, fun j hj => (Nat.lt_succ_iff_lt_or_eq.1 hj).elim (hc j) (fun hh => by subst hh; exact c1), L1, by have := sz0; have := h4_5.size; omega⟩
        · first | omega | (simp only []; omega)
      · refine WC.condY rfl (congrArg not ((Bool.eq_false_iff.2 c1))) ?_
        refine WC.seq ?_
        refine WC.region ?_
        refine W.any (.move rfl) rfl rfl rfl ?_
        refine W.any (.assign rfl) rfl rfl rfl ?_
        refine W.nil ?_
        refine E.thenN ?_
        refine WC.ret ?_
        refine E.blkR ?_
        refine E.thenR ?_
        refine E.thenR ?_
        refine E.blkR ?_
        refine E.thenR ?_
        refine E.retG1 rfl rfl ?_
        exact ⟨_, rfl, .inl ⟨by omega, fs.getD k 0, List.mem_of_getElem? (getS fs 0 (by omega)), Bool.eq_false_iff.2 c1⟩, L1⟩
    · refine WC.condN rfl (decide_eq_false c0) ?_
      refine WC.exit ?_
      refine E.thenX ?_
      refine E.thenX ?_
      refine E.blkH ?_
      refine E.thenN ?_
      refine WC.seq ?_
      refine WC.region ?_
      refine W.any (.assign rfl) rfl rfl rfl ?_
      refine W.nil ?_
      refine E.thenN ?_
      refine WC.ret ?_
      refine E.retG1 rfl rfl ?_
      exact ⟨_, rfl, .inr ⟨rfl, fun x hx => by obtain ⟨j, hj, rfl⟩ := List.getElem_of_mem hx; have := hc j (by omega); rwa [List.getD_eq_getElem?_getD, List.getElem?_eq_getElem hj] at this⟩, Ll0⟩

theorem hascoin_ok {Af : Option Addr} {nf cf : Nat} {fs : List Int} (w : World) (hf : Vec w iv 1 Af nf fs) (hn : nf ≤ 1000000) : Calls Try.prog 79 #[.slice Af nf cf, .func (.func 80) #[] #[]] w fun r w' => ∃ b : Bool, r = .returned (.bool b) ∧ (b = true ↔ ∃ x ∈ fs, coinL x = false) ∧ Le w w' := by
  refine enter Try.func79 rfl rfl ?_
  have L0 := Le.refl w
  refine WC.seq ?_
  refine WC.region ?_
  refine W.any (.assign rfl) rfl rfl rfl ?_
  refine W.nil ?_
  refine E.thenN ?_
  refine WC.seq ?_
  refine WC.region ?_
  refine W.any (.move rfl) rfl rfl rfl ?_
  refine W.any (.move rfl) rfl rfl rfl ?_
  refine W.ef rfl rfl rfl ?_
  refine Ef.call go93 rfl rfl (ixcoin_ok w (hf.le L0) (by omega)) ?_
  rintro _ w1_2 ⟨z1_2, rfl, hz1_2, h1_2⟩
  refine ⟨_, rfl, ?_⟩
  have L1 := L0.trans h1_2
  refine W.any (.geq rfl rfl) rfl rfl rfl ?_
  refine W.any (.assign rfl) rfl rfl rfl ?_
  refine W.nil ?_
  refine E.thenN ?_
  refine WC.ret ?_
  refine E.retG1 rfl rfl ?_
  refine ⟨_, rfl, ?_, L1⟩; rw [decide_eq_true_eq]; rcases hz1_2 with ⟨q1, q2⟩ | ⟨q1, q2⟩; exact ⟨fun _ => q2, fun _ => q1⟩; exact ⟨fun h => by omega, fun ⟨x, hx, hh⟩ => by rw [q2 x hx] at hh; cases hh⟩

theorem eqints_ok {Aa Ab : Option Addr} {na ca nb cb : Nat} {a b : List Int} (w : World) (ha : Vec w iv 1 Aa na a) (hb : Vec w iv 1 Ab nb b) (hn : na ≤ 1000000) : Calls Try.prog 81 #[.slice Aa na ca, .slice Ab nb cb] w fun r w' => r = .returned (.bool (decide (a = b))) ∧ Le w w' := by
  have han := ha.1
  have hbn := hb.1
  refine enter Try.func81 rfl rfl ?_
  have L0 := Le.refl w
  refine WC.seq ?_
  refine WC.region ?_
  refine W.any (.assign rfl) rfl rfl rfl ?_
  refine W.nil ?_
  refine E.thenN ?_
  refine WC.seq ?_
  refine WC.seq ?_
  refine WC.region ?_
  refine W.any (.move rfl) rfl rfl rfl ?_
  refine W.rd (.len Try.underlying41 rfl) rfl rfl rfl ?_
  refine W.any (.move rfl) rfl rfl rfl ?_
  refine W.rd (.len Try.underlying41 rfl) rfl rfl rfl ?_
  refine W.any (.neq rfl rfl) rfl rfl rfl ?_
  refine W.nil ?_
  refine E.thenN ?_
  by_cases c0 : ((na : Nat) : Int) ≠ ((nb : Nat) : Int)
  · refine WC.condY rfl (decide_eq_true c0) ?_
    refine WC.seq ?_
    refine WC.region ?_
    refine W.any (.assign rfl) rfl rfl rfl ?_
    refine W.nil ?_
    refine E.thenN ?_
    refine WC.ret ?_
    refine E.thenR ?_
    refine E.retG1 rfl rfl ?_
    exact ⟨by rw [decide_eq_false (fun e => c0 (by rw [← han, ← hbn, e]))], L0⟩
  · refine WC.condN rfl (decide_eq_false c0) ?_
    refine WC.skip ?_
    refine E.thenN ?_
    refine WC.seq ?_
    refine WC.seq ?_
    refine WC.region ?_
    refine W.any (.move rfl) rfl rfl rfl ?_
    refine W.rd (.len Try.underlying41 rfl) rfl rfl rfl ?_
    refine W.any (.move rfl) rfl rfl rfl ?_
    refine W.nil ?_
    refine E.thenN ?_
    refine WC.block ?_
    refine WC.loop (ι := Nat) (fun k => [(0, .slice Aa na ca), (1, .slice Ab nb cb), (12, .int .i64 (((na : Nat) : Int))), (13, .int .i64 (((k : Nat) : Int)))]) (fun k wl0 => (k ≤ na) ∧ (∀ j, j < k → a.getD j 0 = b.getD j 0) ∧ Le w wl0 ∧ w.heap.size ≤ wl0.heap.size) (fun k => na - k) 0 ?_ ?_ ?_
    · exact .cons rfl (.cons rfl (.cons rfl (.cons rfl (.nil _))))
    · exact ⟨Nat.zero_le _, fun j hj => by omega, L0, Nat.le_refl _⟩
    · rintro k wl0 ⟨hk, hs, Ll0, sz0⟩
      refine WC.seq ?_
      refine WC.region ?_
      refine W.any (.lss rfl rfl) rfl rfl rfl ?_
      refine W.nil ?_
      refine E.thenN ?_
      refine WC.seq ?_
      by_cases c1 : ((k : Nat) : Int) < ((na : Nat) : Int)
      · refine WC.condY rfl (decide_eq_true c1) ?_
        refine WC.skip ?_
        refine E.thenN ?_
        refine WC.seq ?_
        refine WC.block ?_
        refine WC.seq ?_
        refine WC.region ?_
        refine W.any (.move rfl) rfl rfl rfl ?_
        refine W.any (.assign rfl) rfl rfl rfl ?_
        refine W.nil ?_
        refine E.thenN ?_
        refine WC.seq ?_
        refine WC.draw [0, 1, 2, 3, 4, 5, 6, 7, 8] mixed (by kernel_rfl) ?_
        intro w6 d6
        have L1 := Ll0.trans d6
        refine G.any rfl rfl (.move rfl) rfl rfl rfl ?_
        refine G.any rfl rfl (.move rfl) rfl rfl rfl ?_
        refine G.any rfl rfl (.idxS (k) Try.underlying41 sz3 rfl rfl (ha.isSome iv_row (by omega)) (rfl) (by omega)) rfl rfl rfl ?_
        refine G.rd rfl rfl (.vone (v := .int .i64 ((a.getD k 0))) na3 rfl (ha.le L1) iv_row (getS a 0 (by first | omega | (simp only [List.length_cons, List.length_nil]; omega))) rfl) rfl rfl rfl ?_
        refine G.any rfl rfl (.move rfl) rfl rfl rfl ?_
        refine G.any rfl rfl (.move rfl) rfl rfl rfl ?_
        refine G.any rfl rfl (.idxS (k) Try.underlying41 sz3 rfl rfl (hb.isSome iv_row (by omega)) (rfl) (by omega)) rfl rfl rfl ?_
        refine G.rd rfl rfl (.vone (v := .int .i64 ((b.getD k 0))) na3 rfl (hb.le L1) iv_row (getS b 0 (by first | omega | (simp only [List.length_cons, List.length_nil]; omega))) rfl) rfl rfl rfl ?_
        refine G.any rfl rfl (.neq rfl rfl) rfl rfl rfl ?_
        refine G.nil ?_
        refine E.thenN ?_
        by_cases c2 : (a.getD k 0) ≠ (b.getD k 0)
        · refine WC.condY rfl (decide_eq_true c2) ?_
          refine WC.seq ?_
          refine WC.region ?_
          refine W.any (.assign rfl) rfl rfl rfl ?_
          refine W.nil ?_
          refine E.thenN ?_
          refine WC.ret ?_
          refine E.blkR ?_
          refine E.thenR ?_
          refine E.thenR ?_
          refine E.blkR ?_
          refine E.thenR ?_
          refine E.retG1 rfl rfl ?_
          exact ⟨by rw [decide_eq_false (fun e => c2 (by rw [e]))], L1⟩
        · refine WC.condN rfl (decide_eq_false c2) ?_
          refine WC.skip ?_
          refine E.blkN ?_
          refine E.thenN ?_
          refine WC.region ?_
          refine W.any (.add rfl rfl (by omega)) rfl rfl rfl ?_
          refine W.any (.move rfl) rfl rfl rfl ?_
          refine W.nil ?_
          refine E.again (k + 1) (.cons rfl (.cons rfl (.cons rfl (.cons rfl (.nil _))))) ?_ ?_
          · exact ⟨by omega, fun j hj => (Nat.lt_succ_iff_lt_or_eq.1 hj).elim (hs j) (fun hh => by subst hh; exact Classical.not_not.1 c2), L1, by have := sz0; have := d6.size; omega⟩
          · first | omega | (simp only []; omega)
      · refine WC.condN rfl (decide_eq_false c1) ?_
        refine WC.exit ?_
        refine E.thenX ?_
        refine E.thenX ?_
        refine E.blkH ?_
        refine E.thenN ?_
        refine WC.seq ?_
        refine WC.region ?_
        refine W.any (.assign rfl) rfl rfl rfl ?_
        refine W.nil ?_
        refine E.thenN ?_
        refine WC.ret ?_
        refine E.retG1 rfl rfl ?_
        exact ⟨by rw [decide_eq_true (ext_getD (z := (0 : Int)) (by omega) (fun j hj => hs j (by omega)))], Ll0⟩
end Go.Proofs.Ytnmcbdbpafhinaa

namespace Go.Proofs.Ytnmcbdbpafhinaa
open Go Go.Sx Go.Num Go.Gsp Go.Lsp
set_option maxRecDepth 20000
set_option linter.unusedSimpArgs false
set_option linter.unusedVariables false
theorem lcut_ok {gp gs gh c cs ck : Nat} {A : Option Addr} {own : List Int} {ls : SM} {lh : HM} {lost : Int} {Ao As Af : Option Addr} {no co ns cS nf cf : Nat} {old fee : List Int} {seats : List Seat} (w : World) (hL : LedL w gp gs gh A c cs ck own ls lh lost) (ho : Vec w iv 1 Ao no old) (hs : Vec w seatV 5 As ns seats) (hf : Vec w iv 1 Af nf fee) (hno : no ≤ 1000) (hns : ns ≤ 1000) (hnf : nf ≤ 1000) (hoa : ∀ q, blkOf Ao = some q → 0 < no → q < w.heap.size → ¬ LF gp gs gh A c q) (hsa : ∀ q, blkOf As = some q → 0 < ns → q < w.heap.size → ¬ LF gp gs gh A c q) (hfa : ∀ q, blkOf Af = some q → 0 < nf → q < w.heap.size → ¬ LF gp gs gh A c q) (hb : ∀ x ∈ lh, 0 ≤ x.2.2.am) (hq : ∀ ch side, heldL lh ch side ≤ 1125899906842624) (hseat : ∀ x ∈ ls, seatOk own.length x.2.2) (hl : 0 ≤ lost ∧ lost ≤ 1125899906842624) : Calls Try.prog 43 #[.pointer (some ⟨gp, 0, none⟩), .slice Ao no co, .slice As ns cS, .slice Af nf cf] w fun r w' => ChP w w' (LF gp gs gh A c) ∧ r = .returned (.int .i64 (cutC own.length ls lh old seats fee)) ∧ ((cutC own.length ls lh old seats fee ≠ 0 ∧ LedL w' gp gs gh A c cs ck own ls lh lost) ∨ (cutC own.length ls lh old seats fee = 0 ∧ LedL w' gp gs gh A c (cutLs ls cs old seats).2 ck own (cutLs ls cs old seats).1 lh (lost + fee.sum))) := by
  have hp0 := hL.hp
  have hO0 := hL.hO
  have hS0 := hL.hS
  have hH0 := hL.hH
  have n1 := hL.ps
  have n2 := hL.ph
  have n3 := hL.sh
  have n4 := hL.op
  have n5 := hL.os
  have n6 := hL.oh
  have hon := ho.1
  have hsn := hs.1
  have hfn := hf.1
  refine enter Try.func43 rfl rfl ?_
  have L0 := ChP.refl w (LF gp gs gh A c)
  refine WC.seq ?_
  refine WC.region ?_
  refine W.any (.assign rfl) rfl rfl rfl ?_
  refine W.nil ?_
  refine E.thenN ?_
  refine WC.seq ?_
  refine WC.region ?_
  refine W.ef rfl rfl rfl ?_
  refine Ef.makeMapG ikf Value.bool ?_
  intro g1_0 w1_0 hg1_0 b1_0 h1_0
  have L1 := L0.le h1_0
  refine W.ef rfl rfl rfl ?_
  refine Ef.makeMapG ikf Value.bool ?_
  intro g1_1 w1_1 hg1_1 b1_1 h1_1
  have L2 := L1.le h1_1
  refine W.any (.assign rfl) rfl rfl rfl ?_
  refine W.any (.assign rfl) rfl rfl rfl ?_
  refine W.nil ?_
  refine E.thenN ?_
  refine WC.seq ?_
  refine WC.seq ?_
  refine WC.region ?_
  refine W.any (.move rfl) rfl rfl rfl ?_
  refine W.rd (.len Try.underlying41 rfl) rfl rfl rfl ?_
  refine W.any (.move rfl) rfl rfl rfl ?_
  refine W.nil ?_
  refine E.thenN ?_
  refine WC.block ?_
  have f3 := (b1_0.le h1_1)
  have f4 := (hp0.le (h1_0.trans h1_1))
  have f5 := (hO0.le (h1_0.trans h1_1))
  have f6 := (hS0.le (h1_0.trans h1_1))
  have f7 := (hH0.le (h1_0.trans h1_1))
  refine WC.loop (ι := Nat × BM × Nat) (fun ⟨k, lg, cg⟩ => [(0, .pointer (some ⟨gp, 0, none⟩)), (1, .slice Ao no co), (2, .slice As ns cS), (3, .slice Af nf cf), (9, .map (some g1_0)), (10, .map (some g1_1)), (38, .slice Ao no co), (39, .int .i64 (((no : Nat) : Int))), (40, .int .i64 (((k : Nat) : Int)))]) (fun ⟨k, lg, cg⟩ wl0 => (k ≤ no) ∧ (Marks lg (old.take k)) ∧ ChP w wl0 (LF gp gs gh A c) ∧ w1_1.heap.size ≤ wl0.heap.size ∧ Blk wl0 gp 105 #[.slice A own.length c, .map (some gs), .map (some gh), .int .i64 (lost)] ∧ OVec wl0 0 3 iv 1 A own.length c own ∧ MapG wl0 ikf seatf gs ls cs ∧ MapG wl0 plf holdf gh lh ck ∧ MapG wl0 ikf Value.bool g1_0 lg cg ∧ MapG wl0 ikf Value.bool g1_1 ([]) 0) (fun ⟨k, lg, cg⟩ => no - k) (0, [], 0) ?_ ?_ ?_
  · exact .cons rfl (.cons rfl (.cons rfl (.cons rfl (.cons rfl (.cons rfl (.cons rfl (.cons rfl (.cons rfl (.nil _)))))))))
  · exact ⟨Nat.zero_le _, Marks.nil, L2, Nat.le_refl _, f4, f5, f6, f7, f3, b1_1⟩
  · rintro ⟨k, lg, cg⟩ wl0 ⟨hk, hmk, Ll0, zl0, f0_0, f0_1, f0_2, f0_3, f0_4, f0_5⟩
    refine WC.seq ?_
    refine WC.region ?_
    refine W.any (.lss rfl rfl) rfl rfl rfl ?_
    refine W.nil ?_
    refine E.thenN ?_
    refine WC.seq ?_
    by_cases c0 : ((k : Nat) : Int) < ((no : Nat) : Int)
    · refine WC.condY rfl (decide_eq_true c0) ?_
      refine WC.skip ?_
      refine E.thenN ?_
      refine WC.seq ?_
      refine WC.block ?_
      refine WC.seq ?_
      refine WC.region ?_
      refine W.any (.idxS (k) Try.underlying41 sz3 rfl rfl (ho.isSome iv_row (by omega)) (rfl) (by omega)) rfl rfl rfl ?_
      refine W.rd (.vone (v := .int .i64 ((old.getD k 0))) na3 rfl (ho.chP Ll0 hoa) iv_row (getS old 0 (by first | omega | (simp only [List.length_cons, List.length_nil]; omega))) rfl) rfl rfl rfl ?_
      refine W.any (.assign rfl) rfl rfl rfl ?_
      refine W.nil ?_
      refine E.thenN ?_
      refine WC.region ?_
      refine W.any (.move rfl) rfl rfl rfl ?_
      refine W.any (.move rfl) rfl rfl rfl ?_
      rcases optG (getG (old.getD k 0) lg) with hk5_2 | ⟨vhk5_2, hk5_2⟩
      · refine W.ef0 rfl rfl ?_
        refine Ef.insertG (key := (old.getD k 0)) (u := true) Try.underlying149 kint rfl rfl rfl f0_4 (hk5_2) ?_
        intro w5_2 b5_2 h5_2
        have L8 : ChP w w5_2 (LF gp gs gh A c) := Ll0.ch h5_2 (fun i hi hlt => by cases hi; exact absurd hlt (by have := L0.size; have := hg1_0; omega))
        refine W.nil ?_
        refine E.blkN ?_
        refine E.thenN ?_
        refine WC.region ?_
        refine W.any (.add rfl rfl (by omega)) rfl rfl rfl ?_
        refine W.any (.move rfl) rfl rfl rfl ?_
        refine W.nil ?_
        have f9 := (f0_0.ch h5_2 (fun h => (show g1_0 ≠ gp from by have := hp0.lt; omega) (Option.some.inj h)))
        have f10 := (f0_1.ch h5_2 (fun q hq => by cases hq; exact (fun he => by have := (hO0.row he).2; omega)))
        have f11 := (f0_2.ch h5_2 (fun h => (show g1_0 ≠ gs from by have := hS0.lt; omega) (Option.some.inj h)))
        have f12 := (f0_3.ch h5_2 (fun h => (show g1_0 ≠ gh from by have := hH0.lt; omega) (Option.some.inj h)))
        have f13 := (f0_5.ch h5_2 (fun h => (show g1_0 ≠ g1_1 from by have := b1_0.lt; omega) (Option.some.inj h)))
        refine E.again (k + 1, (lg ++ [(cg, (old.getD k 0), true)]), (cg + 1)) (.cons rfl (.cons rfl (.cons rfl (.cons rfl (.cons rfl (.cons rfl (.cons rfl (.cons rfl (.cons rfl (.nil _)))))))))) ?_ ?_
        · exact ⟨by omega, by rw [take_next (z := 0) (by omega)]; exact hmk.new hk5_2, L8, by have := zl0; have := h5_2.size; omega, f9, f10, f11, f12, b5_2, f13⟩
        · first | omega | (simp only []; omega)
      · refine W.ef0 rfl rfl ?_
        refine Ef.updateG (key := (old.getD k 0)) (u := true) Try.underlying149 kint rfl rfl rfl f0_4 stay_i (hk5_2) ?_
        intro w5_2_1 b5_2_1 h5_2_1
        have L14 : ChP w w5_2_1 (LF gp gs gh A c) := Ll0.ch h5_2_1 (fun i hi hlt => by cases hi; exact absurd hlt (by have := L0.size; have := hg1_0; omega))
        refine W.nil ?_
        refine E.blkN ?_
        refine E.thenN ?_
        refine WC.region ?_
        refine W.any (.add rfl rfl (by omega)) rfl rfl rfl ?_
        refine W.any (.move rfl) rfl rfl rfl ?_
        refine W.nil ?_
        have f15 := (f0_0.ch h5_2_1 (fun h => (show g1_0 ≠ gp from by have := hp0.lt; omega) (Option.some.inj h)))
        have f16 := (f0_1.ch h5_2_1 (fun q hq => by cases hq; exact (fun he => by have := (hO0.row he).2; omega)))
        have f17 := (f0_2.ch h5_2_1 (fun h => (show g1_0 ≠ gs from by have := hS0.lt; omega) (Option.some.inj h)))
        have f18 := (f0_3.ch h5_2_1 (fun h => (show g1_0 ≠ gh from by have := hH0.lt; omega) (Option.some.inj h)))
        have f19 := (f0_5.ch h5_2_1 (fun h => (show g1_0 ≠ g1_1 from by have := b1_0.lt; omega) (Option.some.inj h)))
        refine E.again (k + 1, (lg.map fun y => if y.2.1 = (old.getD k 0) then (y.1, (old.getD k 0), true) else y), cg) (.cons rfl (.cons rfl (.cons rfl (.cons rfl (.cons rfl (.cons rfl (.cons rfl (.cons rfl (.cons rfl (.nil _)))))))))) ?_ ?_
        · exact ⟨by omega, by rw [take_next (z := 0) (by omega)]; exact hmk.old hk5_2, L14, by have := zl0; have := h5_2_1.size; omega, f15, f16, f17, f18, b5_2_1, f19⟩
        · first | omega | (simp only []; omega)
    · refine WC.condN rfl (decide_eq_false c0) ?_
      have hmo : Marks lg old := (by rw [List.take_of_length_le (by omega)] at hmk; exact hmk)
      have hnd := hmo.2.2
      refine WC.exit ?_
      refine E.thenX ?_
      refine E.thenX ?_
      refine E.blkH ?_
      refine E.thenN ?_
      refine WC.cut (ι := Bool) (fun bad => [(0, .pointer (some ⟨gp, 0, none⟩)), (1, .slice Ao no co), (2, .slice As ns cS), (3, .slice Af nf cf), (9, .map (some g1_0)), (10, .map (some g1_1)), (13, .bool (bad))]) (fun bad wc8 => (bad = true ↔ ¬ (old.Nodup ∧ seats.length ≤ 40 ∧ fee.length = own.length)) ∧ ChP w wc8 (LF gp gs gh A c) ∧ wl0.heap.size ≤ wc8.heap.size ∧ Blk wc8 gp 105 #[.slice A own.length c, .map (some gs), .map (some gh), .int .i64 (lost)] ∧ OVec wc8 0 3 iv 1 A own.length c own ∧ MapG wc8 ikf seatf gs ls cs ∧ MapG wc8 plf holdf gh lh ck ∧ MapG wc8 ikf Value.bool g1_0 lg cg ∧ MapG wc8 ikf Value.bool g1_1 ([]) 0) ?_ ?_
      · refine WC.region ?_
        refine W.any (.move rfl) rfl rfl rfl ?_
        refine W.rd (.lenMap Try.underlying149 rfl f0_4) rfl rfl rfl ?_
        refine W.any (.move rfl) rfl rfl rfl ?_
        refine W.rd (.len Try.underlying41 rfl) rfl rfl rfl ?_
        refine W.any (.neq rfl rfl) rfl rfl rfl ?_
        by_cases q7_5 : ((lg.length : Nat) : Int) ≠ ((no : Nat) : Int)
        · refine W.any (.dec (.move rfl) (decide_eq_true q7_5)) rfl rfl rfl ?_
          refine W.skip rfl rfl rfl (rfl) rfl rfl ?_
          refine W.skip rfl rfl rfl (rfl) rfl rfl ?_
          refine W.skip rfl rfl rfl (rfl) rfl rfl ?_
          refine W.any (.pickT rfl rfl rfl) rfl rfl rfl ?_
          refine W.any (.move rfl) rfl rfl rfl ?_
          refine W.skip rfl rfl rfl (rfl) rfl rfl ?_
          refine W.skip rfl rfl rfl (rfl) rfl rfl ?_
          refine W.skip rfl rfl rfl (rfl) rfl rfl ?_
          refine W.skip rfl rfl rfl (rfl) rfl rfl ?_
          refine W.skip rfl rfl rfl (rfl) rfl rfl ?_
          refine W.skip rfl rfl rfl (rfl) rfl rfl ?_
          refine W.skip rfl rfl rfl (rfl) rfl rfl ?_
          refine W.skip rfl rfl rfl (rfl) rfl rfl ?_
          refine W.any (.pickT rfl rfl rfl) rfl rfl rfl ?_
          refine W.any (.assign rfl) rfl rfl rfl ?_
          refine W.nil ?_
          refine E.meet true (.cons rfl (.cons rfl (.cons rfl (.cons rfl (.cons rfl (.cons rfl (.cons rfl (.nil _)))))))) ?_
          exact ⟨⟨fun _ => by rw [← hnd]; omega, fun _ => rfl⟩, Ll0, Nat.le_refl _, f0_0, f0_1, f0_2, f0_3, f0_4, f0_5⟩
        · refine W.any (.dec (.move rfl) (decide_eq_false q7_5)) rfl rfl rfl ?_
          refine W.rdg (Any.rd (.move rfl) _) rfl rfl rfl (rfl) rfl rfl ?_
          refine W.rdg (.len Try.underlying50 rfl) rfl rfl rfl (rfl) rfl rfl ?_
          refine W.rdg (Any.rd (.gtr rfl rfl) _) rfl rfl rfl (rfl) rfl rfl ?_
          refine W.any (.pickF rfl rfl rfl) rfl rfl rfl ?_
          by_cases q7_10 : 40 < ((ns : Nat) : Int)
          · refine W.any (.dec (.move rfl) (decide_eq_true q7_10)) rfl rfl rfl ?_
            refine W.skip rfl rfl rfl (rfl) rfl rfl ?_
            refine W.skip rfl rfl rfl (rfl) rfl rfl ?_
            refine W.skip rfl rfl rfl (rfl) rfl rfl ?_
            refine W.skip rfl rfl rfl (rfl) rfl rfl ?_
            refine W.skip rfl rfl rfl (rfl) rfl rfl ?_
            refine W.skip rfl rfl rfl (rfl) rfl rfl ?_
            refine W.skip rfl rfl rfl (rfl) rfl rfl ?_
            refine W.skip rfl rfl rfl (rfl) rfl rfl ?_
            refine W.any (.pickT rfl rfl rfl) rfl rfl rfl ?_
            refine W.any (.assign rfl) rfl rfl rfl ?_
            refine W.nil ?_
            refine E.meet true (.cons rfl (.cons rfl (.cons rfl (.cons rfl (.cons rfl (.cons rfl (.cons rfl (.nil _)))))))) ?_
            exact ⟨⟨fun _ => by rw [← hnd]; omega, fun _ => rfl⟩, Ll0, Nat.le_refl _, f0_0, f0_1, f0_2, f0_3, f0_4, f0_5⟩
          · refine W.any (.dec (.move rfl) (decide_eq_false q7_10)) rfl rfl rfl ?_
            refine W.rdg (Any.rd (.move rfl) _) rfl rfl rfl (rfl) rfl rfl ?_
            refine W.rdg (.len Try.underlying41 rfl) rfl rfl rfl (rfl) rfl rfl ?_
            refine W.rdg (Any.rd (.move rfl) _) rfl rfl rfl (rfl) rfl rfl ?_
            refine W.rdg (Any.rd (.nilCheck rfl) _) rfl rfl rfl (rfl) rfl rfl ?_
            refine W.rdg (Any.rd (.field0 fa105_0 rfl) _) rfl rfl rfl (rfl) rfl rfl ?_
            refine W.rdg (.loadB (v := .slice A own.length c) na41 rfl f0_0 rfl) rfl rfl rfl (rfl) rfl rfl ?_
            refine W.rdg (.len Try.underlying41 rfl) rfl rfl rfl (rfl) rfl rfl ?_
            refine W.rdg (Any.rd (.neq rfl rfl) _) rfl rfl rfl (rfl) rfl rfl ?_
            refine W.any (.pickF rfl rfl rfl) rfl rfl rfl ?_
            refine W.any (.assign rfl) rfl rfl rfl ?_
            refine W.nil ?_
            refine E.meet (decide (((nf : Nat) : Int) ≠ ((own.length : Nat) : Int))) (.cons rfl (.cons rfl (.cons rfl (.cons rfl (.cons rfl (.cons rfl (.cons rfl (.nil _)))))))) ?_
            exact ⟨by rw [decide_eq_true_eq, ← hnd]; omega, Ll0, Nat.le_refl _, f0_0, f0_1, f0_2, f0_3, f0_4, f0_5⟩
      · rintro bad wc8 ⟨hbad, Lc2, sc2, m2_0, m2_1, m2_2, m2_3, m2_4, m2_5⟩
        refine WC.seq ?_
        refine WC.seq ?_
        refine WC.region ?_
        refine W.any (.move rfl) rfl rfl rfl ?_
        refine W.rd (.len Try.underlying50 rfl) rfl rfl rfl ?_
        refine W.any (.move rfl) rfl rfl rfl ?_
        refine W.nil ?_
        refine E.thenN ?_
        refine WC.block ?_
        refine WC.loop (ι := Nat × Bool × BM × Nat) (fun ⟨k1, bd, lc, cc⟩ => [(0, .pointer (some ⟨gp, 0, none⟩)), (1, .slice Ao no co), (2, .slice As ns cS), (3, .slice Af nf cf), (9, .map (some g1_0)), (10, .map (some g1_1)), (13, .bool (bd)), (67, .slice As ns cS), (68, .int .i64 (((ns : Nat) : Int))), (69, .int .i64 (((k1 : Nat) : Int)))]) (fun ⟨k1, bd, lc, cc⟩ wl1 => (k1 ≤ ns) ∧ (bd = true ↔ ¬ ((old.Nodup ∧ seats.length ≤ 40 ∧ fee.length = own.length) ∧ SeatsOk own.length (seats.take k1))) ∧ (Marks lc (chans (seats.take k1))) ∧ ChP w wl1 (LF gp gs gh A c) ∧ wc8.heap.size ≤ wl1.heap.size ∧ Blk wl1 gp 105 #[.slice A own.length c, .map (some gs), .map (some gh), .int .i64 (lost)] ∧ OVec wl1 0 3 iv 1 A own.length c own ∧ MapG wl1 ikf seatf gs ls cs ∧ MapG wl1 plf holdf gh lh ck ∧ MapG wl1 ikf Value.bool g1_0 lg cg ∧ MapG wl1 ikf Value.bool g1_1 lc cc) (fun ⟨k1, bd, lc, cc⟩ => ns - k1) (0, bad, [], 0) ?_ ?_ ?_
        · exact .cons rfl (.cons rfl (.cons rfl (.cons rfl (.cons rfl (.cons rfl (.cons rfl (.cons rfl (.cons rfl (.cons rfl (.nil _))))))))))
        · exact ⟨Nat.zero_le _, by rw [hbad]; simp [SeatsOk, chans], Marks.nil, Lc2, Nat.le_refl _, m2_0, m2_1, m2_2, m2_3, m2_4, m2_5⟩
        · rintro ⟨k1, bd, lc, cc⟩ wl1 ⟨hk1, hbd, hmc, Ll1, zl1, f1_0, f1_1, f1_2, f1_3, f1_4, f1_5⟩
          refine WC.seq ?_
          refine WC.region ?_
          refine W.any (.lss rfl rfl) rfl rfl rfl ?_
          refine W.nil ?_
          refine E.thenN ?_
          refine WC.seq ?_
          by_cases c1 : ((k1 : Nat) : Int) < ((ns : Nat) : Int)
          · refine WC.condY rfl (decide_eq_true c1) ?_
            refine WC.skip ?_
            refine E.thenN ?_
            refine WC.seq ?_
            refine WC.block ?_
            refine WC.seq ?_
            refine WC.region ?_
            refine W.any (.idxS (k1) Try.underlying50 sz33 rfl rfl (hs.isSome seatV_row (by omega)) (rfl) (by omega)) rfl rfl rfl ?_
            refine W.rd (.vload ag33 rfl (hs.chP Ll1 hsa) seatV_row (getS seats noSeat (by first | omega | (simp only [List.length_cons, List.length_nil]; omega)))) rfl rfl rfl ?_
            refine W.ef rfl rfl rfl ?_
            refine Ef.allocA z33 ?_
            intro g10_2 w10_2 hg10_2 b10_2 h10_2
            have L20 := Ll1.le h10_2
            have b10_2 : Blk w10_2 g10_2 33 (seatV noSeat).toArray := b10_2
            refine W.ef0 rfl rfl ?_
            refine Ef.storeAll sz33 (by rfl) rfl rfl b10_2 (by rfl) (seatV_row.one (seats.getD k1 noSeat)) ?_
            intro w10_3 b10_3 h10_3
            have b10_3 : Blk w10_3 g10_2 33 (seatV (seats.getD k1 noSeat)).toArray := b10_3
            have L21 : ChP w w10_3 (LF gp gs gh A c) := L20.ch h10_3 (fun i hi hlt => by cases hi; exact absurd hlt (by have := Ll1.size; have := hg10_2; omega))
            refine W.nil ?_
            refine E.thenN ?_
            refine WC.seq ?_
            refine WC.region ?_
            refine W.any (.move rfl) rfl rfl rfl ?_
            by_cases q11_1 : bd = true
            · refine W.any (.dec (.move rfl) (q11_1)) rfl rfl rfl ?_
              refine W.skip rfl rfl rfl (rfl) rfl rfl ?_
              refine W.skip rfl rfl rfl (rfl) rfl rfl ?_
              refine W.skip rfl rfl rfl (rfl) rfl rfl ?_
              refine W.skip rfl rfl rfl (rfl) rfl rfl ?_
              refine W.any (.pickT rfl rfl rfl) rfl rfl rfl ?_
              refine W.any (.move rfl) rfl rfl rfl ?_
              refine W.skip rfl rfl rfl (rfl) rfl rfl ?_
              refine W.skip rfl rfl rfl (rfl) rfl rfl ?_
              refine W.skip rfl rfl rfl (rfl) rfl rfl ?_
              refine W.skip rfl rfl rfl (rfl) rfl rfl ?_
              refine W.any (.pickT rfl rfl rfl) rfl rfl rfl ?_
              refine W.any (.assign rfl) rfl rfl rfl ?_
              refine W.nil ?_
              refine E.thenN ?_
              refine WC.region ?_
              refine W.any (.move rfl) rfl rfl rfl ?_
              refine W.any (.field0 fa33_0 rfl) rfl rfl rfl ?_
              refine W.rd (.loadB (v := .int .i64 ((seats.getD k1 noSeat).ch)) na3 rfl b10_3 rfl) rfl rfl rfl ?_
              rcases optG (getG ((seats.getD k1 noSeat).ch) lc) with hk12_3 | ⟨vhk12_3, hk12_3⟩
              · have f22 := ((f1_5.le h10_2).ch h10_3 (fun h => (show g10_2 ≠ g1_1 from by have := f1_5.lt; omega) (Option.some.inj h)))
                refine W.ef0 rfl rfl ?_
                refine Ef.insertG (key := ((seats.getD k1 noSeat).ch)) (u := true) Try.underlying149 kint rfl rfl rfl f22 (hk12_3) ?_
                intro w12_3 b12_3 h12_3
                have L23 : ChP w w12_3 (LF gp gs gh A c) := L21.ch h12_3 (fun i hi hlt => by cases hi; exact absurd hlt (by have := L1.size; have := hg1_1; omega))
                refine W.nil ?_
                refine E.blkN ?_
                refine E.thenN ?_
                refine WC.region ?_
                refine W.any (.add rfl rfl (by omega)) rfl rfl rfl ?_
                refine W.any (.move rfl) rfl rfl rfl ?_
                refine W.nil ?_
                have f24 := (((f1_0.le h10_2).ch h10_3 (fun h => (show g10_2 ≠ gp from by have := f1_0.lt; omega) (Option.some.inj h))).ch h12_3 (fun h => (show g1_1 ≠ gp from by have := hp0.lt; have := h1_0.size; omega) (Option.some.inj h)))
                have f25 := (((f1_1.le h10_2).ch h10_3 (fun q hq => by cases hq; exact (fun he => by have := (f1_1.row he).2; omega))).ch h12_3 (fun q hq => by cases hq; exact (fun he => by have := (hO0.row he).2; have := h1_0.size; omega)))
                have f26 := (((f1_2.le h10_2).ch h10_3 (fun h => (show g10_2 ≠ gs from by have := f1_2.lt; omega) (Option.some.inj h))).ch h12_3 (fun h => (show g1_1 ≠ gs from by have := hS0.lt; have := h1_0.size; omega) (Option.some.inj h)))
                have f27 := (((f1_3.le h10_2).ch h10_3 (fun h => (show g10_2 ≠ gh from by have := f1_3.lt; omega) (Option.some.inj h))).ch h12_3 (fun h => (show g1_1 ≠ gh from by have := hH0.lt; have := h1_0.size; omega) (Option.some.inj h)))
                have f28 := (((f1_4.le h10_2).ch h10_3 (fun h => (show g10_2 ≠ g1_0 from by have := f1_4.lt; omega) (Option.some.inj h))).ch h12_3 (fun h => (show g1_1 ≠ g1_0 from by have := b1_0.lt; omega) (Option.some.inj h)))
                refine E.again (k1 + 1, true, (lc ++ [(cc, ((seats.getD k1 noSeat).ch), true)]), (cc + 1)) (.cons rfl (.cons rfl (.cons rfl (.cons rfl (.cons rfl (.cons rfl (.cons rfl (.cons rfl (.cons rfl (.cons rfl (.nil _))))))))))) ?_ ?_
                · exact ⟨by omega, bad_keep (by omega) hbd q11_1, by rw [chans_next (by omega)]; exact hmc.new hk12_3, L23, by have := zl1; have := h10_2.size; have := h10_3.size; have := h12_3.size; omega, f24, f25, f26, f27, f28, b12_3⟩
                · first | omega | (simp only []; omega)
              · have f29 := ((f1_5.le h10_2).ch h10_3 (fun h => (show g10_2 ≠ g1_1 from by have := f1_5.lt; omega) (Option.some.inj h)))
                refine W.ef0 rfl rfl ?_
                refine Ef.updateG (key := ((seats.getD k1 noSeat).ch)) (u := true) Try.underlying149 kint rfl rfl rfl f29 stay_i (hk12_3) ?_
                intro w12_3_1 b12_3_1 h12_3_1
                have L30 : ChP w w12_3_1 (LF gp gs gh A c) := L21.ch h12_3_1 (fun i hi hlt => by cases hi; exact absurd hlt (by have := L1.size; have := hg1_1; omega))
                refine W.nil ?_
                refine E.blkN ?_
                refine E.thenN ?_
                refine WC.region ?_
                refine W.any (.add rfl rfl (by omega)) rfl rfl rfl ?_
                refine W.any (.move rfl) rfl rfl rfl ?_
                refine W.nil ?_
                have f31 := (((f1_0.le h10_2).ch h10_3 (fun h => (show g10_2 ≠ gp from by have := f1_0.lt; omega) (Option.some.inj h))).ch h12_3_1 (fun h => (show g1_1 ≠ gp from by have := hp0.lt; have := h1_0.size; omega) (Option.some.inj h)))
                have f32 := (((f1_1.le h10_2).ch h10_3 (fun q hq => by cases hq; exact (fun he => by have := (f1_1.row he).2; omega))).ch h12_3_1 (fun q hq => by cases hq; exact (fun he => by have := (hO0.row he).2; have := h1_0.size; omega)))
                have f33 := (((f1_2.le h10_2).ch h10_3 (fun h => (show g10_2 ≠ gs from by have := f1_2.lt; omega) (Option.some.inj h))).ch h12_3_1 (fun h => (show g1_1 ≠ gs from by have := hS0.lt; have := h1_0.size; omega) (Option.some.inj h)))
                have f34 := (((f1_3.le h10_2).ch h10_3 (fun h => (show g10_2 ≠ gh from by have := f1_3.lt; omega) (Option.some.inj h))).ch h12_3_1 (fun h => (show g1_1 ≠ gh from by have := hH0.lt; have := h1_0.size; omega) (Option.some.inj h)))
                have f35 := (((f1_4.le h10_2).ch h10_3 (fun h => (show g10_2 ≠ g1_0 from by have := f1_4.lt; omega) (Option.some.inj h))).ch h12_3_1 (fun h => (show g1_1 ≠ g1_0 from by have := b1_0.lt; omega) (Option.some.inj h)))
                refine E.again (k1 + 1, true, (lc.map fun y => if y.2.1 = ((seats.getD k1 noSeat).ch) then (y.1, ((seats.getD k1 noSeat).ch), true) else y), cc) (.cons rfl (.cons rfl (.cons rfl (.cons rfl (.cons rfl (.cons rfl (.cons rfl (.cons rfl (.cons rfl (.cons rfl (.nil _))))))))))) ?_ ?_
                · exact ⟨by omega, bad_keep (by omega) hbd q11_1, by rw [chans_next (by omega)]; exact hmc.old hk12_3, L30, by have := zl1; have := h10_2.size; have := h10_3.size; have := h12_3_1.size; omega, f31, f32, f33, f34, f35, b12_3_1⟩
                · first | omega | (simp only []; omega)
            · refine W.any (.dec (.move rfl) ((Bool.eq_false_iff.2 q11_1))) rfl rfl rfl ?_
              refine W.rdg (Any.rd (.move rfl) _) rfl rfl rfl (rfl) rfl rfl ?_
              refine W.rdg (Any.rd (.field0 fa33_0 rfl) _) rfl rfl rfl (rfl) rfl rfl ?_
              refine W.rdg (.loadB (v := .int .i64 ((seats.getD k1 noSeat).ch)) na3 rfl b10_3 rfl) rfl rfl rfl (rfl) rfl rfl ?_
              rcases optG (getG ((seats.getD k1 noSeat).ch) lc) with hk11_5 | ⟨vhk11_5, hk11_5⟩
              · have f36 := ((f1_5.le h10_2).ch h10_3 (fun h => (show g10_2 ≠ g1_1 from by have := f1_5.lt; omega) (Option.some.inj h)))
                refine W.rdg (.as (.lookup1 (key := ((seats.getD k1 noSeat).ch)) Try.underlying149 kint z4 rfl rfl f36) (by rw [hk11_5] <;> rfl)) rfl rfl rfl (rfl) rfl rfl ?_
                refine W.any (.pickF rfl rfl rfl) rfl rfl rfl ?_
                refine W.any (.move rfl) rfl rfl rfl ?_
                refine W.rdg (Any.rd (.move rfl) _) rfl rfl rfl (rfl) rfl rfl ?_
                refine W.rdg (.loadAll ag33 (by rfl) rfl b10_3) rfl rfl rfl (rfl) rfl rfl ?_
                have f37 := ((f1_0.le h10_2).ch h10_3 (fun h => (show g10_2 ≠ gp from by have := f1_0.lt; omega) (Option.some.inj h)))
                have f38 := ((f1_1.le h10_2).ch h10_3 (fun q hq => by cases hq; exact (fun he => by have := (f1_1.row he).2; omega)))
                have f39 := ((f1_2.le h10_2).ch h10_3 (fun h => (show g10_2 ≠ gs from by have := f1_2.lt; omega) (Option.some.inj h)))
                have f40 := ((f1_3.le h10_2).ch h10_3 (fun h => (show g10_2 ≠ gh from by have := f1_3.lt; omega) (Option.some.inj h)))
                refine W.efg rfl rfl rfl (rfl) rfl rfl ?_
                refine Ef.call go74 rfl rfl (lmay_ok (seats.getD k1 noSeat) w10_3 (LedL.mk f37 f38 f39 f40 n1 n2 n3 n4 n5 n6)) ?_
                rintro _ w11_10 ⟨bm11_10, rfl, hbm11_10, h11_10⟩
                refine ⟨_, rfl, ?_⟩
                have L41 := L21.le h11_10
                refine W.rdg (Any.rd (.not rfl) _) rfl rfl rfl (rfl) rfl rfl ?_
                refine W.any (.pickF rfl rfl rfl) rfl rfl rfl ?_
                refine W.any (.assign rfl) rfl rfl rfl ?_
                refine W.nil ?_
                refine E.thenN ?_
                refine WC.region ?_
                refine W.any (.move rfl) rfl rfl rfl ?_
                refine W.any (.field0 fa33_0 rfl) rfl rfl rfl ?_
                have f42 := (b10_3.le h11_10)
                refine W.rd (.loadB (v := .int .i64 ((seats.getD k1 noSeat).ch)) na3 rfl f42 rfl) rfl rfl rfl ?_
                have f43 := (f36.le h11_10)
                refine W.ef0 rfl rfl ?_
                refine Ef.insertG (key := ((seats.getD k1 noSeat).ch)) (u := true) Try.underlying149 kint rfl rfl rfl f43 (hk11_5) ?_
                intro w12_3_2 b12_3_2 h12_3_2
                have L44 : ChP w w12_3_2 (LF gp gs gh A c) := L41.ch h12_3_2 (fun i hi hlt => by cases hi; exact absurd hlt (by have := L1.size; have := hg1_1; omega))
                refine W.nil ?_
                refine E.blkN ?_
                refine E.thenN ?_
                refine WC.region ?_
                refine W.any (.add rfl rfl (by omega)) rfl rfl rfl ?_
                refine W.any (.move rfl) rfl rfl rfl ?_
                refine W.nil ?_
                have f45 := ((f37.le h11_10).ch h12_3_2 (fun h => (show g1_1 ≠ gp from by have := hp0.lt; have := h1_0.size; omega) (Option.some.inj h)))
                have f46 := ((f38.le h11_10).ch h12_3_2 (fun q hq => by cases hq; exact (fun he => by have := (hO0.row he).2; have := h1_0.size; omega)))
                have f47 := ((f39.le h11_10).ch h12_3_2 (fun h => (show g1_1 ≠ gs from by have := hS0.lt; have := h1_0.size; omega) (Option.some.inj h)))
                have f48 := ((f40.le h11_10).ch h12_3_2 (fun h => (show g1_1 ≠ gh from by have := hH0.lt; have := h1_0.size; omega) (Option.some.inj h)))
                have f49 := ((((f1_4.le h10_2).ch h10_3 (fun h => (show g10_2 ≠ g1_0 from by have := f1_4.lt; omega) (Option.some.inj h))).le h11_10).ch h12_3_2 (fun h => (show g1_1 ≠ g1_0 from by have := b1_0.lt; omega) (Option.some.inj h)))
                refine E.again (k1 + 1, (!(bm11_10)), (lc ++ [(cc, ((seats.getD k1 noSeat).ch), true)]), (cc + 1)) (.cons rfl (.cons rfl (.cons rfl (.cons rfl (.cons rfl (.cons rfl (.cons rfl (.cons rfl (.cons rfl (.cons rfl (.nil _))))))))))) ?_ ?_
                · exact ⟨by omega, bad_next (by omega) hbd q11_1 (hmc.not hk11_5) hbm11_10, by rw [chans_next (by omega)]; exact hmc.new hk11_5, L44, by have := zl1; have := h10_2.size; have := h10_3.size; have := h11_10.size; have := h12_3_2.size; omega, f45, f46, f47, f48, f49, b12_3_2⟩
                · first | omega | (simp only []; omega)
              · have f50 := ((f1_5.le h10_2).ch h10_3 (fun h => (show g10_2 ≠ g1_1 from by have := f1_5.lt; omega) (Option.some.inj h)))
                refine W.rdg (.as (.lookup1 (key := ((seats.getD k1 noSeat).ch)) Try.underlying149 kint z4 rfl rfl f50) (by rw [hk11_5] <;> rfl)) rfl rfl rfl (rfl) rfl rfl ?_
                refine W.any (.pickF rfl rfl rfl) rfl rfl rfl ?_
                refine W.any (.dec (.move rfl) ((hmc.val hk11_5).1)) rfl rfl rfl ?_
                refine W.skip rfl rfl rfl (rfl) rfl rfl ?_
                refine W.skip rfl rfl rfl (rfl) rfl rfl ?_
                refine W.skip rfl rfl rfl (rfl) rfl rfl ?_
                refine W.skip rfl rfl rfl (rfl) rfl rfl ?_
                refine W.any (.pickT rfl rfl rfl) rfl rfl rfl ?_
                refine W.any (.assign rfl) rfl rfl rfl ?_
                refine W.nil ?_
                refine E.thenN ?_
                refine WC.region ?_
                refine W.any (.move rfl) rfl rfl rfl ?_
                refine W.any (.field0 fa33_0 rfl) rfl rfl rfl ?_
                refine W.rd (.loadB (v := .int .i64 ((seats.getD k1 noSeat).ch)) na3 rfl b10_3 rfl) rfl rfl rfl ?_
                refine W.ef0 rfl rfl ?_
                refine Ef.updateG (key := ((seats.getD k1 noSeat).ch)) (u := true) Try.underlying149 kint rfl rfl rfl f50 stay_i (hk11_5) ?_
                intro w12_3_3 b12_3_3 h12_3_3
                have L51 : ChP w w12_3_3 (LF gp gs gh A c) := L21.ch h12_3_3 (fun i hi hlt => by cases hi; exact absurd hlt (by have := L1.size; have := hg1_1; omega))
                refine W.nil ?_
                refine E.blkN ?_
                refine E.thenN ?_
                refine WC.region ?_
                refine W.any (.add rfl rfl (by omega)) rfl rfl rfl ?_
                refine W.any (.move rfl) rfl rfl rfl ?_
                refine W.nil ?_
                have f52 := (((f1_0.le h10_2).ch h10_3 (fun h => (show g10_2 ≠ gp from by have := f1_0.lt; omega) (Option.some.inj h))).ch h12_3_3 (fun h => (show g1_1 ≠ gp from by have := hp0.lt; have := h1_0.size; omega) (Option.some.inj h)))
                have f53 := (((f1_1.le h10_2).ch h10_3 (fun q hq => by cases hq; exact (fun he => by have := (f1_1.row he).2; omega))).ch h12_3_3 (fun q hq => by cases hq; exact (fun he => by have := (hO0.row he).2; have := h1_0.size; omega)))
                have f54 := (((f1_2.le h10_2).ch h10_3 (fun h => (show g10_2 ≠ gs from by have := f1_2.lt; omega) (Option.some.inj h))).ch h12_3_3 (fun h => (show g1_1 ≠ gs from by have := hS0.lt; have := h1_0.size; omega) (Option.some.inj h)))
                have f55 := (((f1_3.le h10_2).ch h10_3 (fun h => (show g10_2 ≠ gh from by have := f1_3.lt; omega) (Option.some.inj h))).ch h12_3_3 (fun h => (show g1_1 ≠ gh from by have := hH0.lt; have := h1_0.size; omega) (Option.some.inj h)))
                have f56 := (((f1_4.le h10_2).ch h10_3 (fun h => (show g10_2 ≠ g1_0 from by have := f1_4.lt; omega) (Option.some.inj h))).ch h12_3_3 (fun h => (show g1_1 ≠ g1_0 from by have := b1_0.lt; omega) (Option.some.inj h)))
                refine E.again (k1 + 1, true, (lc.map fun y => if y.2.1 = ((seats.getD k1 noSeat).ch) then (y.1, ((seats.getD k1 noSeat).ch), true) else y), cc) (.cons rfl (.cons rfl (.cons rfl (.cons rfl (.cons rfl (.cons rfl (.cons rfl (.cons rfl (.cons rfl (.cons rfl (.nil _))))))))))) ?_ ?_
                · exact ⟨by omega, bad_twice (by omega) (hmc.val hk11_5).2, by rw [chans_next (by omega)]; exact hmc.old hk11_5, L51, by have := zl1; have := h10_2.size; have := h10_3.size; have := h12_3_3.size; omega, f52, f53, f54, f55, f56, b12_3_3⟩
                · first | omega | (simp only []; omega)
          · refine WC.condN rfl (decide_eq_false c1) ?_
            have hbd2 := hbd
            rw [List.take_of_length_le (by omega)] at hbd2
            refine WC.exit ?_
            refine E.thenX ?_
            refine E.thenX ?_
            refine E.blkH ?_
            refine E.thenN ?_
            refine WC.seq ?_
            refine WC.seq ?_
            refine WC.region ?_
            refine W.any (.move rfl) rfl rfl rfl ?_
            by_cases q14_1 : bd = true
            · refine W.any (.dec (.move rfl) (q14_1)) rfl rfl rfl ?_
              refine W.skip rfl rfl rfl (rfl) rfl rfl ?_
              refine W.skip rfl rfl rfl (rfl) rfl rfl ?_
              refine W.any (.pickT rfl rfl rfl) rfl rfl rfl ?_
              refine W.nil ?_
              refine E.thenN ?_
              refine WC.condT rfl ?_
              refine WC.seq ?_
              refine WC.region ?_
              refine W.any (.assign rfl) rfl rfl rfl ?_
              refine W.nil ?_
              refine E.thenN ?_
              refine WC.ret ?_
              refine E.thenR ?_
              refine E.retG1 rfl rfl ?_
              have e9 : cutC own.length ls lh old seats fee = 1 := cut_no1 hbd2 q14_1; exact ⟨Ll1, by rw [e9], .inl ⟨by rw [e9]; decide, ⟨f1_0, f1_1, f1_2, f1_3, n1, n2, n3, n4, n5, n6⟩⟩⟩
            · refine W.any (.dec (.move rfl) ((Bool.eq_false_iff.2 q14_1))) rfl rfl rfl ?_
              refine W.rdg (Any.rd (.move rfl) _) rfl rfl rfl (rfl) rfl rfl ?_
              refine W.efg rfl rfl rfl (rfl) rfl rfl ?_
              refine Ef.call go79 rfl rfl (hascoin_ok wl1 (hf.chP Ll1 hfa) (by omega)) ?_
              rintro _ w14_3 ⟨bc14_3, rfl, hbc14_3, h14_3⟩
              refine ⟨_, rfl, ?_⟩
              have L57 := Ll1.le h14_3
              refine W.any (.pickF rfl rfl rfl) rfl rfl rfl ?_
              refine W.nil ?_
              refine E.thenN ?_
              by_cases c2 : bc14_3 = true
              · refine WC.condY rfl (c2) ?_
                refine WC.seq ?_
                refine WC.region ?_
                refine W.any (.assign rfl) rfl rfl rfl ?_
                refine W.nil ?_
                refine E.thenN ?_
                refine WC.ret ?_
                refine E.thenR ?_
                have f58 := (f1_0.le h14_3)
                have f59 := (f1_1.le h14_3)
                have f60 := (f1_2.le h14_3)
                have f61 := (f1_3.le h14_3)
                refine E.retG1 rfl rfl ?_
                have e9 : cutC own.length ls lh old seats fee = 1 := cut_no2 hbc14_3 c2; exact ⟨L57, by rw [e9], .inl ⟨by rw [e9]; decide, ⟨f58, f59, f60, f61, n1, n2, n3, n4, n5, n6⟩⟩⟩
              · refine WC.condN rfl ((Bool.eq_false_iff.2 c2)) ?_
                have hok : cutOk own.length old seats fee := cut_ok hbd2 q14_1 hbc14_3 c2
                have hfo := hok.1.2.2
                refine WC.skip ?_
                refine E.thenN ?_
                refine WC.seq ?_
                refine WC.region ?_
                refine W.any (.move rfl) rfl rfl rfl ?_
                refine W.rd (.len Try.underlying41 rfl) rfl rfl rfl ?_
                refine W.ef rfl rfl rfl ?_
                refine Ef.vmake 0 nf Try.underlying41 el3 iv_row rfl rfl (rfl) rfl (rfl) (by omega) (by unfold maxLen; omega) ?_
                intro g16_2 w16_2 hg16_2 o16_2 h16_2
                have L62 := L57.le h16_2
                refine W.any (.assign rfl) rfl rfl rfl ?_
                refine W.nil ?_
                refine E.thenN ?_
                refine WC.seq ?_
                refine WC.region ?_
                refine W.any (.assign rfl) rfl rfl rfl ?_
                refine W.nil ?_
                refine E.thenN ?_
                refine WC.seq ?_
                refine WC.seq ?_
                refine WC.region ?_
                refine W.any (.move rfl) rfl rfl rfl ?_
                refine W.rd (.len Try.underlying41 rfl) rfl rfl rfl ?_
                refine W.any (.move rfl) rfl rfl rfl ?_
                refine W.nil ?_
                refine E.thenN ?_
                refine WC.block ?_
                have f63 := (f1_0.le (h14_3.trans h16_2))
                have f64 := (f1_1.le (h14_3.trans h16_2))
                have f65 := (f1_2.le (h14_3.trans h16_2))
                have f66 := (f1_3.le (h14_3.trans h16_2))
                have f67 := (f1_4.le (h14_3.trans h16_2))
                refine WC.loop (ι := Nat × Bool) (fun ⟨k2, held⟩ => [(0, .pointer (some ⟨gp, 0, none⟩)), (1, .slice Ao no co), (2, .slice As ns cS), (3, .slice Af nf cf), (9, .map (some g1_0)), (16, .slice (some ⟨g16_2, 0, none⟩) nf nf), (17, .bool (held)), (98, .slice Ao no co), (99, .int .i64 (((no : Nat) : Int))), (100, .int .i64 (((k2 : Nat) : Int)))]) (fun ⟨k2, held⟩ wl2 => (k2 ≤ no) ∧ (∀ i, i < k2 → ∃ t, getG (old.getD i 0) ls = some t) ∧ (held = true ↔ ∃ i, i < k2 ∧ Busy lh (old.getD i 0)) ∧ ChP w wl2 (LF gp gs gh A c) ∧ w16_2.heap.size ≤ wl2.heap.size ∧ Blk wl2 gp 105 #[.slice A own.length c, .map (some gs), .map (some gh), .int .i64 (lost)] ∧ OVec wl2 0 3 iv 1 A own.length c own ∧ MapG wl2 ikf seatf gs ls cs ∧ MapG wl2 plf holdf gh lh ck ∧ MapG wl2 ikf Value.bool g1_0 lg cg ∧ OVec wl2 w14_3.heap.size 3 iv 1 (some ⟨g16_2, 0, none⟩) nf nf (goneO own.length ls (old.take k2))) (fun ⟨k2, held⟩ => no - k2) (0, false) ?_ ?_ ?_
                · exact .cons rfl (.cons rfl (.cons rfl (.cons rfl (.cons rfl (.cons rfl (.cons rfl (.cons rfl (.cons rfl (.cons rfl (.nil _))))))))))
                · exact ⟨Nat.zero_le _, fun i hi => by omega, ⟨fun h => (by cases h), fun ⟨i, hi, _⟩ => (by omega)⟩, L62, Nat.le_refl _, f63, f64, f65, f66, f67, (o16_2.cast rfl (by unfold goneO; rw [show nf = own.length by omega]; rfl))⟩
                · rintro ⟨k2, held⟩ wl2 ⟨hk2, hth, hhd, Ll2, zl2, f2_0, f2_1, f2_2, f2_3, f2_4, f2_5⟩
                  have lb2_11 : w14_3.heap.size ≤ wl2.heap.size := by have := h16_2.size; omega
                  have hgb := gone_at hseat k2 (by omega) hth
                  refine WC.seq ?_
                  refine WC.region ?_
                  refine W.any (.lss rfl rfl) rfl rfl rfl ?_
                  refine W.nil ?_
                  refine E.thenN ?_
                  refine WC.seq ?_
                  by_cases c3 : ((k2 : Nat) : Int) < ((no : Nat) : Int)
                  · refine WC.condY rfl (decide_eq_true c3) ?_
                    refine WC.skip ?_
                    refine E.thenN ?_
                    refine WC.seq ?_
                    refine WC.block ?_
                    refine WC.seq ?_
                    refine WC.region ?_
                    refine W.any (.idxS (k2) Try.underlying41 sz3 rfl rfl (ho.isSome iv_row (by omega)) (rfl) (by omega)) rfl rfl rfl ?_
                    refine W.rd (.vone (v := .int .i64 ((old.getD k2 0))) na3 rfl (ho.chP Ll2 hoa) iv_row (getS old 0 (by first | omega | (simp only [List.length_cons, List.length_nil]; omega))) rfl) rfl rfl rfl ?_
                    refine W.any (.assign rfl) rfl rfl rfl ?_
                    refine W.nil ?_
                    refine E.thenN ?_
                    refine WC.seq ?_
                    refine WC.region ?_
                    refine W.any (.move rfl) rfl rfl rfl ?_
                    refine W.any (.nilCheck rfl) rfl rfl rfl ?_
                    refine W.any (.field0 fa105_1 rfl) rfl rfl rfl ?_
                    refine W.rd (.loadB (v := .map (some gs)) na101 rfl f2_0 rfl) rfl rfl rfl ?_
                    refine W.any (.move rfl) rfl rfl rfl ?_
                    rcases optG (getG (old.getD k2 0) ls) with hk21_5 | ⟨vhk21_5, hk21_5⟩
                    · refine W.rd (.as (.lookup2 (key := (old.getD k2 0)) Try.underlying101 kint z33 rfl rfl f2_2) (by rw [hk21_5] <;> rfl)) rfl rfl rfl ?_
                      refine W.any (.move rfl) rfl rfl rfl ?_
                      refine W.any (.extract (v := .agg (seatV noSeat).toArray) rfl rfl) rfl rfl rfl ?_
                      refine W.any (.extract (v := .bool false) rfl rfl) rfl rfl rfl ?_
                      refine W.ef rfl rfl rfl ?_
                      refine Ef.allocA z33 ?_
                      intro g21_9 w21_9 hg21_9 b21_9 h21_9
                      have L68 := Ll2.le h21_9
                      have b21_9 : Blk w21_9 g21_9 33 (seatV noSeat).toArray := b21_9
                      refine W.ef0 rfl rfl ?_
                      refine Ef.storeAll sz33 (by rfl) rfl rfl b21_9 (by rfl) (seatV_row.one noSeat) ?_
                      intro w21_10 b21_10 h21_10
                      have b21_10 : Blk w21_10 g21_9 33 (seatV noSeat).toArray := b21_10
                      have L69 : ChP w w21_10 (LF gp gs gh A c) := L68.ch h21_10 (fun i hi hlt => by cases hi; exact absurd hlt (by have := Ll2.size; have := hg21_9; omega))
                      refine W.any (.assign rfl) rfl rfl rfl ?_
                      refine W.nil ?_
                      refine E.thenN ?_
                      refine WC.seq ?_
                      refine WC.seq ?_
                      refine WC.region ?_
                      refine W.any (.move rfl) rfl rfl rfl ?_
                      refine W.any (.not rfl) rfl rfl rfl ?_
                      refine W.nil ?_
                      refine E.thenN ?_
                      refine WC.condT rfl ?_
                      refine WC.seq ?_
                      refine WC.region ?_
                      refine W.any (.assign rfl) rfl rfl rfl ?_
                      refine W.nil ?_
                      refine E.thenN ?_
                      refine WC.ret ?_
                      refine E.thenR ?_
                      refine E.blkR ?_
                      refine E.thenR ?_
                      refine E.thenR ?_
                      refine E.blkR ?_
                      refine E.thenR ?_
                      have f70 := ((f2_0.le h21_9).ch h21_10 (fun h => (show g21_9 ≠ gp from by have := f2_0.lt; omega) (Option.some.inj h)))
                      have f71 := ((f2_1.le h21_9).ch h21_10 (fun q hq => by cases hq; exact (fun he => by have := (f2_1.row he).2; omega)))
                      have f72 := ((f2_2.le h21_9).ch h21_10 (fun h => (show g21_9 ≠ gs from by have := f2_2.lt; omega) (Option.some.inj h)))
                      have f73 := ((f2_3.le h21_9).ch h21_10 (fun h => (show g21_9 ≠ gh from by have := f2_3.lt; omega) (Option.some.inj h)))
                      refine E.retG1 rfl rfl ?_
                      have e9 : cutC own.length ls lh old seats fee = 5 := cutC_5 hok (by omega) hk21_5; exact ⟨L69, by rw [e9], .inl ⟨by rw [e9]; decide, ⟨f70, f71, f72, f73, n1, n2, n3, n4, n5, n6⟩⟩⟩
                    · obtain ⟨bh, hbh⟩ := getG_mem hk21_5
                      have hso : seatOk own.length vhk21_5 := hseat _ hbh
                      refine W.rd (.as (.lookup2 (key := (old.getD k2 0)) Try.underlying101 kint z33 rfl rfl f2_2) (by rw [hk21_5] <;> rfl)) rfl rfl rfl ?_
                      refine W.any (.move rfl) rfl rfl rfl ?_
                      refine W.any (.extract (v := .agg (seatV vhk21_5).toArray) rfl rfl) rfl rfl rfl ?_
                      refine W.any (.extract (v := .bool true) rfl rfl) rfl rfl rfl ?_
                      refine W.ef rfl rfl rfl ?_
                      refine Ef.allocA z33 ?_
                      intro g21_9_1 w21_9_1 hg21_9_1 b21_9_1 h21_9_1
                      have L74 := Ll2.le h21_9_1
                      have b21_9_1 : Blk w21_9_1 g21_9_1 33 (seatV noSeat).toArray := b21_9_1
                      refine W.ef0 rfl rfl ?_
                      refine Ef.storeAll sz33 (by rfl) rfl rfl b21_9_1 (by rfl) (seatV_row.one vhk21_5) ?_
                      intro w21_10_1 b21_10_1 h21_10_1
                      have b21_10_1 : Blk w21_10_1 g21_9_1 33 (seatV vhk21_5).toArray := b21_10_1
                      have L75 : ChP w w21_10_1 (LF gp gs gh A c) := L74.ch h21_10_1 (fun i hi hlt => by cases hi; exact absurd hlt (by have := Ll2.size; have := hg21_9_1; omega))
                      refine W.any (.assign rfl) rfl rfl rfl ?_
                      refine W.nil ?_
                      refine E.thenN ?_
                      refine WC.seq ?_
                      refine WC.seq ?_
                      refine WC.region ?_
                      refine W.any (.move rfl) rfl rfl rfl ?_
                      refine W.any (.not rfl) rfl rfl rfl ?_
                      refine W.nil ?_
                      refine E.thenN ?_
                      refine WC.condF rfl ?_
                      refine WC.skip ?_
                      refine E.thenN ?_
                      refine WC.seq ?_
                      refine WC.region ?_
                      refine W.any (.move rfl) rfl rfl rfl ?_
                      by_cases q24_1 : held = true
                      · refine W.any (.dec (.move rfl) (q24_1)) rfl rfl rfl ?_
                        refine W.skip rfl rfl rfl (rfl) rfl rfl ?_
                        refine W.skip rfl rfl rfl (rfl) rfl rfl ?_
                        refine W.skip rfl rfl rfl (rfl) rfl rfl ?_
                        refine W.skip rfl rfl rfl (rfl) rfl rfl ?_
                        refine W.any (.pickT rfl rfl rfl) rfl rfl rfl ?_
                        refine W.any (.assign rfl) rfl rfl rfl ?_
                        refine W.nil ?_
                        refine E.thenN ?_
                        refine WC.seq ?_
                        refine WC.region ?_
                        refine W.any (.field0 fa33_1 rfl) rfl rfl rfl ?_
                        refine W.rd (.bpart [.int .i64 (vhk21_5.p0), .int .i64 (vhk21_5.p1)] ag31 rfl (by decide) rfl b21_10_1 rfl) rfl rfl rfl ?_
                        refine W.any (.move rfl) rfl rfl rfl ?_
                        refine W.nil ?_
                        refine E.thenN ?_
                        refine WC.block ?_
                        have f76 := ((f2_5.le h21_9_1).ch h21_10_1 (fun q hq => by cases hq; exact (fun he => by have := (f2_5.row he).2; omega)))
                        have f77 := ((f2_0.le h21_9_1).ch h21_10_1 (fun h => (show g21_9_1 ≠ gp from by have := f2_0.lt; omega) (Option.some.inj h)))
                        have f78 := ((f2_1.le h21_9_1).ch h21_10_1 (fun q hq => by cases hq; exact (fun he => by have := (f2_1.row he).2; omega)))
                        have f79 := ((f2_2.le h21_9_1).ch h21_10_1 (fun h => (show g21_9_1 ≠ gs from by have := f2_2.lt; omega) (Option.some.inj h)))
                        have f80 := ((f2_3.le h21_9_1).ch h21_10_1 (fun h => (show g21_9_1 ≠ gh from by have := f2_3.lt; omega) (Option.some.inj h)))
                        have f81 := ((f2_4.le h21_9_1).ch h21_10_1 (fun h => (show g21_9_1 ≠ g1_0 from by have := f2_4.lt; omega) (Option.some.inj h)))
                        refine WC.loop (ι := Nat) (fun k3 => [(0, .pointer (some ⟨gp, 0, none⟩)), (1, .slice Ao no co), (2, .slice As ns cS), (3, .slice Af nf cf), (9, .map (some g1_0)), (16, .slice (some ⟨g16_2, 0, none⟩) nf nf), (17, .bool true), (20, .pointer (some ⟨g21_9_1, 0, none⟩)), (98, .slice Ao no co), (99, .int .i64 (((no : Nat) : Int))), (100, .int .i64 (((k2 : Nat) : Int))), (123, .agg #[.int .i64 (vhk21_5.p0), .int .i64 (vhk21_5.p1)]), (124, .int .i64 (((k3 : Nat) : Int)))]) (fun k3 wl3 => (k3 ≤ 2) ∧ ChP w wl3 (LF gp gs gh A c) ∧ w21_10_1.heap.size ≤ wl3.heap.size ∧ Blk wl3 gp 105 #[.slice A own.length c, .map (some gs), .map (some gh), .int .i64 (lost)] ∧ OVec wl3 0 3 iv 1 A own.length c own ∧ MapG wl3 ikf seatf gs ls cs ∧ MapG wl3 plf holdf gh lh ck ∧ MapG wl3 ikf Value.bool g1_0 lg cg ∧ OVec wl3 w14_3.heap.size 3 iv 1 (some ⟨g16_2, 0, none⟩) nf nf (addS (goneO own.length ls (old.take k2)) vhk21_5 k3) ∧ Blk wl3 g21_9_1 33 (seatV vhk21_5).toArray) (fun k3 => 2 - k3) 0 ?_ ?_ ?_
                        · exact .cons rfl (.cons rfl (.cons rfl (.cons rfl (.cons rfl (.cons rfl (.cons rfl (.cons rfl (.cons rfl (.cons rfl (.cons rfl (.cons rfl (.cons rfl (.nil _)))))))))))))
                        · exact ⟨Nat.zero_le _, L75, Nat.le_refl _, f77, f78, f79, f80, f81, f76, b21_10_1⟩
                        · rintro k3 wl3 ⟨hk3, Ll3, zl3, f3_0, f3_1, f3_2, f3_3, f3_4, f3_5, f3_6⟩
                          have lb3_11 : w14_3.heap.size ≤ wl3.heap.size := Nat.le_trans lb2_11 (by have := h21_9_1.size; have := h21_10_1.size; omega)
                          have hpz := hso.1
                          have hab := addS_at hso.2.2.2.1 hso.2.2.2.2 hgb k3 hk3
                          refine WC.seq ?_
                          refine WC.region ?_
                          refine W.any (.lss rfl rfl) rfl rfl rfl ?_
                          refine W.nil ?_
                          refine E.thenN ?_
                          refine WC.seq ?_
                          by_cases c5 : ((k3 : Nat) : Int) < 2
                          · refine WC.condY rfl (decide_eq_true c5) ?_
                            refine WC.skip ?_
                            refine E.thenN ?_
                            refine WC.seq ?_
                            refine WC.block ?_
                            refine WC.seq ?_
                            refine WC.region ?_
                            refine W.any (.move rfl) rfl rfl rfl ?_
                            refine W.any (.index1 (v := .int .i64 ((vhk21_5.p k3))) (k3) Try.underlying31 sz3 na3 rfl rfl (rfl) (by omega) (seatP_ix vhk21_5 (by omega))) rfl rfl rfl ?_
                            refine W.any (.assign rfl) rfl rfl rfl ?_
                            refine W.any (.assign rfl) rfl rfl rfl ?_
                            refine W.nil ?_
                            refine E.thenN ?_
                            refine WC.draw [0, 1, 2, 3, 4, 5, 6, 7, 8, 9, 10] mixed (by kernel_rfl) ?_
                            intro w28 d28
                            have L82 := Ll3.le d28
                            refine G.any rfl rfl (.move rfl) rfl rfl rfl ?_
                            refine G.any rfl rfl (.move rfl) rfl rfl rfl ?_
                            refine G.any rfl rfl (.idxS ((vhk21_5.p k3).toNat) Try.underlying41 sz3 rfl rfl (o16_2.vec.isSome iv_row (by omega)) (by have := (seatOk_at hso (k := k3) (by omega)).1; omega) (by have := (seatOk_at hso (k := k3) (by omega)).1; omega)) rfl rfl rfl ?_
                            have f83 := (f3_5.le d28)
                            refine G.rd rfl rfl (.vone (v := .int .i64 (((addS (goneO own.length ls (old.take k2)) vhk21_5 k3).getD ((vhk21_5.p k3).toNat) 0))) na3 rfl f83.vec iv_row (getS (addS (goneO own.length ls (old.take k2)) vhk21_5 k3) 0 (by rw [addS_len, goneO_len]; have := (seatOk_at hso (k := k3) (by omega)).1; omega)) rfl) rfl rfl rfl ?_
                            refine G.any rfl rfl (.move rfl) rfl rfl rfl ?_
                            refine G.any rfl rfl (.field0 fa33_2 rfl) rfl rfl rfl ?_
                            refine G.any rfl rfl (.idxAo (k3) Try.underlying31 sz3 rfl rfl (rfl) (by omega)) rfl rfl rfl ?_
                            have f84 := (f3_6.le d28)
                            refine G.rd rfl rfl (.loadB (v := .int .i64 ((vhk21_5.h k3))) na3 rfl f84 (seatH_at vhk21_5 (by omega))) rfl rfl rfl ?_
                            refine G.any rfl rfl (.add rfl rfl (by have := hab (vhk21_5.p k3).toNat; have := (seatOk_at hso (k := k3) (by omega)).2; omega)) rfl rfl rfl ?_
                            refine G.any rfl rfl (.idxS ((vhk21_5.p k3).toNat) Try.underlying41 sz3 rfl rfl (o16_2.vec.isSome iv_row (by omega)) (by have := (seatOk_at hso (k := k3) (by omega)).1; omega) (by have := (seatOk_at hso (k := k3) (by omega)).1; omega)) rfl rfl rfl ?_
                            refine G.ef0 rfl rfl rfl rfl ?_
                            refine Ef.vset (j := (vhk21_5.p k3).toNat) (o := 0) (((addS (goneO own.length ls (old.take k2)) vhk21_5 k3).getD ((vhk21_5.p k3).toNat) 0) + (vhk21_5.h k3)) sz3 rfl (by omega) rfl f83 iv_row (getS (addS (goneO own.length ls (old.take k2)) vhk21_5 k3) 0 (by rw [addS_len, goneO_len]; have := (seatOk_at hso (k := k3) (by omega)).1; omega)) (by decide) rfl rfl ?_
                            intro w28_10 o28_10 h28_10
                            refine ⟨fun h => absurd h (ne_true_of_eq_false (by kernel_rfl)), ?_⟩
                            have L85 : ChP w w28_10 (LF gp gs gh A c) := L82.ch h28_10 (fun i hi hlt => absurd hlt (by have := (f83.row hi).1; have := L57.size; omega))
                            refine G.nil ?_
                            refine E.blkN ?_
                            refine E.thenN ?_
                            refine WC.region ?_
                            refine W.any (.add rfl rfl (by omega)) rfl rfl rfl ?_
                            refine W.any (.move rfl) rfl rfl rfl ?_
                            refine W.nil ?_
                            have f86 := ((f3_0.le d28).ch h28_10 (fun he => by have := (f83.row he).1; have := f1_0.lt; have := h14_3.size; omega))
                            have f87 := ((f3_1.le d28).ch h28_10 ((Apart.symm (fun q h1 h2 => by have := (f1_1.row h1).2; have := (f83.row h2).1; have := h14_3.size; omega))))
                            have f88 := ((f3_2.le d28).ch h28_10 (fun he => by have := (f83.row he).1; have := f1_2.lt; have := h14_3.size; omega))
                            have f89 := ((f3_3.le d28).ch h28_10 (fun he => by have := (f83.row he).1; have := f1_3.lt; have := h14_3.size; omega))
                            have f90 := ((f3_4.le d28).ch h28_10 (fun he => by have := (f83.row he).1; have := f1_4.lt; have := h14_3.size; omega))
                            have f91 := (f84.ch h28_10 (fun he => by have := (f2_5.row he).2; omega))
                            refine E.again (k3 + 1) (.cons rfl (.cons rfl (.cons rfl (.cons rfl (.cons rfl (.cons rfl (.cons rfl (.cons rfl (.cons rfl (.cons rfl (.cons rfl (.cons rfl (.cons rfl (.nil _)))))))))))))) ?_ ?_
                            · exact ⟨by omega, L85, by have := zl3; have := d28.size; have := h28_10.size; omega, f86, f87, f88, f89, f90, o28_10, f91⟩
                            · first | omega | (simp only []; omega)
                          · refine WC.condN rfl (decide_eq_false c5) ?_
                            refine WC.exit ?_
                            refine E.thenX ?_
                            refine E.thenX ?_
                            refine E.blkH ?_
                            refine E.blkN ?_
                            refine E.thenN ?_
                            refine WC.region ?_
                            refine W.any (.add rfl rfl (by omega)) rfl rfl rfl ?_
                            refine W.any (.move rfl) rfl rfl rfl ?_
                            refine W.nil ?_
                            refine E.again (k2 + 1, true) (.cons rfl (.cons rfl (.cons rfl (.cons rfl (.cons rfl (.cons rfl (.cons rfl (.cons rfl (.cons rfl (.cons rfl (.nil _))))))))))) ?_ ?_
                            · exact ⟨by omega, fun i hi => (Nat.lt_succ_iff_lt_or_eq.1 hi).elim (hth i) (fun hh => by subst hh; exact ⟨_, hk21_5⟩), held_keep hhd q24_1, Ll3, by have := zl2; have := zl0; have := zl1; have := zl3; have := sc2; have := h1_0.size; have := h1_1.size; have := h14_3.size; have := h16_2.size; have := h21_9_1.size; have := h21_10_1.size; omega, f3_0, f3_1, f3_2, f3_3, f3_4, (f3_5.cast rfl (by have e3 : k3 = 2 := (by omega); rw [e3, goneO_next (by omega)]; unfold seatAt'; rw [hk21_5]; rfl))⟩
                            · first | omega | (simp only []; omega)
                      · refine W.any (.dec (.move rfl) ((Bool.eq_false_iff.2 q24_1))) rfl rfl rfl ?_
                        refine W.rdg (Any.rd (.move rfl) _) rfl rfl rfl (rfl) rfl rfl ?_
                        refine W.rdg (Any.rd (.move rfl) _) rfl rfl rfl (rfl) rfl rfl ?_
                        have f92 := ((f2_0.le h21_9_1).ch h21_10_1 (fun h => (show g21_9_1 ≠ gp from by have := f2_0.lt; omega) (Option.some.inj h)))
                        have f93 := ((f2_1.le h21_9_1).ch h21_10_1 (fun q hq => by cases hq; exact (fun he => by have := (f2_1.row he).2; omega)))
                        have f94 := ((f2_2.le h21_9_1).ch h21_10_1 (fun h => (show g21_9_1 ≠ gs from by have := f2_2.lt; omega) (Option.some.inj h)))
                        have f95 := ((f2_3.le h21_9_1).ch h21_10_1 (fun h => (show g21_9_1 ≠ gh from by have := f2_3.lt; omega) (Option.some.inj h)))
                        refine W.efg rfl rfl rfl (rfl) rfl rfl ?_
                        refine Ef.call go78 rfl rfl (lfree_ok (old.getD k2 0) w21_10_1 (LedL.mk f92 f93 f94 f95 n1 n2 n3 n4 n5 n6) hb (hq _ 0) (hq _ 1)) ?_
                        rintro _ w24_4 ⟨rfl, h24_4⟩
                        refine ⟨_, rfl, ?_⟩
                        have L96 := L75.le h24_4
                        refine W.rdg (Any.rd (.not rfl) _) rfl rfl rfl (rfl) rfl rfl ?_
                        refine W.any (.pickF rfl rfl rfl) rfl rfl rfl ?_
                        refine W.any (.assign rfl) rfl rfl rfl ?_
                        refine W.nil ?_
                        refine E.thenN ?_
                        refine WC.seq ?_
                        refine WC.region ?_
                        refine W.any (.field0 fa33_1 rfl) rfl rfl rfl ?_
                        have f97 := (b21_10_1.le h24_4)
                        refine W.rd (.bpart [.int .i64 (vhk21_5.p0), .int .i64 (vhk21_5.p1)] ag31 rfl (by decide) rfl f97 rfl) rfl rfl rfl ?_
                        refine W.any (.move rfl) rfl rfl rfl ?_
                        refine W.nil ?_
                        refine E.thenN ?_
                        refine WC.block ?_
                        have f98 := (((f2_5.le h21_9_1).ch h21_10_1 (fun q hq => by cases hq; exact (fun he => by have := (f2_5.row he).2; omega))).le h24_4)
                        have f99 := (f92.le h24_4)
                        have f100 := (f93.le h24_4)
                        have f101 := (f94.le h24_4)
                        have f102 := (f95.le h24_4)
                        have f103 := (((f2_4.le h21_9_1).ch h21_10_1 (fun h => (show g21_9_1 ≠ g1_0 from by have := f2_4.lt; omega) (Option.some.inj h))).le h24_4)
                        refine WC.loop (ι := Nat) (fun k3 => [(0, .pointer (some ⟨gp, 0, none⟩)), (1, .slice Ao no co), (2, .slice As ns cS), (3, .slice Af nf cf), (9, .map (some g1_0)), (16, .slice (some ⟨g16_2, 0, none⟩) nf nf), (17, .bool (!(decide (heldL lh (old.getD k2 0) 0 + heldL lh (old.getD k2 0) 1 = 0)))), (20, .pointer (some ⟨g21_9_1, 0, none⟩)), (98, .slice Ao no co), (99, .int .i64 (((no : Nat) : Int))), (100, .int .i64 (((k2 : Nat) : Int))), (123, .agg #[.int .i64 (vhk21_5.p0), .int .i64 (vhk21_5.p1)]), (124, .int .i64 (((k3 : Nat) : Int)))]) (fun k3 wl3 => (k3 ≤ 2) ∧ ChP w wl3 (LF gp gs gh A c) ∧ w24_4.heap.size ≤ wl3.heap.size ∧ Blk wl3 gp 105 #[.slice A own.length c, .map (some gs), .map (some gh), .int .i64 (lost)] ∧ OVec wl3 0 3 iv 1 A own.length c own ∧ MapG wl3 ikf seatf gs ls cs ∧ MapG wl3 plf holdf gh lh ck ∧ MapG wl3 ikf Value.bool g1_0 lg cg ∧ OVec wl3 w14_3.heap.size 3 iv 1 (some ⟨g16_2, 0, none⟩) nf nf (addS (goneO own.length ls (old.take k2)) vhk21_5 k3) ∧ Blk wl3 g21_9_1 33 (seatV vhk21_5).toArray) (fun k3 => 2 - k3) 0 ?_ ?_ ?_
                        · exact .cons rfl (.cons rfl (.cons rfl (.cons rfl (.cons rfl (.cons rfl (.cons rfl (.cons rfl (.cons rfl (.cons rfl (.cons rfl (.cons rfl (.cons rfl (.nil _)))))))))))))
                        · exact ⟨Nat.zero_le _, L96, Nat.le_refl _, f99, f100, f101, f102, f103, f98, f97⟩
                        · rintro k3 wl3 ⟨hk3, Ll3, zl3, f3_0, f3_1, f3_2, f3_3, f3_4, f3_5, f3_6⟩
                          have lb3_11 : w14_3.heap.size ≤ wl3.heap.size := Nat.le_trans lb2_11 (by have := h21_9_1.size; have := h21_10_1.size; have := h24_4.size; omega)
                          have hpz := hso.1
                          have hab := addS_at hso.2.2.2.1 hso.2.2.2.2 hgb k3 hk3
                          refine WC.seq ?_
                          refine WC.region ?_
                          refine W.any (.lss rfl rfl) rfl rfl rfl ?_
                          refine W.nil ?_
                          refine E.thenN ?_
                          refine WC.seq ?_
                          by_cases c5 : ((k3 : Nat) : Int) < 2
                          · refine WC.condY rfl (decide_eq_true c5) ?_
                            refine WC.skip ?_
                            refine E.thenN ?_
                            refine WC.seq ?_
                            refine WC.block ?_
                            refine WC.seq ?_
                            refine WC.region ?_
                            refine W.any (.move rfl) rfl rfl rfl ?_
                            refine W.any (.index1 (v := .int .i64 ((vhk21_5.p k3))) (k3) Try.underlying31 sz3 na3 rfl rfl (rfl) (by omega) (seatP_ix vhk21_5 (by omega))) rfl rfl rfl ?_
                            refine W.any (.assign rfl) rfl rfl rfl ?_
                            refine W.any (.assign rfl) rfl rfl rfl ?_
                            refine W.nil ?_
                            refine E.thenN ?_
                            refine WC.draw [0, 1, 2, 3, 4, 5, 6, 7, 8, 9, 10] mixed (by kernel_rfl) ?_
                            intro w28 d28
                            have L104 := Ll3.le d28
                            refine G.any rfl rfl (.move rfl) rfl rfl rfl ?_
                            refine G.any rfl rfl (.move rfl) rfl rfl rfl ?_
                            refine G.any rfl rfl (.idxS ((vhk21_5.p k3).toNat) Try.underlying41 sz3 rfl rfl (o16_2.vec.isSome iv_row (by omega)) (by have := (seatOk_at hso (k := k3) (by omega)).1; omega) (by have := (seatOk_at hso (k := k3) (by omega)).1; omega)) rfl rfl rfl ?_
                            have f105 := (f3_5.le d28)
                            refine G.rd rfl rfl (.vone (v := .int .i64 (((addS (goneO own.length ls (old.take k2)) vhk21_5 k3).getD ((vhk21_5.p k3).toNat) 0))) na3 rfl f105.vec iv_row (getS (addS (goneO own.length ls (old.take k2)) vhk21_5 k3) 0 (by rw [addS_len, goneO_len]; have := (seatOk_at hso (k := k3) (by omega)).1; omega)) rfl) rfl rfl rfl ?_
                            refine G.any rfl rfl (.move rfl) rfl rfl rfl ?_
                            refine G.any rfl rfl (.field0 fa33_2 rfl) rfl rfl rfl ?_
                            refine G.any rfl rfl (.idxAo (k3) Try.underlying31 sz3 rfl rfl (rfl) (by omega)) rfl rfl rfl ?_
                            have f106 := (f3_6.le d28)
                            refine G.rd rfl rfl (.loadB (v := .int .i64 ((vhk21_5.h k3))) na3 rfl f106 (seatH_at vhk21_5 (by omega))) rfl rfl rfl ?_
                            refine G.any rfl rfl (.add rfl rfl (by have := hab (vhk21_5.p k3).toNat; have := (seatOk_at hso (k := k3) (by omega)).2; omega)) rfl rfl rfl ?_
                            refine G.any rfl rfl (.idxS ((vhk21_5.p k3).toNat) Try.underlying41 sz3 rfl rfl (o16_2.vec.isSome iv_row (by omega)) (by have := (seatOk_at hso (k := k3) (by omega)).1; omega) (by have := (seatOk_at hso (k := k3) (by omega)).1; omega)) rfl rfl rfl ?_
                            refine G.ef0 rfl rfl rfl rfl ?_
                            refine Ef.vset (j := (vhk21_5.p k3).toNat) (o := 0) (((addS (goneO own.length ls (old.take k2)) vhk21_5 k3).getD ((vhk21_5.p k3).toNat) 0) + (vhk21_5.h k3)) sz3 rfl (by omega) rfl f105 iv_row (getS (addS (goneO own.length ls (old.take k2)) vhk21_5 k3) 0 (by rw [addS_len, goneO_len]; have := (seatOk_at hso (k := k3) (by omega)).1; omega)) (by decide) rfl rfl ?_
                            intro w28_10_1 o28_10_1 h28_10_1
                            refine ⟨fun h => absurd h (ne_true_of_eq_false (by kernel_rfl)), ?_⟩
                            have L107 : ChP w w28_10_1 (LF gp gs gh A c) := L104.ch h28_10_1 (fun i hi hlt => absurd hlt (by have := (f105.row hi).1; have := L57.size; omega))
                            refine G.nil ?_
                            refine E.blkN ?_
                            refine E.thenN ?_
                            refine WC.region ?_
                            refine W.any (.add rfl rfl (by omega)) rfl rfl rfl ?_
                            refine W.any (.move rfl) rfl rfl rfl ?_
                            refine W.nil ?_
                            have f108 := ((f3_0.le d28).ch h28_10_1 (fun he => by have := (f105.row he).1; have := f1_0.lt; have := h14_3.size; omega))
                            have f109 := ((f3_1.le d28).ch h28_10_1 ((Apart.symm (fun q h1 h2 => by have := (f1_1.row h1).2; have := (f105.row h2).1; have := h14_3.size; omega))))
                            have f110 := ((f3_2.le d28).ch h28_10_1 (fun he => by have := (f105.row he).1; have := f1_2.lt; have := h14_3.size; omega))
                            have f111 := ((f3_3.le d28).ch h28_10_1 (fun he => by have := (f105.row he).1; have := f1_3.lt; have := h14_3.size; omega))
                            have f112 := ((f3_4.le d28).ch h28_10_1 (fun he => by have := (f105.row he).1; have := f1_4.lt; have := h14_3.size; omega))
                            have f113 := (f106.ch h28_10_1 (fun he => by have := (f2_5.row he).2; omega))
                            refine E.again (k3 + 1) (.cons rfl (.cons rfl (.cons rfl (.cons rfl (.cons rfl (.cons rfl (.cons rfl (.cons rfl (.cons rfl (.cons rfl (.cons rfl (.cons rfl (.cons rfl (.nil _)))))))))))))) ?_ ?_
                            · exact ⟨by omega, L107, by have := zl3; have := d28.size; have := h28_10_1.size; omega, f108, f109, f110, f111, f112, o28_10_1, f113⟩
                            · first | omega | (simp only []; omega)
                          · refine WC.condN rfl (decide_eq_false c5) ?_
                            refine WC.exit ?_
                            refine E.thenX ?_
                            refine E.thenX ?_
                            refine E.blkH ?_
                            refine E.blkN ?_
                            refine E.thenN ?_
                            refine WC.region ?_
                            refine W.any (.add rfl rfl (by omega)) rfl rfl rfl ?_
                            refine W.any (.move rfl) rfl rfl rfl ?_
                            refine W.nil ?_
                            refine E.again (k2 + 1, (!(decide (heldL lh (old.getD k2 0) 0 + heldL lh (old.getD k2 0) 1 = 0)))) (.cons rfl (.cons rfl (.cons rfl (.cons rfl (.cons rfl (.cons rfl (.cons rfl (.cons rfl (.cons rfl (.cons rfl (.nil _))))))))))) ?_ ?_
                            · exact ⟨by omega, fun i hi => (Nat.lt_succ_iff_lt_or_eq.1 hi).elim (hth i) (fun hh => by subst hh; exact ⟨_, hk21_5⟩), held_next hhd q24_1, Ll3, by have := zl2; have := zl0; have := zl1; have := zl3; have := sc2; have := h1_0.size; have := h1_1.size; have := h14_3.size; have := h16_2.size; have := h21_9_1.size; have := h21_10_1.size; have := h24_4.size; omega, f3_0, f3_1, f3_2, f3_3, f3_4, (f3_5.cast rfl (by have e3 : k3 = 2 := (by omega); rw [e3, goneO_next (by omega)]; unfold seatAt'; rw [hk21_5]; rfl))⟩
                            · first | omega | (simp only []; omega)
                  · refine WC.condN rfl (decide_eq_false c3) ?_
                    have ht5 := all_there hth (by omega)
                    have hg2 := hgb
                    rw [List.take_of_length_le (by omega)] at hg2
                    refine WC.exit ?_
                    refine E.thenX ?_
                    refine E.thenX ?_
                    refine E.blkH ?_
                    refine E.thenN ?_
                    refine WC.seq ?_
                    refine WC.seq ?_
                    refine WC.region ?_
                    refine W.any (.move rfl) rfl rfl rfl ?_
                    refine W.nil ?_
                    refine E.thenN ?_
                    by_cases c6 : held = true
                    · refine WC.condY rfl (c6) ?_
                      refine WC.seq ?_
                      refine WC.region ?_
                      refine W.any (.assign rfl) rfl rfl rfl ?_
                      refine W.nil ?_
                      refine E.thenN ?_
                      refine WC.ret ?_
                      refine E.thenR ?_
                      refine E.retG1 rfl rfl ?_
                      have e9 : cutC own.length ls lh old seats fee = 14 := cutC_14 hok ht5 (by omega) hhd c6; exact ⟨Ll2, by rw [e9], .inl ⟨by rw [e9]; decide, ⟨f2_0, f2_1, f2_2, f2_3, n1, n2, n3, n4, n5, n6⟩⟩⟩
                    · refine WC.condN rfl ((Bool.eq_false_iff.2 c6)) ?_
                      have ht14 := not_busy (by omega) hhd c6
                      refine WC.skip ?_
                      refine E.thenN ?_
                      refine WC.seq ?_
                      refine WC.seq ?_
                      refine WC.region ?_
                      refine W.any (.move rfl) rfl rfl rfl ?_
                      refine W.rd (.len Try.underlying50 rfl) rfl rfl rfl ?_
                      refine W.any (.move rfl) rfl rfl rfl ?_
                      refine W.nil ?_
                      refine E.thenN ?_
                      refine WC.block ?_
                      refine WC.loop (ι := Nat) (fun k4 => [(0, .pointer (some ⟨gp, 0, none⟩)), (1, .slice Ao no co), (2, .slice As ns cS), (3, .slice Af nf cf), (9, .map (some g1_0)), (16, .slice (some ⟨g16_2, 0, none⟩) nf nf), (141, .slice As ns cS), (142, .int .i64 (((ns : Nat) : Int))), (143, .int .i64 (((k4 : Nat) : Int)))]) (fun k4 wl4 => (k4 ≤ ns) ∧ (∀ i, i < k4 → ¬ There ls old (seats.getD i noSeat)) ∧ ChP w wl4 (LF gp gs gh A c) ∧ wl2.heap.size ≤ wl4.heap.size ∧ Blk wl4 gp 105 #[.slice A own.length c, .map (some gs), .map (some gh), .int .i64 (lost)] ∧ OVec wl4 0 3 iv 1 A own.length c own ∧ MapG wl4 ikf seatf gs ls cs ∧ MapG wl4 plf holdf gh lh ck ∧ MapG wl4 ikf Value.bool g1_0 lg cg ∧ OVec wl4 w14_3.heap.size 3 iv 1 (some ⟨g16_2, 0, none⟩) nf nf (comeO (goneO own.length ls old) (seats.take k4))) (fun k4 => ns - k4) 0 ?_ ?_ ?_
                      · exact .cons rfl (.cons rfl (.cons rfl (.cons rfl (.cons rfl (.cons rfl (.cons rfl (.cons rfl (.cons rfl (.nil _)))))))))
                      · exact ⟨Nat.zero_le _, fun i hi => by omega, Ll2, Nat.le_refl _, f2_0, f2_1, f2_2, f2_3, f2_4, (f2_5.cast rfl (by rw [List.take_of_length_le (by omega)]; rfl))⟩
                      · rintro k4 wl4 ⟨hk4, hnt, Ll4, zl4, f4_0, f4_1, f4_2, f4_3, f4_4, f4_5⟩
                        have lb4_11 : w14_3.heap.size ≤ wl4.heap.size := Nat.le_trans lb2_11 (by omega)
                        have hcb := come_at hok.2.1.2 hg2 k4 (by omega)
                        refine WC.seq ?_
                        refine WC.region ?_
                        refine W.any (.lss rfl rfl) rfl rfl rfl ?_
                        refine W.nil ?_
                        refine E.thenN ?_
                        refine WC.seq ?_
                        by_cases c7 : ((k4 : Nat) : Int) < ((ns : Nat) : Int)
                        · refine WC.condY rfl (decide_eq_true c7) ?_
                          refine WC.skip ?_
                          refine E.thenN ?_
                          refine WC.seq ?_
                          refine WC.block ?_
                          refine WC.seq ?_
                          refine WC.region ?_
                          refine W.any (.idxS (k4) Try.underlying50 sz33 rfl rfl (hs.isSome seatV_row (by omega)) (rfl) (by omega)) rfl rfl rfl ?_
                          refine W.rd (.vload ag33 rfl (hs.chP Ll4 hsa) seatV_row (getS seats noSeat (by first | omega | (simp only [List.length_cons, List.length_nil]; omega)))) rfl rfl rfl ?_
                          refine W.ef rfl rfl rfl ?_
                          refine Ef.allocA z33 ?_
                          intro g35_2 w35_2 hg35_2 b35_2 h35_2
                          have L114 := Ll4.le h35_2
                          have b35_2 : Blk w35_2 g35_2 33 (seatV noSeat).toArray := b35_2
                          refine W.ef0 rfl rfl ?_
                          refine Ef.storeAll sz33 (by rfl) rfl rfl b35_2 (by rfl) (seatV_row.one (seats.getD k4 noSeat)) ?_
                          intro w35_3 b35_3 h35_3
                          have b35_3 : Blk w35_3 g35_2 33 (seatV (seats.getD k4 noSeat)).toArray := b35_3
                          have L115 : ChP w w35_3 (LF gp gs gh A c) := L114.ch h35_3 (fun i hi hlt => by cases hi; exact absurd hlt (by have := Ll4.size; have := hg35_2; omega))
                          refine W.nil ?_
                          refine E.thenN ?_
                          refine WC.seq ?_
                          refine WC.seq ?_
                          refine WC.draw [0, 1, 2, 3, 4, 5, 6, 7, 8, 9, 10, 11, 12] mixed (by kernel_rfl) ?_
                          intro w36 d36
                          have L116 := L115.le d36
                          refine G.any rfl rfl (.move rfl) rfl rfl rfl ?_
                          refine G.any rfl rfl (.nilCheck rfl) rfl rfl rfl ?_
                          refine G.any rfl rfl (.field0 fa105_1 rfl) rfl rfl rfl ?_
                          have f117 := (((f4_0.le h35_2).ch h35_3 (fun h => (show g35_2 ≠ gp from by have := f4_0.lt; omega) (Option.some.inj h))).le d36)
                          refine G.rd rfl rfl (.loadB (v := .map (some gs)) na101 rfl f117 rfl) rfl rfl rfl ?_
                          refine G.any rfl rfl (.field0 fa33_0 rfl) rfl rfl rfl ?_
                          have f118 := (b35_3.le d36)
                          refine G.rd rfl rfl (.loadB (v := .int .i64 ((seats.getD k4 noSeat).ch)) na3 rfl f118 rfl) rfl rfl rfl ?_
                          rcases optG (getG ((seats.getD k4 noSeat).ch) ls) with hk36_6 | ⟨vhk36_6, hk36_6⟩
                          · have f119 := (((f4_2.le h35_2).ch h35_3 (fun h => (show g35_2 ≠ gs from by have := f4_2.lt; omega) (Option.some.inj h))).le d36)
                            refine G.rd rfl rfl (.as (.lookup2 (key := ((seats.getD k4 noSeat).ch)) Try.underlying101 kint z33 rfl rfl f119) (by rw [hk36_6] <;> rfl)) rfl rfl rfl ?_
                            refine G.any rfl rfl (.move rfl) rfl rfl rfl ?_
                            refine G.any rfl rfl (.extract (v := .agg (seatV noSeat).toArray) rfl rfl) rfl rfl rfl ?_
                            refine G.any rfl rfl (.extract (v := .bool false) rfl rfl) rfl rfl rfl ?_
                            refine G.ef rfl rfl rfl rfl rfl ?_
                            refine Ef.allocA z33 ?_
                            intro g36_10 w36_10 hg36_10 b36_10 h36_10
                            refine ⟨fun _ => h36_10, ?_⟩
                            have L120 := L116.le h36_10
                            have b36_10 : Blk w36_10 g36_10 33 (seatV noSeat).toArray := b36_10
                            refine G.ef0 rfl rfl rfl rfl ?_
                            refine Ef.storeAll sz33 (by rfl) rfl rfl b36_10 (by rfl) (seatV_row.one noSeat) ?_
                            intro w36_11 b36_11 h36_11
                            refine ⟨fun h => absurd h (ne_true_of_eq_false (by kernel_rfl)), ?_⟩
                            have b36_11 : Blk w36_11 g36_10 33 (seatV noSeat).toArray := b36_11
                            have L121 : ChP w w36_11 (LF gp gs gh A c) := L120.ch h36_11 (fun i hi hlt => by cases hi; exact absurd hlt (by have := L116.size; have := hg36_10; omega))
                            refine G.any rfl rfl (.assign rfl) rfl rfl rfl ?_
                            refine G.nil ?_
                            refine E.thenN ?_
                            refine WC.seq ?_
                            refine WC.region ?_
                            refine W.any (.move rfl) rfl rfl rfl ?_
                            refine W.any (.move rfl) rfl rfl rfl ?_
                            refine W.skip rfl rfl rfl (rfl) rfl rfl ?_
                            refine W.skip rfl rfl rfl (rfl) rfl rfl ?_
                            refine W.skip rfl rfl rfl (rfl) rfl rfl ?_
                            refine W.skip rfl rfl rfl (rfl) rfl rfl ?_
                            refine W.skip rfl rfl rfl (rfl) rfl rfl ?_
                            refine W.any (.pickF rfl rfl rfl) rfl rfl rfl ?_
                            refine W.nil ?_
                            refine E.thenN ?_
                            refine WC.condF rfl ?_
                            refine WC.skip ?_
                            refine E.thenN ?_
                            refine WC.seq ?_
                            refine WC.region ?_
                            refine W.any (.field0 fa33_1 rfl) rfl rfl rfl ?_
                            have f122 := ((f118.le h36_10).ch h36_11 (fun h => (show g36_10 ≠ g35_2 from by have := f118.lt; omega) (Option.some.inj h)))
                            refine W.rd (.bpart [.int .i64 ((seats.getD k4 noSeat).p0), .int .i64 ((seats.getD k4 noSeat).p1)] ag31 rfl (by decide) rfl f122 rfl) rfl rfl rfl ?_
                            refine W.any (.move rfl) rfl rfl rfl ?_
                            refine W.nil ?_
                            refine E.thenN ?_
                            refine WC.block ?_
                            have f123 := ((((f4_5.le h35_2).ch h35_3 (fun q hq => by cases hq; exact (fun he => by have := (f4_5.row he).2; omega))).le (d36.trans h36_10)).ch h36_11 (fun q hq => by cases hq; exact (fun he => by have := (f4_5.row he).2; have := h35_2.size; have := h35_3.size; have := d36.size; omega)))
                            have f124 := ((f117.le h36_10).ch h36_11 (fun h => (show g36_10 ≠ gp from by have := f117.lt; omega) (Option.some.inj h)))
                            have f125 := ((((f4_1.le h35_2).ch h35_3 (fun q hq => by cases hq; exact (fun he => by have := (f4_1.row he).2; omega))).le (d36.trans h36_10)).ch h36_11 (fun q hq => by cases hq; exact (fun he => by have := (f4_1.row he).2; have := h35_2.size; have := h35_3.size; have := d36.size; omega)))
                            have f126 := ((f119.le h36_10).ch h36_11 (fun h => (show g36_10 ≠ gs from by have := f119.lt; omega) (Option.some.inj h)))
                            have f127 := ((((f4_3.le h35_2).ch h35_3 (fun h => (show g35_2 ≠ gh from by have := f4_3.lt; omega) (Option.some.inj h))).le (d36.trans h36_10)).ch h36_11 (fun h => (show g36_10 ≠ gh from by have := f4_3.lt; have := h35_2.size; have := h35_3.size; have := d36.size; omega) (Option.some.inj h)))
                            have f128 := ((((f4_4.le h35_2).ch h35_3 (fun h => (show g35_2 ≠ g1_0 from by have := f4_4.lt; omega) (Option.some.inj h))).le (d36.trans h36_10)).ch h36_11 (fun h => (show g36_10 ≠ g1_0 from by have := f4_4.lt; have := h35_2.size; have := h35_3.size; have := d36.size; omega) (Option.some.inj h)))
                            refine WC.loop (ι := Nat) (fun k5 => [(0, .pointer (some ⟨gp, 0, none⟩)), (1, .slice Ao no co), (2, .slice As ns cS), (3, .slice Af nf cf), (9, .map (some g1_0)), (16, .slice (some ⟨g16_2, 0, none⟩) nf nf), (25, .pointer (some ⟨g35_2, 0, none⟩)), (141, .slice As ns cS), (142, .int .i64 (((ns : Nat) : Int))), (143, .int .i64 (((k4 : Nat) : Int))), (166, .agg #[.int .i64 ((seats.getD k4 noSeat).p0), .int .i64 ((seats.getD k4 noSeat).p1)]), (167, .int .i64 (((k5 : Nat) : Int)))]) (fun k5 wl5 => (k5 ≤ 2) ∧ ChP w wl5 (LF gp gs gh A c) ∧ w36_11.heap.size ≤ wl5.heap.size ∧ Blk wl5 gp 105 #[.slice A own.length c, .map (some gs), .map (some gh), .int .i64 (lost)] ∧ OVec wl5 0 3 iv 1 A own.length c own ∧ MapG wl5 ikf seatf gs ls cs ∧ MapG wl5 plf holdf gh lh ck ∧ MapG wl5 ikf Value.bool g1_0 lg cg ∧ OVec wl5 w14_3.heap.size 3 iv 1 (some ⟨g16_2, 0, none⟩) nf nf (subS (comeO (goneO own.length ls old) (seats.take k4)) (seats.getD k4 noSeat) k5) ∧ Blk wl5 g35_2 33 (seatV (seats.getD k4 noSeat)).toArray) (fun k5 => 2 - k5) 0 ?_ ?_ ?_
                            · exact .cons rfl (.cons rfl (.cons rfl (.cons rfl (.cons rfl (.cons rfl (.cons rfl (.cons rfl (.cons rfl (.cons rfl (.cons rfl (.cons rfl (.nil _))))))))))))
                            · exact ⟨Nat.zero_le _, L121, Nat.le_refl _, f124, f125, f126, f127, f128, f123, f122⟩
                            · rintro k5 wl5 ⟨hk5, Ll5, zl5, f5_0, f5_1, f5_2, f5_3, f5_4, f5_5, f5_6⟩
                              have lb5_11 : w14_3.heap.size ≤ wl5.heap.size := Nat.le_trans lb4_11 (by have := h35_2.size; have := h35_3.size; have := d36.size; have := h36_10.size; have := h36_11.size; omega)
                              have hm4 := may_ok (hok.2.1.2 _ (getD_mem (z := noSeat) (show k4 < seats.length by omega)))
                              have hpz := hm4.1
                              have hab := subS_at hm4.2.2.2.1 hm4.2.2.2.2 hcb k5 hk5
                              refine WC.seq ?_
                              refine WC.region ?_
                              refine W.any (.lss rfl rfl) rfl rfl rfl ?_
                              refine W.nil ?_
                              refine E.thenN ?_
                              refine WC.seq ?_
                              by_cases c9 : ((k5 : Nat) : Int) < 2
                              · refine WC.condY rfl (decide_eq_true c9) ?_
                                refine WC.skip ?_
                                refine E.thenN ?_
                                refine WC.seq ?_
                                refine WC.block ?_
                                refine WC.seq ?_
                                refine WC.region ?_
                                refine W.any (.move rfl) rfl rfl rfl ?_
                                refine W.any (.index1 (v := .int .i64 (((seats.getD k4 noSeat).p k5))) (k5) Try.underlying31 sz3 na3 rfl rfl (rfl) (by omega) (seatP_ix (seats.getD k4 noSeat) (by omega))) rfl rfl rfl ?_
                                refine W.any (.assign rfl) rfl rfl rfl ?_
                                refine W.any (.assign rfl) rfl rfl rfl ?_
                                refine W.nil ?_
                                refine E.thenN ?_
                                refine WC.draw [0, 1, 2, 3, 4, 5, 6, 7, 8, 9, 10] mixed (by kernel_rfl) ?_
                                intro w42 d42
                                have L129 := Ll5.le d42
                                refine G.any rfl rfl (.move rfl) rfl rfl rfl ?_
                                refine G.any rfl rfl (.move rfl) rfl rfl rfl ?_
                                refine G.any rfl rfl (.idxS (((seats.getD k4 noSeat).p k5).toNat) Try.underlying41 sz3 rfl rfl (o16_2.vec.isSome iv_row (by omega)) (by have := (seatOk_at hm4 (k := k5) (by omega)).1; omega) (by have := (seatOk_at hm4 (k := k5) (by omega)).1; omega)) rfl rfl rfl ?_
                                have f130 := (f5_5.le d42)
                                refine G.rd rfl rfl (.vone (v := .int .i64 (((subS (comeO (goneO own.length ls old) (seats.take k4)) (seats.getD k4 noSeat) k5).getD (((seats.getD k4 noSeat).p k5).toNat) 0))) na3 rfl f130.vec iv_row (getS (subS (comeO (goneO own.length ls old) (seats.take k4)) (seats.getD k4 noSeat) k5) 0 (by rw [subS_len, comeO_len, goneO_len]; have := (seatOk_at hm4 (k := k5) (by omega)).1; omega)) rfl) rfl rfl rfl ?_
                                refine G.any rfl rfl (.move rfl) rfl rfl rfl ?_
                                refine G.any rfl rfl (.field0 fa33_2 rfl) rfl rfl rfl ?_
                                refine G.any rfl rfl (.idxAo (k5) Try.underlying31 sz3 rfl rfl (rfl) (by omega)) rfl rfl rfl ?_
                                have f131 := (f5_6.le d42)
                                refine G.rd rfl rfl (.loadB (v := .int .i64 (((seats.getD k4 noSeat).h k5))) na3 rfl f131 (seatH_at (seats.getD k4 noSeat) (by omega))) rfl rfl rfl ?_
                                refine G.any rfl rfl (.sub rfl rfl (by have := hab ((seats.getD k4 noSeat).p k5).toNat; have := (seatOk_at hm4 (k := k5) (by omega)).2; omega)) rfl rfl rfl ?_
                                refine G.any rfl rfl (.idxS (((seats.getD k4 noSeat).p k5).toNat) Try.underlying41 sz3 rfl rfl (o16_2.vec.isSome iv_row (by omega)) (by have := (seatOk_at hm4 (k := k5) (by omega)).1; omega) (by have := (seatOk_at hm4 (k := k5) (by omega)).1; omega)) rfl rfl rfl ?_
                                refine G.ef0 rfl rfl rfl rfl ?_
                                refine Ef.vset (j := ((seats.getD k4 noSeat).p k5).toNat) (o := 0) (((subS (comeO (goneO own.length ls old) (seats.take k4)) (seats.getD k4 noSeat) k5).getD (((seats.getD k4 noSeat).p k5).toNat) 0) - ((seats.getD k4 noSeat).h k5)) sz3 rfl (by omega) rfl f130 iv_row (getS (subS (comeO (goneO own.length ls old) (seats.take k4)) (seats.getD k4 noSeat) k5) 0 (by rw [subS_len, comeO_len, goneO_len]; have := (seatOk_at hm4 (k := k5) (by omega)).1; omega)) (by decide) rfl rfl ?_
                                intro w42_10 o42_10 h42_10
                                refine ⟨fun h => absurd h (ne_true_of_eq_false (by kernel_rfl)), ?_⟩
                                have L132 : ChP w w42_10 (LF gp gs gh A c) := L129.ch h42_10 (fun i hi hlt => absurd hlt (by have := (f130.row hi).1; have := L57.size; omega))
                                refine G.nil ?_
                                refine E.blkN ?_
                                refine E.thenN ?_
                                refine WC.region ?_
                                refine W.any (.add rfl rfl (by omega)) rfl rfl rfl ?_
                                refine W.any (.move rfl) rfl rfl rfl ?_
                                refine W.nil ?_
                                have f133 := ((f5_0.le d42).ch h42_10 (fun he => by have := (f130.row he).1; have := f1_0.lt; have := h14_3.size; omega))
                                have f134 := ((f5_1.le d42).ch h42_10 ((Apart.symm (fun q h1 h2 => by have := (f1_1.row h1).2; have := (f130.row h2).1; have := h14_3.size; omega))))
                                have f135 := ((f5_2.le d42).ch h42_10 (fun he => by have := (f130.row he).1; have := f1_2.lt; have := h14_3.size; omega))
                                have f136 := ((f5_3.le d42).ch h42_10 (fun he => by have := (f130.row he).1; have := f1_3.lt; have := h14_3.size; omega))
                                have f137 := ((f5_4.le d42).ch h42_10 (fun he => by have := (f130.row he).1; have := f1_4.lt; have := h14_3.size; omega))
                                have f138 := (f131.ch h42_10 (fun he => by have := (f4_5.row he).2; omega))
                                refine E.again (k5 + 1) (.cons rfl (.cons rfl (.cons rfl (.cons rfl (.cons rfl (.cons rfl (.cons rfl (.cons rfl (.cons rfl (.cons rfl (.cons rfl (.cons rfl (.nil _))))))))))))) ?_ ?_
                                · exact ⟨by omega, L132, by have := zl5; have := d42.size; have := h42_10.size; omega, f133, f134, f135, f136, f137, o42_10, f138⟩
                                · first | omega | (simp only []; omega)
                              · refine WC.condN rfl (decide_eq_false c9) ?_
                                refine WC.exit ?_
                                refine E.thenX ?_
                                refine E.thenX ?_
                                refine E.blkH ?_
                                refine E.blkN ?_
                                refine E.thenN ?_
                                refine WC.region ?_
                                refine W.any (.add rfl rfl (by omega)) rfl rfl rfl ?_
                                refine W.any (.move rfl) rfl rfl rfl ?_
                                refine W.nil ?_
                                refine E.again (k4 + 1) (.cons rfl (.cons rfl (.cons rfl (.cons rfl (.cons rfl (.cons rfl (.cons rfl (.cons rfl (.cons rfl (.nil _)))))))))) ?_ ?_
                                · exact ⟨by omega, fun i hi => (Nat.lt_succ_iff_lt_or_eq.1 hi).elim (hnt i) (fun hh => by subst hh; exact fun h => h.1 hk36_6), Ll5, by have := zl4; have := zl0; have := zl1; have := zl2; have := zl5; have := sc2; have := h1_0.size; have := h1_1.size; have := h14_3.size; have := h16_2.size; have := h35_2.size; have := h35_3.size; have := d36.size; have := h36_10.size; have := h36_11.size; omega, f5_0, f5_1, f5_2, f5_3, f5_4, (f5_5.cast rfl (by have e5 : k5 = 2 := (by omega); rw [e5, comeO_next (by omega)]))⟩
                                · first | omega | (simp only []; omega)
                          · have f139 := (((f4_2.le h35_2).ch h35_3 (fun h => (show g35_2 ≠ gs from by have := f4_2.lt; omega) (Option.some.inj h))).le d36)
                            refine G.rd rfl rfl (.as (.lookup2 (key := ((seats.getD k4 noSeat).ch)) Try.underlying101 kint z33 rfl rfl f139) (by rw [hk36_6] <;> rfl)) rfl rfl rfl ?_
                            refine G.any rfl rfl (.move rfl) rfl rfl rfl ?_
                            refine G.any rfl rfl (.extract (v := .agg (seatV vhk36_6).toArray) rfl rfl) rfl rfl rfl ?_
                            refine G.any rfl rfl (.extract (v := .bool true) rfl rfl) rfl rfl rfl ?_
                            refine G.ef rfl rfl rfl rfl rfl ?_
                            refine Ef.allocA z33 ?_
                            intro g36_10_1 w36_10_1 hg36_10_1 b36_10_1 h36_10_1
                            refine ⟨fun _ => h36_10_1, ?_⟩
                            have L140 := L116.le h36_10_1
                            have b36_10_1 : Blk w36_10_1 g36_10_1 33 (seatV noSeat).toArray := b36_10_1
                            refine G.ef0 rfl rfl rfl rfl ?_
                            refine Ef.storeAll sz33 (by rfl) rfl rfl b36_10_1 (by rfl) (seatV_row.one vhk36_6) ?_
                            intro w36_11_1 b36_11_1 h36_11_1
                            refine ⟨fun h => absurd h (ne_true_of_eq_false (by kernel_rfl)), ?_⟩
                            have b36_11_1 : Blk w36_11_1 g36_10_1 33 (seatV vhk36_6).toArray := b36_11_1
                            have L141 : ChP w w36_11_1 (LF gp gs gh A c) := L140.ch h36_11_1 (fun i hi hlt => by cases hi; exact absurd hlt (by have := L116.size; have := hg36_10_1; omega))
                            refine G.any rfl rfl (.assign rfl) rfl rfl rfl ?_
                            refine G.nil ?_
                            refine E.thenN ?_
                            refine WC.seq ?_
                            refine WC.region ?_
                            refine W.any (.move rfl) rfl rfl rfl ?_
                            refine W.any (.move rfl) rfl rfl rfl ?_
                            refine W.rdg (Any.rd (.move rfl) _) rfl rfl rfl (rfl) rfl rfl ?_
                            refine W.rdg (Any.rd (.field0 fa33_0 rfl) _) rfl rfl rfl (rfl) rfl rfl ?_
                            have f142 := ((f118.le h36_10_1).ch h36_11_1 (fun h => (show g36_10_1 ≠ g35_2 from by have := f118.lt; omega) (Option.some.inj h)))
                            refine W.rdg (.loadB (v := .int .i64 ((seats.getD k4 noSeat).ch)) na3 rfl f142 rfl) rfl rfl rfl (rfl) rfl rfl ?_
                            rcases optG (getG ((seats.getD k4 noSeat).ch) lg) with hk37_5 | ⟨vhk37_5, hk37_5⟩
                            · have f143 := ((((f4_4.le h35_2).ch h35_3 (fun h => (show g35_2 ≠ g1_0 from by have := f4_4.lt; omega) (Option.some.inj h))).le (d36.trans h36_10_1)).ch h36_11_1 (fun h => (show g36_10_1 ≠ g1_0 from by have := f4_4.lt; have := h35_2.size; have := h35_3.size; have := d36.size; omega) (Option.some.inj h)))
                              refine W.rdg (.as (.lookup1 (key := ((seats.getD k4 noSeat).ch)) Try.underlying149 kint z4 rfl rfl f143) (by rw [hk37_5] <;> rfl)) rfl rfl rfl (rfl) rfl rfl ?_
                              refine W.rdg (Any.rd (.not rfl) _) rfl rfl rfl (rfl) rfl rfl ?_
                              refine W.any (.pickT rfl rfl rfl) rfl rfl rfl ?_
                              refine W.nil ?_
                              refine E.thenN ?_
                              refine WC.condT rfl ?_
                              refine WC.seq ?_
                              refine WC.region ?_
                              refine W.any (.assign rfl) rfl rfl rfl ?_
                              refine W.nil ?_
                              refine E.thenN ?_
                              refine WC.ret ?_
                              refine E.thenR ?_
                              refine E.blkR ?_
                              refine E.thenR ?_
                              refine E.thenR ?_
                              refine E.blkR ?_
                              refine E.thenR ?_
                              have f144 := ((f117.le h36_10_1).ch h36_11_1 (fun h => (show g36_10_1 ≠ gp from by have := f117.lt; omega) (Option.some.inj h)))
                              have f145 := ((((f4_1.le h35_2).ch h35_3 (fun q hq => by cases hq; exact (fun he => by have := (f4_1.row he).2; omega))).le (d36.trans h36_10_1)).ch h36_11_1 (fun q hq => by cases hq; exact (fun he => by have := (f4_1.row he).2; have := h35_2.size; have := h35_3.size; have := d36.size; omega)))
                              have f146 := ((f139.le h36_10_1).ch h36_11_1 (fun h => (show g36_10_1 ≠ gs from by have := f139.lt; omega) (Option.some.inj h)))
                              have f147 := ((((f4_3.le h35_2).ch h35_3 (fun h => (show g35_2 ≠ gh from by have := f4_3.lt; omega) (Option.some.inj h))).le (d36.trans h36_10_1)).ch h36_11_1 (fun h => (show g36_10_1 ≠ gh from by have := f4_3.lt; have := h35_2.size; have := h35_3.size; have := d36.size; omega) (Option.some.inj h)))
                              refine E.retG1 rfl rfl ?_
                              have e9 : cutC own.length ls lh old seats fee = 4 := cutC_4 hok ht5 ht14 (by omega) ⟨by rw [hk36_6]; simp, hmo.not hk37_5⟩; exact ⟨L141, by rw [e9], .inl ⟨by rw [e9]; decide, ⟨f144, f145, f146, f147, n1, n2, n3, n4, n5, n6⟩⟩⟩
                            · have f148 := ((((f4_4.le h35_2).ch h35_3 (fun h => (show g35_2 ≠ g1_0 from by have := f4_4.lt; omega) (Option.some.inj h))).le (d36.trans h36_10_1)).ch h36_11_1 (fun h => (show g36_10_1 ≠ g1_0 from by have := f4_4.lt; have := h35_2.size; have := h35_3.size; have := d36.size; omega) (Option.some.inj h)))
                              refine W.rdg (.as (.lookup1 (key := ((seats.getD k4 noSeat).ch)) Try.underlying149 kint z4 rfl rfl f148) (by rw [hk37_5] <;> rfl)) rfl rfl rfl (rfl) rfl rfl ?_
                              refine W.rdg (Any.rd (.not rfl) _) rfl rfl rfl (rfl) rfl rfl ?_
                              refine W.any (.pickT rfl rfl rfl) rfl rfl rfl ?_
                              refine W.nil ?_
                              refine E.thenN ?_
                              refine WC.condN rfl (congrArg not ((hmo.val hk37_5).1)) ?_
                              refine WC.skip ?_
                              refine E.thenN ?_
                              refine WC.seq ?_
                              refine WC.region ?_
                              refine W.any (.field0 fa33_1 rfl) rfl rfl rfl ?_
                              refine W.rd (.bpart [.int .i64 ((seats.getD k4 noSeat).p0), .int .i64 ((seats.getD k4 noSeat).p1)] ag31 rfl (by decide) rfl f142 rfl) rfl rfl rfl ?_
                              refine W.any (.move rfl) rfl rfl rfl ?_
                              refine W.nil ?_
                              refine E.thenN ?_
                              refine WC.block ?_
                              have f149 := ((((f4_5.le h35_2).ch h35_3 (fun q hq => by cases hq; exact (fun he => by have := (f4_5.row he).2; omega))).le (d36.trans h36_10_1)).ch h36_11_1 (fun q hq => by cases hq; exact (fun he => by have := (f4_5.row he).2; have := h35_2.size; have := h35_3.size; have := d36.size; omega)))
                              have f150 := ((f117.le h36_10_1).ch h36_11_1 (fun h => (show g36_10_1 ≠ gp from by have := f117.lt; omega) (Option.some.inj h)))
                              have f151 := ((((f4_1.le h35_2).ch h35_3 (fun q hq => by cases hq; exact (fun he => by have := (f4_1.row he).2; omega))).le (d36.trans h36_10_1)).ch h36_11_1 (fun q hq => by cases hq; exact (fun he => by have := (f4_1.row he).2; have := h35_2.size; have := h35_3.size; have := d36.size; omega)))
                              have f152 := ((f139.le h36_10_1).ch h36_11_1 (fun h => (show g36_10_1 ≠ gs from by have := f139.lt; omega) (Option.some.inj h)))
                              have f153 := ((((f4_3.le h35_2).ch h35_3 (fun h => (show g35_2 ≠ gh from by have := f4_3.lt; omega) (Option.some.inj h))).le (d36.trans h36_10_1)).ch h36_11_1 (fun h => (show g36_10_1 ≠ gh from by have := f4_3.lt; have := h35_2.size; have := h35_3.size; have := d36.size; omega) (Option.some.inj h)))
                              refine WC.loop (ι := Nat) (fun k5 => [(0, .pointer (some ⟨gp, 0, none⟩)), (1, .slice Ao no co), (2, .slice As ns cS), (3, .slice Af nf cf), (9, .map (some g1_0)), (16, .slice (some ⟨g16_2, 0, none⟩) nf nf), (25, .pointer (some ⟨g35_2, 0, none⟩)), (141, .slice As ns cS), (142, .int .i64 (((ns : Nat) : Int))), (143, .int .i64 (((k4 : Nat) : Int))), (166, .agg #[.int .i64 ((seats.getD k4 noSeat).p0), .int .i64 ((seats.getD k4 noSeat).p1)]), (167, .int .i64 (((k5 : Nat) : Int)))]) (fun k5 wl5 => (k5 ≤ 2) ∧ ChP w wl5 (LF gp gs gh A c) ∧ w36_11_1.heap.size ≤ wl5.heap.size ∧ Blk wl5 gp 105 #[.slice A own.length c, .map (some gs), .map (some gh), .int .i64 (lost)] ∧ OVec wl5 0 3 iv 1 A own.length c own ∧ MapG wl5 ikf seatf gs ls cs ∧ MapG wl5 plf holdf gh lh ck ∧ MapG wl5 ikf Value.bool g1_0 lg cg ∧ OVec wl5 w14_3.heap.size 3 iv 1 (some ⟨g16_2, 0, none⟩) nf nf (subS (comeO (goneO own.length ls old) (seats.take k4)) (seats.getD k4 noSeat) k5) ∧ Blk wl5 g35_2 33 (seatV (seats.getD k4 noSeat)).toArray) (fun k5 => 2 - k5) 0 ?_ ?_ ?_
                              · exact .cons rfl (.cons rfl (.cons rfl (.cons rfl (.cons rfl (.cons rfl (.cons rfl (.cons rfl (.cons rfl (.cons rfl (.cons rfl (.cons rfl (.nil _))))))))))))
                              · exact ⟨Nat.zero_le _, L141, Nat.le_refl _, f150, f151, f152, f153, f148, f149, f142⟩
                              · rintro k5 wl5 ⟨hk5, Ll5, zl5, f5_0, f5_1, f5_2, f5_3, f5_4, f5_5, f5_6⟩
                                have lb5_11 : w14_3.heap.size ≤ wl5.heap.size := Nat.le_trans lb4_11 (by have := h35_2.size; have := h35_3.size; have := d36.size; have := h36_10_1.size; have := h36_11_1.size; omega)
                                have hm4 := may_ok (hok.2.1.2 _ (getD_mem (z := noSeat) (show k4 < seats.length by omega)))
                                have hpz := hm4.1
                                have hab := subS_at hm4.2.2.2.1 hm4.2.2.2.2 hcb k5 hk5
                                refine WC.seq ?_
                                refine WC.region ?_
                                refine W.any (.lss rfl rfl) rfl rfl rfl ?_
                                refine W.nil ?_
                                refine E.thenN ?_
                                refine WC.seq ?_
                                by_cases c9 : ((k5 : Nat) : Int) < 2
                                · refine WC.condY rfl (decide_eq_true c9) ?_
                                  refine WC.skip ?_
                                  refine E.thenN ?_
                                  refine WC.seq ?_
                                  refine WC.block ?_
                                  refine WC.seq ?_
                                  refine WC.region ?_
                                  refine W.any (.move rfl) rfl rfl rfl ?_
                                  refine W.any (.index1 (v := .int .i64 (((seats.getD k4 noSeat).p k5))) (k5) Try.underlying31 sz3 na3 rfl rfl (rfl) (by omega) (seatP_ix (seats.getD k4 noSeat) (by omega))) rfl rfl rfl ?_
                                  refine W.any (.assign rfl) rfl rfl rfl ?_
                                  refine W.any (.assign rfl) rfl rfl rfl ?_
                                  refine W.nil ?_
                                  refine E.thenN ?_
                                  refine WC.draw [0, 1, 2, 3, 4, 5, 6, 7, 8, 9, 10] mixed (by kernel_rfl) ?_
                                  intro w42 d42
                                  have L154 := Ll5.le d42
                                  refine G.any rfl rfl (.move rfl) rfl rfl rfl ?_
                                  refine G.any rfl rfl (.move rfl) rfl rfl rfl ?_
                                  refine G.any rfl rfl (.idxS (((seats.getD k4 noSeat).p k5).toNat) Try.underlying41 sz3 rfl rfl (o16_2.vec.isSome iv_row (by omega)) (by have := (seatOk_at hm4 (k := k5) (by omega)).1; omega) (by have := (seatOk_at hm4 (k := k5) (by omega)).1; omega)) rfl rfl rfl ?_
                                  have f155 := (f5_5.le d42)
                                  refine G.rd rfl rfl (.vone (v := .int .i64 (((subS (comeO (goneO own.length ls old) (seats.take k4)) (seats.getD k4 noSeat) k5).getD (((seats.getD k4 noSeat).p k5).toNat) 0))) na3 rfl f155.vec iv_row (getS (subS (comeO (goneO own.length ls old) (seats.take k4)) (seats.getD k4 noSeat) k5) 0 (by rw [subS_len, comeO_len, goneO_len]; have := (seatOk_at hm4 (k := k5) (by omega)).1; omega)) rfl) rfl rfl rfl ?_
                                  refine G.any rfl rfl (.move rfl) rfl rfl rfl ?_
                                  refine G.any rfl rfl (.field0 fa33_2 rfl) rfl rfl rfl ?_
                                  refine G.any rfl rfl (.idxAo (k5) Try.underlying31 sz3 rfl rfl (rfl) (by omega)) rfl rfl rfl ?_
                                  have f156 := (f5_6.le d42)
                                  refine G.rd rfl rfl (.loadB (v := .int .i64 (((seats.getD k4 noSeat).h k5))) na3 rfl f156 (seatH_at (seats.getD k4 noSeat) (by omega))) rfl rfl rfl ?_
                                  refine G.any rfl rfl (.sub rfl rfl (by have := hab ((seats.getD k4 noSeat).p k5).toNat; have := (seatOk_at hm4 (k := k5) (by omega)).2; omega)) rfl rfl rfl ?_
                                  refine G.any rfl rfl (.idxS (((seats.getD k4 noSeat).p k5).toNat) Try.underlying41 sz3 rfl rfl (o16_2.vec.isSome iv_row (by omega)) (by have := (seatOk_at hm4 (k := k5) (by omega)).1; omega) (by have := (seatOk_at hm4 (k := k5) (by omega)).1; omega)) rfl rfl rfl ?_
                                  refine G.ef0 rfl rfl rfl rfl ?_
                                  refine Ef.vset (j := ((seats.getD k4 noSeat).p k5).toNat) (o := 0) (((subS (comeO (goneO own.length ls old) (seats.take k4)) (seats.getD k4 noSeat) k5).getD (((seats.getD k4 noSeat).p k5).toNat) 0) - ((seats.getD k4 noSeat).h k5)) sz3 rfl (by omega) rfl f155 iv_row (getS (subS (comeO (goneO own.length ls old) (seats.take k4)) (seats.getD k4 noSeat) k5) 0 (by rw [subS_len, comeO_len, goneO_len]; have := (seatOk_at hm4 (k := k5) (by omega)).1; omega)) (by decide) rfl rfl ?_
                                  intro w42_10_1 o42_10_1 h42_10_1
                                  refine ⟨fun h => absurd h (ne_true_of_eq_false (by kernel_rfl)), ?_⟩
                                  have L157 : ChP w w42_10_1 (LF gp gs gh A c) := L154.ch h42_10_1 (fun i hi hlt => absurd hlt (by have := (f155.row hi).1; have := L57.size; omega))
                                  refine G.nil ?_
                                  refine E.blkN ?_
                                  refine E.thenN ?_
                                  refine WC.region ?_
                                  refine W.any (.add rfl rfl (by omega)) rfl rfl rfl ?_
                                  refine W.any (.move rfl) rfl rfl rfl ?_
                                  refine W.nil ?_
                                  have f158 := ((f5_0.le d42).ch h42_10_1 (fun he => by have := (f155.row he).1; have := f1_0.lt; have := h14_3.size; omega))
                                  have f159 := ((f5_1.le d42).ch h42_10_1 ((Apart.symm (fun q h1 h2 => by have := (f1_1.row h1).2; have := (f155.row h2).1; have := h14_3.size; omega))))
                                  have f160 := ((f5_2.le d42).ch h42_10_1 (fun he => by have := (f155.row he).1; have := f1_2.lt; have := h14_3.size; omega))
                                  have f161 := ((f5_3.le d42).ch h42_10_1 (fun he => by have := (f155.row he).1; have := f1_3.lt; have := h14_3.size; omega))
                                  have f162 := ((f5_4.le d42).ch h42_10_1 (fun he => by have := (f155.row he).1; have := f1_4.lt; have := h14_3.size; omega))
                                  have f163 := (f156.ch h42_10_1 (fun he => by have := (f4_5.row he).2; omega))
                                  refine E.again (k5 + 1) (.cons rfl (.cons rfl (.cons rfl (.cons rfl (.cons rfl (.cons rfl (.cons rfl (.cons rfl (.cons rfl (.cons rfl (.cons rfl (.cons rfl (.nil _))))))))))))) ?_ ?_
                                  · exact ⟨by omega, L157, by have := zl5; have := d42.size; have := h42_10_1.size; omega, f158, f159, f160, f161, f162, o42_10_1, f163⟩
                                  · first | omega | (simp only []; omega)
                                · refine WC.condN rfl (decide_eq_false c9) ?_
                                  refine WC.exit ?_
                                  refine E.thenX ?_
                                  refine E.thenX ?_
                                  refine E.blkH ?_
                                  refine E.blkN ?_
                                  refine E.thenN ?_
                                  refine WC.region ?_
                                  refine W.any (.add rfl rfl (by omega)) rfl rfl rfl ?_
                                  refine W.any (.move rfl) rfl rfl rfl ?_
                                  refine W.nil ?_
                                  refine E.again (k4 + 1) (.cons rfl (.cons rfl (.cons rfl (.cons rfl (.cons rfl (.cons rfl (.cons rfl (.cons rfl (.cons rfl (.nil _)))))))))) ?_ ?_
                                  · exact ⟨by omega, fun i hi => (Nat.lt_succ_iff_lt_or_eq.1 hi).elim (hnt i) (fun hh => by subst hh; exact fun h => h.2 (hmo.val hk37_5).2), Ll5, by have := zl4; have := zl0; have := zl1; have := zl2; have := zl5; have := sc2; have := h1_0.size; have := h1_1.size; have := h14_3.size; have := h16_2.size; have := h35_2.size; have := h35_3.size; have := d36.size; have := h36_10_1.size; have := h36_11_1.size; omega, f5_0, f5_1, f5_2, f5_3, f5_4, (f5_5.cast rfl (by have e5 : k5 = 2 := (by omega); rw [e5, comeO_next (by omega)]))⟩
                                  · first | omega | (simp only []; omega)
                        · refine WC.condN rfl (decide_eq_false c7) ?_
                          have ht4 := not_there hnt (by omega)
                          refine WC.exit ?_
                          refine E.thenX ?_
                          refine E.thenX ?_
                          refine E.blkH ?_
                          refine E.thenN ?_
                          refine WC.seq ?_
                          refine WC.seq ?_
                          refine WC.region ?_
                          refine W.any (.move rfl) rfl rfl rfl ?_
                          refine W.any (.move rfl) rfl rfl rfl ?_
                          refine W.ef rfl rfl rfl ?_
                          refine Ef.call go81 rfl rfl (eqints_ok wl4 f4_5.vec (hf.chP Ll4 hfa) (by omega)) ?_
                          rintro _ w45_2 ⟨rfl, h45_2⟩
                          refine ⟨_, rfl, ?_⟩
                          have L164 := Ll4.le h45_2
                          refine W.any (.not rfl) rfl rfl rfl ?_
                          refine W.nil ?_
                          refine E.thenN ?_
                          by_cases c10 : (comeO (goneO own.length ls old) (seats.take k4)) = fee
                          · refine WC.condN rfl (congrArg not (decide_eq_true c10)) ?_
                            refine WC.skip ?_
                            refine E.thenN ?_
                            refine WC.seq ?_
                            refine WC.seq ?_
                            refine WC.region ?_
                            refine W.any (.move rfl) rfl rfl rfl ?_
                            refine W.rd (.len Try.underlying41 rfl) rfl rfl rfl ?_
                            refine W.any (.move rfl) rfl rfl rfl ?_
                            refine W.nil ?_
                            refine E.thenN ?_
                            refine WC.block ?_
                            have f165 := (f4_2.le h45_2)
                            have f166 := (f4_0.le h45_2)
                            have f167 := (f4_1.le h45_2)
                            have f168 := (f4_3.le h45_2)
                            refine WC.loop (ι := Nat × SM) (fun ⟨k6, lm⟩ => [(0, .pointer (some ⟨gp, 0, none⟩)), (2, .slice As ns cS), (3, .slice Af nf cf), (187, .slice Ao no co), (188, .int .i64 (((no : Nat) : Int))), (189, .int .i64 (((k6 : Nat) : Int)))]) (fun ⟨k6, lm⟩ wl6 => (k6 ≤ no) ∧ (lm = delAll ls (old.take k6)) ∧ ChP w wl6 (LF gp gs gh A c) ∧ w45_2.heap.size ≤ wl6.heap.size ∧ Blk wl6 gp 105 #[.slice A own.length c, .map (some gs), .map (some gh), .int .i64 (lost)] ∧ OVec wl6 0 3 iv 1 A own.length c own ∧ MapG wl6 ikf seatf gs lm cs ∧ MapG wl6 plf holdf gh lh ck) (fun ⟨k6, lm⟩ => no - k6) (0, ls) ?_ ?_ ?_
                            · exact .cons rfl (.cons rfl (.cons rfl (.cons rfl (.cons rfl (.cons rfl (.nil _))))))
                            · exact ⟨Nat.zero_le _, rfl, L164, Nat.le_refl _, f166, f167, f165, f168⟩
                            · rintro ⟨k6, lm⟩ wl6 ⟨hk6, hlm, Ll6, zl6, f6_0, f6_1, f6_2, f6_3⟩
                              refine WC.seq ?_
                              refine WC.region ?_
                              refine W.any (.lss rfl rfl) rfl rfl rfl ?_
                              refine W.nil ?_
                              refine E.thenN ?_
                              refine WC.seq ?_
                              by_cases c11 : ((k6 : Nat) : Int) < ((no : Nat) : Int)
                              · refine WC.condY rfl (decide_eq_true c11) ?_
                                refine WC.skip ?_
                                refine E.thenN ?_
                                refine WC.seq ?_
                                refine WC.block ?_
                                refine WC.seq ?_
                                refine WC.region ?_
                                refine W.any (.idxS (k6) Try.underlying41 sz3 rfl rfl (ho.isSome iv_row (by omega)) (rfl) (by omega)) rfl rfl rfl ?_
                                refine W.rd (.vone (v := .int .i64 ((old.getD k6 0))) na3 rfl (ho.chP Ll6 hoa) iv_row (getS old 0 (by first | omega | (simp only [List.length_cons, List.length_nil]; omega))) rfl) rfl rfl rfl ?_
                                refine W.any (.assign rfl) rfl rfl rfl ?_
                                refine W.nil ?_
                                refine E.thenN ?_
                                refine WC.region ?_
                                refine W.any (.move rfl) rfl rfl rfl ?_
                                refine W.any (.nilCheck rfl) rfl rfl rfl ?_
                                refine W.any (.field0 fa105_1 rfl) rfl rfl rfl ?_
                                refine W.rd (.loadB (v := .map (some gs)) na101 rfl f6_0 rfl) rfl rfl rfl ?_
                                refine W.any (.move rfl) rfl rfl rfl ?_
                                refine W.ef0 rfl rfl ?_
                                refine Ef.deleteG (key := (old.getD k6 0)) Try.underlying101 kint rfl rfl f6_2 ?_
                                intro w50_5 b50_5 h50_5
                                have L169 : ChP w w50_5 (LF gp gs gh A c) := Ll6.ch h50_5 (fun i hi _ => by cases hi; exact Or.inr (Or.inl rfl))
                                refine W.nil ?_
                                refine E.blkN ?_
                                refine E.thenN ?_
                                refine WC.region ?_
                                refine W.any (.add rfl rfl (by omega)) rfl rfl rfl ?_
                                refine W.any (.move rfl) rfl rfl rfl ?_
                                refine W.nil ?_
                                have f170 := (f6_0.ch h50_5 (fun h => (Ne.symm n1) (Option.some.inj h)))
                                have f171 := (f6_1.ch h50_5 (fun q hq => by cases hq; exact n5))
                                have f172 := (f6_3.ch h50_5 (fun h => n3 (Option.some.inj h)))
                                refine E.again (k6 + 1, (delM (old.getD k6 0) lm)) (.cons rfl (.cons rfl (.cons rfl (.cons rfl (.cons rfl (.cons rfl (.nil _))))))) ?_ ?_
                                · exact ⟨by omega, by rw [delAll_next (by omega), ← hlm], L169, by have := zl6; have := h50_5.size; omega, f170, f171, b50_5, f172⟩
                                · first | omega | (simp only []; omega)
                              · refine WC.condN rfl (decide_eq_false c11) ?_
                                refine WC.exit ?_
                                refine E.thenX ?_
                                refine E.thenX ?_
                                refine E.blkH ?_
                                refine E.thenN ?_
                                refine WC.seq ?_
                                refine WC.seq ?_
                                refine WC.region ?_
                                refine W.any (.move rfl) rfl rfl rfl ?_
                                refine W.rd (.len Try.underlying50 rfl) rfl rfl rfl ?_
                                refine W.any (.move rfl) rfl rfl rfl ?_
                                refine W.nil ?_
                                refine E.thenN ?_
                                refine WC.block ?_
                                refine WC.loop (ι := Nat × SM × Nat) (fun ⟨k7, ln, cn⟩ => [(0, .pointer (some ⟨gp, 0, none⟩)), (3, .slice Af nf cf), (199, .slice As ns cS), (200, .int .i64 (((ns : Nat) : Int))), (201, .int .i64 (((k7 : Nat) : Int)))]) (fun ⟨k7, ln, cn⟩ wl7 => (k7 ≤ ns) ∧ ((ln, cn) = putAll (lm, cs) (seats.take k7)) ∧ ChP w wl7 (LF gp gs gh A c) ∧ wl6.heap.size ≤ wl7.heap.size ∧ Blk wl7 gp 105 #[.slice A own.length c, .map (some gs), .map (some gh), .int .i64 (lost)] ∧ OVec wl7 0 3 iv 1 A own.length c own ∧ MapG wl7 ikf seatf gs ln cn ∧ MapG wl7 plf holdf gh lh ck) (fun ⟨k7, ln, cn⟩ => ns - k7) (0, lm, cs) ?_ ?_ ?_
                                · exact .cons rfl (.cons rfl (.cons rfl (.cons rfl (.cons rfl (.nil _)))))
                                · exact ⟨Nat.zero_le _, rfl, Ll6, Nat.le_refl _, f6_0, f6_1, f6_2, f6_3⟩
                                · rintro ⟨k7, ln, cn⟩ wl7 ⟨hk7, hln, Ll7, zl7, f7_0, f7_1, f7_2, f7_3⟩
                                  refine WC.seq ?_
                                  refine WC.region ?_
                                  refine W.any (.lss rfl rfl) rfl rfl rfl ?_
                                  refine W.nil ?_
                                  refine E.thenN ?_
                                  refine WC.seq ?_
                                  by_cases c12 : ((k7 : Nat) : Int) < ((ns : Nat) : Int)
                                  · refine WC.condY rfl (decide_eq_true c12) ?_
                                    refine WC.skip ?_
                                    refine E.thenN ?_
                                    refine WC.seq ?_
                                    refine WC.block ?_
                                    refine WC.seq ?_
                                    refine WC.region ?_
                                    refine W.any (.idxS (k7) Try.underlying50 sz33 rfl rfl (hs.isSome seatV_row (by omega)) (rfl) (by omega)) rfl rfl rfl ?_
                                    refine W.rd (.vload ag33 rfl (hs.chP Ll7 hsa) seatV_row (getS seats noSeat (by first | omega | (simp only [List.length_cons, List.length_nil]; omega)))) rfl rfl rfl ?_
                                    refine W.ef rfl rfl rfl ?_
                                    refine Ef.allocA z33 ?_
                                    intro g54_2 w54_2 hg54_2 b54_2 h54_2
                                    have L173 := Ll7.le h54_2
                                    have b54_2 : Blk w54_2 g54_2 33 (seatV noSeat).toArray := b54_2
                                    refine W.ef0 rfl rfl ?_
                                    refine Ef.storeAll sz33 (by rfl) rfl rfl b54_2 (by rfl) (seatV_row.one (seats.getD k7 noSeat)) ?_
                                    intro w54_3 b54_3 h54_3
                                    have b54_3 : Blk w54_3 g54_2 33 (seatV (seats.getD k7 noSeat)).toArray := b54_3
                                    have L174 : ChP w w54_3 (LF gp gs gh A c) := L173.ch h54_3 (fun i hi hlt => by cases hi; exact absurd hlt (by have := Ll7.size; have := hg54_2; omega))
                                    refine W.nil ?_
                                    refine E.thenN ?_
                                    refine WC.draw [0, 1, 2, 3, 4, 5, 6, 7] mixed (by kernel_rfl) ?_
                                    intro w55 d55
                                    have L175 := L174.le d55
                                    refine G.any rfl rfl (.move rfl) rfl rfl rfl ?_
                                    refine G.any rfl rfl (.nilCheck rfl) rfl rfl rfl ?_
                                    refine G.any rfl rfl (.field0 fa105_1 rfl) rfl rfl rfl ?_
                                    have f176 := (((f7_0.le h54_2).ch h54_3 (fun h => (show g54_2 ≠ gp from by have := f7_0.lt; omega) (Option.some.inj h))).le d55)
                                    refine G.rd rfl rfl (.loadB (v := .map (some gs)) na101 rfl f176 rfl) rfl rfl rfl ?_
                                    refine G.any rfl rfl (.field0 fa33_0 rfl) rfl rfl rfl ?_
                                    have f177 := (b54_3.le d55)
                                    refine G.rd rfl rfl (.loadB (v := .int .i64 ((seats.getD k7 noSeat).ch)) na3 rfl f177 rfl) rfl rfl rfl ?_
                                    refine G.rd rfl rfl (.loadAll ag33 (by rfl) rfl f177) rfl rfl rfl ?_
                                    rcases optG (getG ((seats.getD k7 noSeat).ch) ln) with hk55_7 | ⟨vhk55_7, hk55_7⟩
                                    · have f178 := (((f7_2.le h54_2).ch h54_3 (fun h => (show g54_2 ≠ gs from by have := f7_2.lt; omega) (Option.some.inj h))).le d55)
                                      refine G.ef0 rfl rfl rfl rfl ?_
                                      refine Ef.insertG (key := ((seats.getD k7 noSeat).ch)) (u := (seats.getD k7 noSeat)) Try.underlying101 kint rfl rfl rfl f178 (hk55_7) ?_
                                      intro w55_7 b55_7 h55_7
                                      refine ⟨fun h => absurd h (ne_true_of_eq_false (by kernel_rfl)), ?_⟩
                                      have L179 : ChP w w55_7 (LF gp gs gh A c) := L175.ch h55_7 (fun i hi _ => by cases hi; exact Or.inr (Or.inl rfl))
                                      refine G.nil ?_
                                      refine E.blkN ?_
                                      refine E.thenN ?_
                                      refine WC.region ?_
                                      refine W.any (.add rfl rfl (by omega)) rfl rfl rfl ?_
                                      refine W.any (.move rfl) rfl rfl rfl ?_
                                      refine W.nil ?_
                                      have f180 := (f176.ch h55_7 (fun h => (Ne.symm n1) (Option.some.inj h)))
                                      have f181 := ((((f7_1.le h54_2).ch h54_3 (fun q hq => by cases hq; exact (fun he => by have := (f7_1.row he).2; omega))).le d55).ch h55_7 (fun q hq => by cases hq; exact n5))
                                      have f182 := ((((f7_3.le h54_2).ch h54_3 (fun h => (show g54_2 ≠ gh from by have := f7_3.lt; omega) (Option.some.inj h))).le d55).ch h55_7 (fun h => n3 (Option.some.inj h)))
                                      refine E.again (k7 + 1, (ln ++ [(cn, (seats.getD k7 noSeat).ch, (seats.getD k7 noSeat))]), (cn + 1)) (.cons rfl (.cons rfl (.cons rfl (.cons rfl (.cons rfl (.nil _)))))) ?_ ?_
                                      · exact ⟨by omega, by rw [putAll_next (by omega), ← hln, putS_none hk55_7], L179, by have := zl7; have := h54_2.size; have := h54_3.size; have := d55.size; have := h55_7.size; omega, f180, f181, b55_7, f182⟩
                                      · first | omega | (simp only []; omega)
                                    · have f183 := (((f7_2.le h54_2).ch h54_3 (fun h => (show g54_2 ≠ gs from by have := f7_2.lt; omega) (Option.some.inj h))).le d55)
                                      refine G.ef0 rfl rfl rfl rfl ?_
                                      refine Ef.updateG (key := ((seats.getD k7 noSeat).ch)) (u := (seats.getD k7 noSeat)) Try.underlying101 kint rfl rfl rfl f183 stay_i (hk55_7) ?_
                                      intro w55_7_1 b55_7_1 h55_7_1
                                      refine ⟨fun h => absurd h (ne_true_of_eq_false (by kernel_rfl)), ?_⟩
                                      have L184 : ChP w w55_7_1 (LF gp gs gh A c) := L175.ch h55_7_1 (fun i hi _ => by cases hi; exact Or.inr (Or.inl rfl))
                                      refine G.nil ?_
                                      refine E.blkN ?_
                                      refine E.thenN ?_
                                      refine WC.region ?_
                                      refine W.any (.add rfl rfl (by omega)) rfl rfl rfl ?_
                                      refine W.any (.move rfl) rfl rfl rfl ?_
                                      refine W.nil ?_
                                      have f185 := (f176.ch h55_7_1 (fun h => (Ne.symm n1) (Option.some.inj h)))
                                      have f186 := ((((f7_1.le h54_2).ch h54_3 (fun q hq => by cases hq; exact (fun he => by have := (f7_1.row he).2; omega))).le d55).ch h55_7_1 (fun q hq => by cases hq; exact n5))
                                      have f187 := ((((f7_3.le h54_2).ch h54_3 (fun h => (show g54_2 ≠ gh from by have := f7_3.lt; omega) (Option.some.inj h))).le d55).ch h55_7_1 (fun h => n3 (Option.some.inj h)))
                                      refine E.again (k7 + 1, (updM (seats.getD k7 noSeat).ch (seats.getD k7 noSeat) ln), cn) (.cons rfl (.cons rfl (.cons rfl (.cons rfl (.cons rfl (.nil _)))))) ?_ ?_
                                      · exact ⟨by omega, by rw [putAll_next (by omega), ← hln, putS_some hk55_7], L184, by have := zl7; have := h54_2.size; have := h54_3.size; have := d55.size; have := h55_7_1.size; omega, f185, f186, b55_7_1, f187⟩
                                      · first | omega | (simp only []; omega)
                                  · refine WC.condN rfl (decide_eq_false c12) ?_
                                    refine WC.exit ?_
                                    refine E.thenX ?_
                                    refine E.thenX ?_
                                    refine E.blkH ?_
                                    refine E.thenN ?_
                                    refine WC.seq ?_
                                    refine WC.seq ?_
                                    refine WC.region ?_
                                    refine W.any (.move rfl) rfl rfl rfl ?_
                                    refine W.rd (.len Try.underlying41 rfl) rfl rfl rfl ?_
                                    refine W.any (.move rfl) rfl rfl rfl ?_
                                    refine W.nil ?_
                                    refine E.thenN ?_
                                    refine WC.block ?_
                                    refine WC.loop (ι := Nat × Int) (fun ⟨k8, lo⟩ => [(0, .pointer (some ⟨gp, 0, none⟩)), (213, .slice Af nf cf), (214, .int .i64 (((nf : Nat) : Int))), (215, .int .i64 (((k8 : Nat) : Int)))]) (fun ⟨k8, lo⟩ wl8 => (k8 ≤ nf) ∧ (lo = lost + (fee.take k8).sum) ∧ ChP w wl8 (LF gp gs gh A c) ∧ wl7.heap.size ≤ wl8.heap.size ∧ Blk wl8 gp 105 #[.slice A own.length c, .map (some gs), .map (some gh), .int .i64 (lo)] ∧ OVec wl8 0 3 iv 1 A own.length c own ∧ MapG wl8 ikf seatf gs ln cn ∧ MapG wl8 plf holdf gh lh ck) (fun ⟨k8, lo⟩ => nf - k8) (0, lost) ?_ ?_ ?_
                                    · exact .cons rfl (.cons rfl (.cons rfl (.cons rfl (.nil _))))
                                    · exact ⟨Nat.zero_le _, by simp, Ll7, Nat.le_refl _, f7_0, f7_1, f7_2, f7_3⟩
                                    · rintro ⟨k8, lo⟩ wl8 ⟨hk8, hlo, Ll8, zl8, f8_0, f8_1, f8_2, f8_3⟩
                                      have hcs := coins_at hok.2.2 k8 (by omega)
                                      refine WC.seq ?_
                                      refine WC.region ?_
                                      refine W.any (.lss rfl rfl) rfl rfl rfl ?_
                                      refine W.nil ?_
                                      refine E.thenN ?_
                                      refine WC.seq ?_
                                      by_cases c13 : ((k8 : Nat) : Int) < ((nf : Nat) : Int)
                                      · refine WC.condY rfl (decide_eq_true c13) ?_
                                        refine WC.skip ?_
                                        refine E.thenN ?_
                                        refine WC.seq ?_
                                        refine WC.block ?_
                                        refine WC.seq ?_
                                        refine WC.region ?_
                                        refine W.any (.idxS (k8) Try.underlying41 sz3 rfl rfl (hf.isSome iv_row (by omega)) (rfl) (by omega)) rfl rfl rfl ?_
                                        refine W.rd (.vone (v := .int .i64 ((fee.getD k8 0))) na3 rfl (hf.chP Ll8 hfa) iv_row (getS fee 0 (by first | omega | (simp only [List.length_cons, List.length_nil]; omega))) rfl) rfl rfl rfl ?_
                                        refine W.any (.assign rfl) rfl rfl rfl ?_
                                        refine W.nil ?_
                                        refine E.thenN ?_
                                        refine WC.region ?_
                                        refine W.any (.move rfl) rfl rfl rfl ?_
                                        refine W.any (.nilCheck rfl) rfl rfl rfl ?_
                                        refine W.any (.field0 fa105_3 rfl) rfl rfl rfl ?_
                                        refine W.rd (.loadB (v := .int .i64 (lo)) na3 rfl f8_0 rfl) rfl rfl rfl ?_
                                        refine W.any (.move rfl) rfl rfl rfl ?_
                                        refine W.any (.add rfl rfl (by have := coin_at hok.2.2 (show k8 < fee.length by omega); omega)) rfl rfl rfl ?_
                                        refine W.any (.nilCheck rfl) rfl rfl rfl ?_
                                        refine W.any (.field0 fa105_3 rfl) rfl rfl rfl ?_
                                        refine W.ef0 rfl rfl ?_
                                        refine Ef.store sz3 rfl rfl f8_0 (by first | decide | (simp; done)) (rfl) ?_
                                        intro w60_8 b60_8 h60_8
                                        have b60_8 : Blk w60_8 gp 105 #[.slice A own.length c, .map (some gs), .map (some gh), .int .i64 ((lo + (fee.getD k8 0)))] := b60_8
                                        have L188 : ChP w w60_8 (LF gp gs gh A c) := Ll8.ch h60_8 (fun i hi _ => by cases hi; exact Or.inl rfl)
                                        refine W.nil ?_
                                        refine E.blkN ?_
                                        refine E.thenN ?_
                                        refine WC.region ?_
                                        refine W.any (.add rfl rfl (by omega)) rfl rfl rfl ?_
                                        refine W.any (.move rfl) rfl rfl rfl ?_
                                        refine W.nil ?_
                                        have f189 := (f8_1.ch h60_8 (fun q hq => by cases hq; exact n4))
                                        have f190 := (f8_2.ch h60_8 (fun h => n1 (Option.some.inj h)))
                                        have f191 := (f8_3.ch h60_8 (fun h => n2 (Option.some.inj h)))
                                        refine E.again (k8 + 1, (lo + (fee.getD k8 0))) (.cons rfl (.cons rfl (.cons rfl (.cons rfl (.nil _))))) ?_ ?_
                                        · exact ⟨by omega, by rw [sum_take_next (by omega)]; omega, L188, by have := zl8; have := h60_8.size; omega, b60_8, f189, f190, f191⟩
                                        · first | omega | (simp only []; omega)
                                      · refine WC.condN rfl (decide_eq_false c13) ?_
                                        refine WC.exit ?_
                                        refine E.thenX ?_
                                        refine E.thenX ?_
                                        refine E.blkH ?_
                                        refine E.thenN ?_
                                        refine WC.seq ?_
                                        refine WC.region ?_
                                        refine W.any (.assign rfl) rfl rfl rfl ?_
                                        refine W.nil ?_
                                        refine E.thenN ?_
                                        refine WC.ret ?_
                                        refine E.retG1 rfl rfl ?_
                                        have e9 : cutC own.length ls lh old seats fee = 0 := cutC_ok hok ht5 ht14 ht4 (by rw [List.take_of_length_le (by omega)] at c10; exact c10); have e1 : cutLs ls cs old seats = (ln, cn) := (by rw [hln, hlm, List.take_of_length_le (by omega), List.take_of_length_le (by omega)]; rfl); have e2 : lost + fee.sum = lo := (by rw [hlo, List.take_of_length_le (by omega)]); exact ⟨Ll8, by rw [e9], .inr ⟨e9, by rw [e1, e2]; exact ⟨f8_0, f8_1, f8_2, f8_3, n1, n2, n3, n4, n5, n6⟩⟩⟩
                          · refine WC.condY rfl (congrArg not (decide_eq_false c10)) ?_
                            refine WC.seq ?_
                            refine WC.region ?_
                            refine W.any (.assign rfl) rfl rfl rfl ?_
                            refine W.nil ?_
                            refine E.thenN ?_
                            refine WC.ret ?_
                            refine E.thenR ?_
                            have f192 := (f4_0.le h45_2)
                            have f193 := (f4_1.le h45_2)
                            have f194 := (f4_2.le h45_2)
                            have f195 := (f4_3.le h45_2)
                            refine E.retG1 rfl rfl ?_
                            have e9 : cutC own.length ls lh old seats fee = 8 := cutC_8 hok ht5 ht14 ht4 (by rw [List.take_of_length_le (by omega)] at c10; exact c10); exact ⟨L164, by rw [e9], .inl ⟨by rw [e9]; decide, ⟨f192, f193, f194, f195, n1, n2, n3, n4, n5, n6⟩⟩⟩
end Go.Proofs.Ytnmcbdbpafhinaa

namespace Go.Proofs.Ytnmcbdbpafhinaa
open Go Go.Sx Go.Num Go.Gsp Go.Lsp
set_option maxRecDepth 20000
set_option linter.unusedSimpArgs false
set_option linter.unusedVariables false
theorem rowOf_of {A : Option Addr} {c q : Nat} (h : blkOf A = some q) (hc : 0 < c) : rowOf A c = some q := by
  unfold rowOf
  rw [if_neg (by omega)]
  exact h
def GrownL (w : World) (F F' : Nat → Prop) : Prop := ∀ k, F' k → F k ∨ w.heap.size ≤ k
/-- A ledger of a state, in the blocks F, all of them new behind 'base'. -/
def LPool (w : World) (base gp : Nat) (F : Nat → Prop) (s : Led) : Prop := ∃ gs gh A c, LedL w gp gs gh A c s.cs s.ck s.own s.ls s.lh s.lost ∧ GoodL s ∧ (∀ k, F k ↔ LF gp gs gh A c k) ∧ ∀ k, F k → base ≤ k
section
variable {w w' : World} {base gp : Nat} {F : Nat → Prop} {s : Led}
theorem LPool.chP {F' : Nat → Prop} (h : LPool w base gp F s) (hc : ChP w w' F') (hne : ∀ k, F k → ¬ F' k) : LPool w' base gp F s := by
  obtain ⟨gs, gh, A, c, h1, h2, h3, h4⟩ := h
  exact ⟨gs, gh, A, c, h1.chP hc (fun k hk => hne k ((h3 k).2 hk)), h2, h3, h4⟩
theorem LPool.ch {r : Option Nat} (h : LPool w base gp F s) (hc : Ch w w' r) (hne : ∀ k, r = some k → ¬ F k) : LPool w' base gp F s := h.chP (hc.chP (F := fun k => r = some k) (fun i hi => hi)) (fun k hk hr => hne k hr hk)
theorem LPool.le (h : LPool w base gp F s) (hl : Le w w') : LPool w' base gp F s := h.chP (hl.chP (fun _ => False)) (fun _ _ hf => hf)
theorem LPool.lt (h : LPool w base gp F s) {k : Nat} (hk : F k) : k < w.heap.size := by
  obtain ⟨gs, gh, A, c, h1, h2, h3, h4⟩ := h
  exact h1.lt ((h3 k).1 hk)
theorem LPool.good (h : LPool w base gp F s) : GoodL s := by
  obtain ⟨gs, gh, A, c, h1, h2, h3, h4⟩ := h
  exact h2
theorem LPool.old (h : LPool w base gp F s) {k : Nat} (hk : F k) : base ≤ k := by
  obtain ⟨gs, gh, A, c, h1, h2, h3, h4⟩ := h
  exact h4 k hk
theorem LPool.size (h : LPool w base gp F s) : base ≤ w.heap.size := by
  obtain ⟨gs, gh, A, c, h1, h2, h3, h4⟩ := h
  have := h4 gp ((h3 gp).2 (.inl rfl))
  have := h1.hp.lt
  omega
/-- Behind an act. -/
theorem LPool.next {gs gh gs' : Nat} {A : Option Addr} {c : Nat} {s' : Led} (h : LedL w' gp gs' gh A c s'.cs s'.ck s'.own s'.ls s'.lh s'.lost) (hg : GoodL s') (hF : ∀ k, F k ↔ LF gp gs gh A c k) (hb : ∀ k, F k → base ≤ k) (hbw : base ≤ w.heap.size) (hs : gs' = gs ∨ w.heap.size ≤ gs') :
    ∃ F', LPool w' base gp F' s' ∧ GrownL w F F' := by
  have hgr : ∀ k, LF gp gs' gh A c k → F k ∨ w.heap.size ≤ k := by
    rintro k (hk | hk | hk | hk)
    · exact .inl ((hF k).2 (.inl hk))
    · rcases hs with hs | hs
      · exact .inl ((hF k).2 (.inr (.inl (hk.trans hs))))
      · exact .inr (by omega)
    · exact .inl ((hF k).2 (.inr (.inr (.inl hk))))
    · exact .inl ((hF k).2 (.inr (.inr (.inr hk))))
  refine ⟨LF gp gs' gh A c, ⟨gs', gh, A, c, h, hg, fun _ => Iff.rfl, fun k hk => ?_⟩, hgr⟩
  rcases hgr k hk with h1 | h1
  · exact hb k h1
  · omega
theorem hGood_of (h : GoodL s) : hGood s.ls := fun x hx => by
  obtain ⟨_, _, _, _, _, h3, h4⟩ := h.seats x hx
  omega
theorem hw_of (h : GoodL s) : ∀ x ∈ s.ls, ∀ i, 0 ≤ x.2.2.h i ∧ x.2.2.h i ≤ 1125899906842624 := fun x hx i => (h_two (h.seats x hx).2.2 i).1
theorem hw2_of (h : GoodL s) : ∀ x ∈ s.ls, 0 ≤ x.2.2.h0 ∧ 0 ≤ x.2.2.h1 := fun x hx => by
  obtain ⟨_, _, _, _, _, h3, h4⟩ := h.seats x hx
  omega
theorem hv_of (h : GoodL s) : ∀ x ∈ s.lh, (0 ≤ x.2.1.side ∧ x.2.1.side ≤ 1) ∧ (0 ≤ x.2.2.am ∧ x.2.2.am ≤ 1125899906842624) ∧ ∃ t, getG x.2.1.ch s.ls = some t := fun x hx => by
  obtain ⟨h1, h2, h3⟩ := h.holds x hx
  exact ⟨h1, by omega, h3⟩
theorem hs_of (h : GoodL s) : ∀ x ∈ s.ls, seatOk s.own.length x.2.2 := fun x hx => (h.seats x hx).2.2
theorem hq_of (h : GoodL s) : ∀ ch side, heldL s.lh ch side ≤ 1125899906842624 := fun ch side => (h.heldB ch side).2
/-- What an act does: it tells a number, and the ledger is another one. -/
def Acted (w : World) (base gp : Nat) (F : Nat → Prop) (r : Led × Int) : Ending → World → Prop := fun e w' => ∃ F', e = .returned (.int .i64 r.2) ∧ LPool w' base gp F' r.1 ∧ GrownL w F F' ∧ ChP w w' F
theorem acted {gs gh gs' : Nat} {A : Option Addr} {c : Nat} {r : Led × Int} {e : Ending} (hr : e = .returned (.int .i64 r.2)) (h : LedL w' gp gs' gh A c r.1.cs r.1.ck r.1.own r.1.ls r.1.lh r.1.lost) (hg : GoodL r.1) (hF : ∀ k, F k ↔ LF gp gs gh A c k) (hb : ∀ k, F k → base ≤ k) (hbw : base ≤ w.heap.size) (hs : gs' = gs ∨ w.heap.size ≤ gs') (hc : ChP w w' (LF gp gs gh A c)) : Acted w base gp F r e w' := by
  obtain ⟨F', h1, h2⟩ := LPool.next h hg hF hb hbw hs
  exact ⟨F', hr, h1, h2, hc.mono (fun k hk _ => (hF k).2 hk)⟩
theorem open_led (t : Seat) (fee : Int) (h : LPool w base gp F s) : Calls Try.prog 40 #[.pointer (some ⟨gp, 0, none⟩), .agg (seatV t).toArray, .int .i64 fee] w (Acted w base gp F (openL s t fee)) := by
  have hbw := h.size
  have hgd := h.good
  have hg := (open_good hgd t fee).1
  obtain ⟨gs, gh, A, c, h1, h2, h3, h4⟩ := h
  refine Calls.mono (lopen_ok t fee w h1 hgd.ownB hgd.lostB) ?_
  rintro r w' ⟨hc, hr⟩
  rcases hr with ⟨q1, rfl, hL⟩ | ⟨q1, ⟨u, q2⟩, rfl, hL⟩ | ⟨q1, q2, q3, rfl, hL⟩ | ⟨q1, q2, q3, rfl, hL⟩
  · have e : openL s t fee = (s, 1) := by unfold openL; rw [if_pos q1]
    rw [e] at hg ⊢
    exact acted rfl hL hg h3 h4 hbw (.inl rfl) hc
  · have e : openL s t fee = (s, 4) := by unfold openL; rw [if_neg (not_not_intro q1), if_pos (by rw [q2]; rfl)]
    rw [e] at hg ⊢
    exact acted rfl hL hg h3 h4 hbw (.inl rfl) hc
  · have e : openL s t fee = (s, 8) := by unfold openL; rw [if_neg (not_not_intro q1), if_neg (by rw [q2]; simp), if_pos q3]
    rw [e] at hg ⊢
    exact acted rfl hL hg h3 h4 hbw (.inl rfl) hc
  · have e : openL s t fee = (⟨giveO (giveO s.own t 0 t.h0 fee) t 1 t.h1 0, s.ls ++ [(s.cs, t.ch, t)], s.cs + 1, s.lh, s.ck, s.lost + fee⟩, 0) := by unfold openL; rw [if_neg (not_not_intro q1), if_neg (by rw [q2]; simp), if_neg q3]
    rw [e] at hg ⊢
    exact acted rfl hL hg h3 h4 hbw (.inl rfl) hc
theorem close_led (ch : Int) (fee : Pair) (h : LPool w base gp F s) : Calls Try.prog 42 #[.pointer (some ⟨gp, 0, none⟩), .int .i64 ch, .agg (pairV fee).toArray] w (Acted w base gp F (closeL s ch fee)) := by
  have hbw := h.size
  have hgd := h.good
  have hg := (close_good hgd ch fee).1
  obtain ⟨gs, gh, A, c, h1, h2, h3, h4⟩ := h
  refine Calls.mono (lclose_ok ch fee w h1 hgd.a_nn (hq_of hgd) (hs_of hgd) hgd.ownB hgd.lostB) ?_
  rintro r w' ⟨hc, hr⟩
  rcases hr with ⟨q1, rfl, hL⟩ | ⟨q1, q2, rfl, hL⟩ | ⟨q1, t, q2, ⟨q3, rfl, hL⟩ | ⟨q3, q4, rfl, hL⟩ | ⟨q3, q4, rfl, hL⟩⟩
  · have e : closeL s ch fee = (s, 1) := by unfold closeL; rw [if_pos q1]
    rw [e] at hg ⊢
    exact acted rfl hL hg h3 h4 hbw (.inl rfl) hc
  · have e : closeL s ch fee = (s, 5) := by unfold closeL; rw [if_neg (not_not_intro q1), q2]
    rw [e] at hg ⊢
    exact acted rfl hL hg h3 h4 hbw (.inl rfl) hc
  · have e : closeL s ch fee = (s, 14) := by unfold closeL; rw [if_neg (not_not_intro q1), q2]; simp only; rw [if_pos q3]
    rw [e] at hg ⊢
    exact acted rfl hL hg h3 h4 hbw (.inl rfl) hc
  · have e : closeL s ch fee = (s, 8) := by unfold closeL; rw [if_neg (not_not_intro q1), q2]; simp only; rw [if_neg (not_not_intro q3), if_pos q4]
    rw [e] at hg ⊢
    exact acted rfl hL hg h3 h4 hbw (.inl rfl) hc
  · have e : closeL s ch fee = (⟨backO s.own t fee 2, delM ch s.ls, s.cs, s.lh, s.ck, backF s.lost fee 2⟩, 0) := by unfold closeL; rw [if_neg (not_not_intro q1), q2]; simp only; rw [if_neg (not_not_intro q3), if_neg q4]
    rw [e] at hg ⊢
    exact acted rfl hL hg h3 h4 hbw (.inl rfl) hc
theorem offer_led (ch side id am : Int) (pt : Nat) (hpt : pt < 18446744073709551616) (h : LPool w base gp F s) : Calls Try.prog 24 #[.pointer (some ⟨gp, 0, none⟩), .int .i64 ch, .int .i64 side, .int .i64 id, .int .i64 am, .int .u64 ((pt : Nat) : Int)] w (Acted w base gp F (offerL s ch side id am pt)) := by
  have hbw := h.size
  have hgd := h.good
  have hg := (offer_good hgd ch side id am pt).1
  obtain ⟨gs, gh, A, c, h1, h2, h3, h4⟩ := h
  refine Calls.mono (loffer_ok ch side id am pt w h1 hpt (hw_of hgd)) ?_
  rintro r w' ⟨hc, hr⟩
  rcases hr with ⟨q1, rfl, hL⟩ | ⟨q1, q2, rfl, hL⟩ | ⟨q1, t, q2, ⟨x, q3, rfl, hL⟩ | ⟨q3, ⟨q4, rfl, hL⟩ | ⟨q4, rfl, hL⟩⟩⟩
  · have e : offerL s ch side id am pt = (s, 1) := by unfold offerL; rw [if_pos q1]
    rw [e] at hg ⊢
    exact acted rfl hL hg h3 h4 hbw (.inl rfl) hc
  · have e : offerL s ch side id am pt = (s, 5) := by unfold offerL; rw [if_neg (not_not_intro q1), q2]
    rw [e] at hg ⊢
    exact acted rfl hL hg h3 h4 hbw (.inl rfl) hc
  · have e : offerL s ch side id am pt = (s, 4) := by unfold offerL; rw [if_neg (not_not_intro q1), q2]; simp only; rw [if_pos (by rw [q3]; rfl)]
    rw [e] at hg ⊢
    exact acted rfl hL hg h3 h4 hbw (.inl rfl) hc
  · have e : offerL s ch side id am pt = (s, 8) := by unfold offerL; rw [if_neg (not_not_intro q1), q2]; simp only; rw [if_neg (by rw [q3]; simp), if_pos q4]
    rw [e] at hg ⊢
    exact acted rfl hL hg h3 h4 hbw (.inl rfl) hc
  · have e : offerL s ch side id am pt = (⟨s.own, updM ch (t.setH side.toNat (t.h side.toNat - am)) s.ls, s.cs, s.lh ++ [(s.ck, ⟨ch, side, id⟩, ⟨am, pt⟩)], s.ck + 1, s.lost⟩, 0) := by unfold offerL; rw [if_neg (not_not_intro q1), q2]; simp only; rw [if_neg (by rw [q3]; simp), if_neg q4]
    rw [e] at hg ⊢
    exact acted rfl hL hg h3 h4 hbw (.inl rfl) hc
theorem settle_led (ch side id : Int) (sec : Nat) (h : LPool w base gp F s) : Calls Try.prog 27 #[.pointer (some ⟨gp, 0, none⟩), .int .i64 ch, .int .i64 side, .int .i64 id, .int .u64 ((sec : Nat) : Int)] w (Acted w base gp F (settleL s ch side id sec)) := by
  have hbw := h.size
  have hgd := h.good
  have hg := (settle_good hgd ch side id sec).1
  obtain ⟨gs, gh, A, c, h1, h2, h3, h4⟩ := h
  refine Calls.mono (lsettle_ok ch side id sec w h1 (hw_of hgd) (hv_of hgd)) ?_
  rintro r w' ⟨hc, hr⟩
  rcases hr with ⟨q1, rfl, hL⟩ | ⟨x, q1, ⟨q2, rfl, hL⟩ | ⟨q2, rfl, t, q3, hL⟩⟩
  · have e : settleL s ch side id sec = (s, 5) := by unfold settleL; rw [q1]
    rw [e] at hg ⊢
    exact acted rfl hL hg h3 h4 hbw (.inl rfl) hc
  · have e : settleL s ch side id sec = (s, 23) := by unfold settleL; rw [q1]; simp only; rw [if_pos q2]
    rw [e] at hg ⊢
    exact acted rfl hL hg h3 h4 hbw (.inl rfl) hc
  · have e : settleL s ch side id sec = (endL s ch side id x t (1 - side), 0) := by unfold settleL; rw [q1]; simp only; rw [if_neg (not_not_intro q2), q3]; rfl
    rw [e] at hg ⊢
    exact acted rfl hL hg h3 h4 hbw (.inl rfl) hc
theorem fail_led (ch side id : Int) (h : LPool w base gp F s) : Calls Try.prog 28 #[.pointer (some ⟨gp, 0, none⟩), .int .i64 ch, .int .i64 side, .int .i64 id] w (Acted w base gp F (failL s ch side id)) := by
  have hbw := h.size
  have hgd := h.good
  have hg := (fail_good hgd ch side id).1
  obtain ⟨gs, gh, A, c, h1, h2, h3, h4⟩ := h
  refine Calls.mono (lfail_ok ch side id w h1 (hw_of hgd) (hv_of hgd)) ?_
  rintro r w' ⟨hc, hr⟩
  rcases hr with ⟨q1, rfl, hL⟩ | ⟨x, q1, rfl, t, q3, hL⟩
  · have e : failL s ch side id = (s, 5) := by unfold failL; rw [q1]
    rw [e] at hg ⊢
    exact acted rfl hL hg h3 h4 hbw (.inl rfl) hc
  · have e : failL s ch side id = (endL s ch side id x t side, 0) := by unfold failL; rw [q1]; simp only; rw [q3]; rfl
    rw [e] at hg ⊢
    exact acted rfl hL hg h3 h4 hbw (.inl rfl) hc
theorem pay_led {Ag : Option Addr} {ng cg : Nat} {legs : List Leg} (h : LPool w base gp F s) (hg0 : Vec w legV 3 Ag ng legs) (hng : ng ≤ 1000) (hga : ∀ q, blkOf Ag = some q → 0 < ng → q < w.heap.size → ¬ F q) : Calls Try.prog 13 #[.pointer (some ⟨gp, 0, none⟩), .slice Ag ng cg] w (Acted w base gp F (payL s legs)) := by
  have hbw := h.size
  have hgd := h.good
  have hg := (pay_good hgd legs).1
  obtain ⟨gs, gh, A, c, h1, h2, h3, h4⟩ := h
  refine Calls.mono (lpay_ok w h1 hg0 hng (hGood_of hgd) (fun q a b d e => hga q a b d ((h3 q).2 e))) ?_
  rintro r w' ⟨hc, hr⟩
  rcases hr with ⟨q1, rfl, hL⟩ | ⟨q1, rfl, gs', q2, hL⟩
  · have e : payL s legs = (s, (payTo s.ls legs).2) := by unfold payL; rw [if_pos q1]
    rw [e] at hg ⊢
    exact acted rfl hL hg h3 h4 hbw (.inl rfl) hc
  · have e : payL s legs = (⟨s.own, (payTo s.ls legs).1, s.cs, s.lh, s.ck, s.lost⟩, 0) := by unfold payL; rw [if_neg (by simpa using q1)]
    rw [e] at hg ⊢
    exact acted rfl hL hg h3 h4 hbw (.inr q2) hc
theorem splice_led (ch : Int) (d fee : Pair) (hd : ∀ k, k < 2 → -9223372036854775808 ≤ d.ix k ∧ d.ix k ≤ 9223372036854775807) (h : LPool w base gp F s) : Calls Try.prog 44 #[.pointer (some ⟨gp, 0, none⟩), .int .i64 ch, .agg (pairV d).toArray, .agg (pairV fee).toArray] w (Acted w base gp F (spliceL s ch d fee)) := by
  have hbw := h.size
  have hgd := h.good
  have hg := (splice_good hgd ch d fee).1
  obtain ⟨gs, gh, A, c, h1, h2, h3, h4⟩ := h
  refine Calls.mono (lsplice_ok ch d fee w h1 hd (hs_of hgd) hgd.ownB hgd.lostB) ?_
  rintro r w' ⟨hc, hr⟩
  rcases hr with ⟨q1, rfl, hL⟩ | ⟨q1, q2, rfl, hL⟩ | ⟨q1, t, q2, ⟨q3, rfl, hL⟩ | ⟨q3, rfl, hL⟩⟩
  · have e : spliceL s ch d fee = (s, 1) := by unfold spliceL; rw [if_pos q1]
    rw [e] at hg ⊢
    exact acted rfl hL hg h3 h4 hbw (.inl rfl) hc
  · have e : spliceL s ch d fee = (s, 5) := by unfold spliceL; rw [if_neg (not_not_intro q1), q2]
    rw [e] at hg ⊢
    exact acted rfl hL hg h3 h4 hbw (.inl rfl) hc
  · have q4 : spNo s.own t d fee 0 ∨ spNo s.own t d fee 1 := by
      obtain ⟨k, hk, hh⟩ := q3
      have : k = 0 ∨ k = 1 := by omega
      rcases this with rfl | rfl
      · exact .inl hh
      · exact .inr hh
    have e : spliceL s ch d fee = (s, 8) := by unfold spliceL; rw [if_neg (not_not_intro q1), q2]; simp only; rw [if_pos q4]
    rw [e] at hg ⊢
    exact acted rfl hL hg h3 h4 hbw (.inl rfl) hc
  · have q4 : ¬ (spNo s.own t d fee 0 ∨ spNo s.own t d fee 1) := by
      rintro (hh | hh)
      · exact q3 0 (by omega) hh
      · exact q3 1 (by omega) hh
    have e : spliceL s ch d fee = (⟨spO s.own (addK t d 2) d fee 2, updM ch (addK t d 2) s.ls, s.cs, s.lh, s.ck, backF s.lost fee 2⟩, 0) := by unfold spliceL; rw [if_neg (not_not_intro q1), q2]; simp only; rw [if_neg q4]
    rw [e] at hg ⊢
    exact acted rfl hL hg h3 h4 hbw (.inl rfl) hc
theorem cut_led {Ao As Af : Option Addr} {no co ns cS nf cf : Nat} {old fee : List Int} {ss : List Seat} (h : LPool w base gp F s) (ho : Vec w iv 1 Ao no old) (hs : Vec w seatV 5 As ns ss) (hf : Vec w iv 1 Af nf fee) (hno : no ≤ 1000) (hns : ns ≤ 1000) (hnf : nf ≤ 1000)
    (hoa : ∀ q, blkOf Ao = some q → 0 < no → q < w.heap.size → ¬ F q) (hsa : ∀ q, blkOf As = some q → 0 < ns → q < w.heap.size → ¬ F q) (hfa : ∀ q, blkOf Af = some q → 0 < nf → q < w.heap.size → ¬ F q) :
    Calls Try.prog 43 #[.pointer (some ⟨gp, 0, none⟩), .slice Ao no co, .slice As ns cS, .slice Af nf cf] w (Acted w base gp F (cutL s old ss fee)) := by
  have hbw := h.size
  have hgd := h.good
  have hg := (cut_good hgd old ss fee).1
  obtain ⟨gs, gh, A, c, h1, h2, h3, h4⟩ := h
  refine Calls.mono (lcut_ok w h1 ho hs hf hno hns hnf (fun q a b d e => hoa q a b d ((h3 q).2 e)) (fun q a b d e => hsa q a b d ((h3 q).2 e)) (fun q a b d e => hfa q a b d ((h3 q).2 e)) hgd.a_nn (hq_of hgd) (hs_of hgd) hgd.lostB) ?_
  rintro r w' ⟨hc, rfl, hr⟩
  rcases hr with ⟨q1, hL⟩ | ⟨q1, hL⟩
  · have e : cutL s old ss fee = (s, cutC s.own.length s.ls s.lh old ss fee) := by unfold cutL; rw [if_pos q1]
    rw [e] at hg ⊢
    exact acted rfl hL hg h3 h4 hbw (.inl rfl) hc
  · have e : cutL s old ss fee = (⟨s.own, (cutLs s.ls s.cs old ss).1, (cutLs s.ls s.cs old ss).2, s.lh, s.ck, s.lost + fee.sum⟩, 0) := by unfold cutL; rw [if_neg (not_not_intro q1)]
    rw [e] at hg ⊢
    exact acted (by rw [q1]) hL hg h3 h4 hbw (.inl rfl) hc
theorem own_led (party : Int) (h : LPool w base gp F s) : Calls Try.prog 16 #[.pointer (some ⟨gp, 0, none⟩), .int .i64 party] w fun r w' => r = .returned (.int .i64 (ownL s.own party)) ∧ Le w w' := by
  obtain ⟨gs, gh, A, c, h1, h2, h3, h4⟩ := h
  exact lown_ok party w h1
theorem lost_led (h : LPool w base gp F s) : Calls Try.prog 17 #[.pointer (some ⟨gp, 0, none⟩)] w fun r w' => r = .returned (.int .i64 s.lost) ∧ Le w w' := by
  obtain ⟨gs, gh, A, c, h1, h2, h3, h4⟩ := h
  exact lost_ok w h1
theorem seat_led (ch : Int) (h : LPool w base gp F s) : Calls Try.prog 14 #[.pointer (some ⟨gp, 0, none⟩), .int .i64 ch] w fun r w' => r = .returned (.tuple #[.agg (seatV (seatAt' s.ls ch)).toArray, .bool (getG ch s.ls).isSome]) ∧ Le w w' := by
  obtain ⟨gs, gh, A, c, h1, h2, h3, h4⟩ := h
  exact lseat_ok ch w h1
theorem held_led (ch side : Int) (h : LPool w base gp F s) : Calls Try.prog 26 #[.pointer (some ⟨gp, 0, none⟩), .int .i64 ch, .int .i64 side] w fun r w' => r = .returned (.int .i64 (heldL s.lh ch side)) ∧ Le w w' := by
  have hgd := h.good
  obtain ⟨gs, gh, A, c, h1, h2, h3, h4⟩ := h
  exact lheld_ok ch side w h1 hgd.a_nn (by have := (hgd.heldB ch side).2; omega)
theorem worth_led (party : Int) (h : LPool w base gp F s) : Calls Try.prog 15 #[.pointer (some ⟨gp, 0, none⟩), .int .i64 party] w fun r w' => r = .returned (.int .i64 (worthL s.own s.ls s.lh party)) ∧ Le w w' := by
  have hgd := h.good
  obtain ⟨gs, gh, A, c, h1, h2, h3, h4⟩ := h
  exact lworth_ok party w h1 hgd.a_nn (hw2_of hgd) (worth_ge hgd party).2 (by have := worth_le hgd party; omega)
theorem total_led (h : LPool w base gp F s) : Calls Try.prog 20 #[.pointer (some ⟨gp, 0, none⟩)] w fun r w' => r = .returned (.int .i64 (s.all - s.lost)) ∧ Le w w' := by
  have hgd := h.good
  obtain ⟨gs, gh, A, c, h1, h2, h3, h4⟩ := h
  have ht := total_all hgd
  refine Calls.mono (ltotal_ok w h1 hgd.a_nn (hw2_of hgd) (fun i => (worth_ge hgd i).2) (by have := hgd.len; omega) (fun i => by have h1 := worth_ge hgd i; have h2 := worth_le hgd i; omega)) ?_
  rintro r w' ⟨rfl, hl⟩
  exact ⟨by rw [ht]; unfold Led.all; congr 2; omega, hl⟩
theorem seats_led (h : LPool w base gp F s) : Calls Try.prog 23 #[.pointer (some ⟨gp, 0, none⟩)] w fun r w' => ∃ (A : Option Addr) (c : Nat), r = .returned (.slice A (seatsL s.ls).length c) ∧ OVec w' w.heap.size 33 seatV 5 A (seatsL s.ls).length c (seatsL s.ls) ∧ Le w w' := by
  have hgd := h.good
  obtain ⟨gs, gh, A, c, h1, h2, h3, h4⟩ := h
  refine Calls.mono (lseats_ok w h1 (fun x hx => by have := (hgd.seats x hx).2.1; unfold inI; omega) (by have := hgd.few; omega)) ?_
  rintro r w' ⟨A', c', ns, rfl, hp, hw, ho, hl⟩
  have e : ns = srtI (keysM s.ls) := srt_uniq (hp.trans (srtI_perm _).symm) hw (srtI_srt _)
  subst e
  exact ⟨A', c', by rw [seatsL_len], ho.cast (seatsL_len _).symm rfl, hl⟩
theorem copy_led (h : LPool w base gp F s) : Calls Try.prog 21 #[.pointer (some ⟨gp, 0, none⟩)] w fun r w' => ∃ gp' F', r = .returned (.pointer (some ⟨gp', 0, none⟩)) ∧ LPool w' w.heap.size gp' F' s ∧ Le w w' := by
  have hgd := h.good
  obtain ⟨gs, gh, A, c, h1, h2, h3, h4⟩ := h
  refine Calls.mono (lcopy_ok w h1 (by have := hgd.len; omega)) ?_
  rintro r w' ⟨gp', gs', gh', A', c', rfl, hL, hn, hl⟩
  exact ⟨gp', LF gp' gs' gh' A' c', rfl, ⟨gs', gh', A', c', hL, hgd, fun _ => Iff.rfl, hn⟩, hl⟩
theorem new_led {Aw : Option Addr} {nw cw : Nat} {own : List Int} (w : World) (hO : Vec w iv 1 Aw nw own) (hn : newOk own) : Calls Try.prog 18 #[.slice Aw nw cw] w fun r w' => ∃ gp F, r = .returned (.pointer (some ⟨gp, 0, none⟩)) ∧ LPool w' w.heap.size gp F ⟨own, [], 0, [], 0, 0⟩ ∧ Le w w' := by
  refine Calls.mono (lnew_ok w hO) ?_
  rintro r w' (⟨q, _⟩ | ⟨q, gp, gs, gh, A, c, rfl, hL, hk, hl⟩)
  · exact absurd hn q
  · exact ⟨gp, LF gp gs gh A c, rfl, ⟨gs, gh, A, c, hL, (new_good q).1, fun _ => Iff.rfl, hk⟩, hl⟩
theorem new_none {Aw : Option Addr} {nw cw : Nat} {own : List Int} (w : World) (hO : Vec w iv 1 Aw nw own) (hn : ¬ newOk own) : Calls Try.prog 18 #[.slice Aw nw cw] w fun r w' => r = .returned (.pointer none) ∧ Le w w' := by
  refine Calls.mono (lnew_ok w hO) ?_
  rintro r w' (⟨q, h⟩ | ⟨q, _⟩)
  · exact h
  · exact absurd q hn
end
end Go.Proofs.Ytnmcbdbpafhinaa

