/- LedgerSheets: for every input the law answers true and leaves its arguments as they were. -/
import Derived.Test.YtgpaekbdbpkogaaGreatLedgerSheetsO
import Derived.Shelf.SlIterI.Nil
import Derived.Shelf.SortM.Plain
import Derived.Shelf.SortM.SortNone
import Derived.Ground.GgzProg
import Derived.Ground.SlgmProg
set_option linter.unusedVariables false
set_option linter.unusedSimpArgs false
set_option maxRecDepth 20000
namespace Go.Proofs
open Go.Shelf
def Tryz.keysA_ren : Go.Shelf.Ren := ⟨fun | 7 => 55 | 10 => 86 | n => n, fun | 23 => 97 | 26 => 3 | 3 => 60 | 28 => 127 | 0 => 0 | 27 => 126 | 33 => 102 | 4 => 4 | n => n, fun | n => n⟩
theorem Tryz.keysA : Go.Proofs.SlLaysZI.n7 prog Tryz.keysA_ren := {
  mixed := by kernel_rfl
  f7 := ⟨Tryz.f55.name, by decide, func55.trans (congrArg some (by kernel_rfl))⟩
  f10 := ⟨Tryz.f86.name, by decide, func86.trans (congrArg some (by kernel_rfl))⟩
  t0 := underlying0
  a0 := Tryz.isAgg0
  z0 := Tryz.sizeOf0
  v0 := Tryz.zeroValue0
  t4 := underlying4
  a4 := Tryz.isAgg4
  z4 := Tryz.sizeOf4
  v4 := Tryz.zeroValue4
  t23 := underlying97
  a23 := Tryz.isAgg97
  z23 := Tryz.sizeOf97
  v23 := Tryz.zeroValue97
  t26 := underlying3
  a26 := Tryz.isAgg3
  z26 := Tryz.sizeOf3
  v26 := Tryz.zeroValue3
  t27 := underlying126
  a27 := Tryz.isAgg126
  z27 := Tryz.sizeOf126
  v27 := Tryz.zeroValue126
  t28 := underlying127
  a28 := Tryz.isAgg127
  z28 := Tryz.sizeOf127
  v28 := Tryz.zeroValue127
  t33 := underlying102
  a33 := Tryz.isAgg102
  z33 := Tryz.sizeOf102
  v33 := Tryz.zeroValue102 }
def Tryz.sortedA_ren : Go.Shelf.Ren := ⟨fun | 6 => 54 | 8 => 84 | 9 => 85 | 11 => 103 | 13 => 105 | 12 => 104 | 23 => 128 | 24 => 129 | 14 => 119 | 15 => 120 | 16 => 121 | 17 => 122 | 18 => 123 | 19 => 124 | 20 => 125 | 21 => 126 | 22 => 127 | 25 => 137 | 26 => 138 | 27 => 139 | 28 => 140 | 29 => 141 | 30 => 116 | 31 => 146 | n => n, fun | 26 => 3 | 28 => 127 | 24 => 56 | 0 => 0 | 3 => 3 | 37 => 147 | 48 => 25 | 50 => 34 | 4 => 4 | 40 => 168 | 39 => 167 | 45 => 94 | 5 => 5 | 9 => 9 | 51 => 183 | 55 => 187 | 57 => 193 | 58 => 106 | 33 => 102 | n => n, fun | n => n⟩
theorem Tryz.sortedA : Go.Proofs.SlLaysZI.n6 prog Tryz.sortedA_ren := {
  mixed := by kernel_rfl
  f6 := ⟨Tryz.f54.name, by decide, func54.trans (congrArg some (by kernel_rfl))⟩
  f8 := ⟨Tryz.f84.name, by decide, func84.trans (congrArg some (by kernel_rfl))⟩
  f11 := ⟨Tryz.f103.name, by decide, func103.trans (congrArg some (by kernel_rfl))⟩
  t0 := underlying0
  a0 := Tryz.isAgg0
  z0 := Tryz.sizeOf0
  v0 := Tryz.zeroValue0
  t24 := underlying56
  a24 := Tryz.isAgg56
  z24 := Tryz.sizeOf56
  v24 := Tryz.zeroValue56
  t26 := underlying3
  a26 := Tryz.isAgg3
  z26 := Tryz.sizeOf3
  v26 := Tryz.zeroValue3
  t28 := underlying127
  a28 := Tryz.isAgg127
  z28 := Tryz.sizeOf127
  v28 := Tryz.zeroValue127
  i26 := by kernel_rfl }
def Tryz.sortA_ren : Go.Shelf.Ren := ⟨fun | 5 => 85 | 8 => 105 | 7 => 104 | 19 => 128 | 20 => 129 | 10 => 119 | 11 => 120 | 12 => 121 | 13 => 122 | 14 => 123 | 15 => 124 | 16 => 125 | 17 => 126 | 18 => 127 | 30 => 137 | 31 => 138 | 32 => 139 | 33 => 140 | 34 => 141 | 35 => 116 | 40 => 146 | n => n, fun | 23 => 56 | 25 => 3 | 3 => 3 | 32 => 147 | 22 => 56 | 0 => 0 | 44 => 25 | 46 => 34 | 4 => 4 | 36 => 168 | 35 => 167 | 41 => 94 | 5 => 5 | 9 => 9 | 53 => 183 | 57 => 187 | 63 => 193 | 64 => 106 | n => n, fun | n => n⟩
theorem Tryz.sortA : Go.Proofs.SlLaysM.n5 prog Tryz.sortA_ren := {
  mixed := by kernel_rfl
  f5 := ⟨Tryz.f85.name, by decide, func85.trans (congrArg some (by kernel_rfl))⟩
  f7 := ⟨Tryz.f104.name, by decide, func104.trans (congrArg some (by kernel_rfl))⟩
  f8 := func105.trans (congrArg some (by kernel_rfl))
  f10 := ⟨Tryz.f119.name, by decide, func119.trans (congrArg some (by kernel_rfl))⟩
  f11 := ⟨Tryz.f120.name, by decide, func120.trans (congrArg some (by kernel_rfl))⟩
  f12 := ⟨Tryz.f121.name, by decide, func121.trans (congrArg some (by kernel_rfl))⟩
  f13 := ⟨Tryz.f122.name, by decide, func122.trans (congrArg some (by kernel_rfl))⟩
  f14 := ⟨Tryz.f123.name, by decide, func123.trans (congrArg some (by kernel_rfl))⟩
  f15 := ⟨Tryz.f124.name, by decide, func124.trans (congrArg some (by kernel_rfl))⟩
  f16 := ⟨Tryz.f125.name, by decide, func125.trans (congrArg some (by kernel_rfl))⟩
  f17 := ⟨Tryz.f126.name, by decide, func126.trans (congrArg some (by kernel_rfl))⟩
  f18 := ⟨Tryz.f127.name, by decide, func127.trans (congrArg some (by kernel_rfl))⟩
  f19 := func128.trans (congrArg some (by kernel_rfl))
  f20 := func129.trans (congrArg some (by kernel_rfl))
  f30 := ⟨Tryz.f137.name, by decide, func137.trans (congrArg some (by kernel_rfl))⟩
  f31 := func138.trans (congrArg some (by kernel_rfl))
  f32 := func139.trans (congrArg some (by kernel_rfl))
  f33 := ⟨Tryz.f140.name, by decide, func140.trans (congrArg some (by kernel_rfl))⟩
  f34 := ⟨Tryz.f141.name, by decide, func141.trans (congrArg some (by kernel_rfl))⟩
  f35 := ⟨Tryz.f116.name, by decide, func116.trans (congrArg some (by kernel_rfl))⟩
  f40 := ⟨Tryz.f146.name, by decide, func146.trans (congrArg some (by kernel_rfl))⟩
  t0 := underlying0
  a0 := Tryz.isAgg0
  z0 := Tryz.sizeOf0
  v0 := Tryz.zeroValue0
  t3 := underlying3
  a3 := Tryz.isAgg3
  z3 := Tryz.sizeOf3
  v3 := Tryz.zeroValue3
  t4 := underlying4
  a4 := Tryz.isAgg4
  z4 := Tryz.sizeOf4
  v4 := Tryz.zeroValue4
  t5 := underlying5
  a5 := Tryz.isAgg5
  z5 := Tryz.sizeOf5
  v5 := Tryz.zeroValue5
  t9 := underlying9
  a9 := Tryz.isAgg9
  z9 := Tryz.sizeOf9
  v9 := Tryz.zeroValue9
  t22 := underlying56
  a22 := Tryz.isAgg56
  z22 := Tryz.sizeOf56
  v22 := Tryz.zeroValue56
  t23 := underlying56
  a23 := Tryz.isAgg56
  z23 := Tryz.sizeOf56
  v23 := Tryz.zeroValue56
  t25 := underlying3
  a25 := Tryz.isAgg3
  z25 := Tryz.sizeOf3
  v25 := Tryz.zeroValue3
  t32 := underlying147
  a32 := Tryz.isAgg147
  z32 := Tryz.sizeOf147
  v32 := Tryz.zeroValue147
  t35 := underlying167
  a35 := Tryz.isAgg167
  z35 := Tryz.sizeOf167
  v35 := Tryz.zeroValue167
  t36 := underlying168
  a36 := Tryz.isAgg168
  z36 := Tryz.sizeOf168
  v36 := Tryz.zeroValue168
  t41 := underlying94
  a41 := Tryz.isAgg94
  z41 := Tryz.sizeOf94
  v41 := Tryz.zeroValue94
  t44 := underlying25
  a44 := Tryz.isAgg25
  z44 := Tryz.sizeOf25
  v44 := Tryz.zeroValue25
  t46 := underlying34
  a46 := Tryz.isAgg34
  z46 := Tryz.sizeOf34
  v46 := Tryz.zeroValue34
  t53 := underlying183
  a53 := Tryz.isAgg183
  z53 := Tryz.sizeOf183
  v53 := Tryz.zeroValue183
  t57 := underlying187
  a57 := Tryz.isAgg187
  z57 := Tryz.sizeOf187
  v57 := Tryz.zeroValue187
  t63 := underlying193
  a63 := Tryz.isAgg193
  z63 := Tryz.sizeOf193
  v63 := Tryz.zeroValue193
  t64 := underlying106
  a64 := Tryz.isAgg106
  z64 := Tryz.sizeOf106
  v64 := Tryz.zeroValue106 }
end Go.Proofs
namespace Go.Proofs.YtgpaekbdbpkogaaGreat
open Tryz
open Go Go.Sx Go.Num Go.Gsp Go.Lsp Go.RowKit Go.Maps Go.Sort Go.Shelf
theorem sortsA (m : Nat) : AnyZI.SortsIn prog Tryz.sortedA_ren Fence.wide m :=
  ⟨fun blk off cap ss W hH hblk hsz => callsIn_wide.2 (AnyM.slices_Sort_int Tryz.sortA blk off cap ss W hH hblk hsz),
   fun p cap W => callsIn_wide.2 (AnyM.slices_Sort_int_none Tryz.sortA p cap W)⟩
theorem keys_ok (ga : Nat) (w : World) : Calls prog 55 #[.map (some ga)] w fun r w' => r = .returned (.func (.func 86) #[] #[.pointer (some ⟨w.heap.size, 0, none⟩)]) /\ Blk w' w.heap.size 97 #[.map (some ga)] /\ Le w w' := by
  have h := callsIn_wide.1 (AnyZI.keys_in Tryz.keysA Fence.wide 5 trivial rfl (some ga) w)
  refine Calls.mono h ?_
  rintro e w' ⟨rfl, rfl⟩
  exact ⟨rfl, Blk.new w _ _, (Below.refl _ w).alloc (Nat.le_refl _) _⟩
def inI (x : Int) : Prop := -9223372036854775808 <= x /\ x <= 9223372036854775807
theorem inI_wf {x : Int} (h : inI x) : (Lit.int .i64 x).wf = true := by
  unfold inI at h
  have h1 : IntKind.i64.min = -9223372036854775808 := by decide
  have h2 : IntKind.i64.max = 9223372036854775807 := by decide
  simp only [Lit.wf, h1, h2, decide_eq_true_eq, Bool.and_eq_true]
  omega
abbrev noR : Value -> Option (DataW Unit × List MemPlace) := fun _ => some (.nil, [])
def mapD (la : List (Nat × Int × Seat)) : DataW Unit := .map ((la.map fun x => (Lit.int .i64 x.2.1, (DataW.nil : DataW Unit))).foldr DataW.insert [])
theorem rd_key1 {x : Nat × Int × Seat} (h : inI x.2.1) : Go.WideElems.rd prog 3 noR (entG ikf seatf x) = some (Lit.int .i64 x.2.1, .nil) := by
  have hk : keyOf prog 3 (Value.int .i64 x.2.1) = some (Lit.int .i64 x.2.1) := by
    unfold keyOf
    rw [underlying3]
    simp [mapKey, underlying3, inI_wf h]
  unfold Go.WideElems.rd
  simp only [entG, ikf, hk]
  rfl
theorem mapOwn {ga ca : Nat} {la : List (Nat × Int × Seat)} {w : World} (hM : MapG w ikf seatf ga la ca) (hr : ∀ x ∈ la, inI x.2.1) (hl : la.length <= 1000000) : w.ownsMap prog 3 noR ga la.length (mapD la) := by
  refine ⟨_, _, hM.1, ⟨by simp; unfold maxLen; omega, ⟨?_, ?_, ?_⟩, ?_⟩, by simp, ?_⟩
  · intro x hx
    simp only [List.mem_map] at hx
    obtain ⟨y, hy, rfl⟩ := hx
    exact hM.2.old y hy
  · have := hM.2.borns
    simpa [List.map_map, Function.comp_def, entG] using this
  · have h := hM.2.keys
    have e : (la.map (entG ikf seatf)).map (fun x => x.key) = (la.map fun x => x.2.1).map ikf := by simp [List.map_map, Function.comp_def, entG]
    simp only
    rw [e]
    exact List.Pairwise.map _ (fun a b hab he => hab (by simpa [ikf] using he)) h
  · intro x hx
    simp only [List.mem_map] at hx
    obtain ⟨y, hy, rfl⟩ := hx
    exact ⟨_, rd_key1 (hr y hy)⟩
  · unfold mapD
    congr 2
    simp only [List.map_map]
    apply List.map_congr_left
    intro x hx
    simp only [Function.comp, Go.WideElems.rg, rd_key1 (hr x hx)]
    rfl
theorem mapD_size (la : List (Nat × Int × Seat)) : Maps.size (mapD la) = la.length := by
  unfold mapD
  rw [Maps.size_eq, (Go.WideShapes.sorted_perm _).length_eq]
  simp
theorem mapD_keys (la : List (Nat × Int × Seat)) : (intKeys (mapD la)).Perm (la.map fun x => x.2.1) := by
  unfold mapD intKeys
  refine ((Go.WideShapes.sorted_perm _).map _).trans ?_
  rw [List.map_map]
  exact List.Perm.refl _
theorem sorted_ok {ga ca gk : Nat} {la : List (Nat × Int × Seat)} (w : World) (hB : Blk w gk 97 #[.map (some ga)]) (hM : MapG w ikf seatf ga la ca) (hr : ∀ x ∈ la, inI x.2.1) (hl : la.length <= 1000000) :
    Calls prog 54 #[.func (.func 86) #[] #[.pointer (some ⟨gk, 0, none⟩)]] w fun r w' => ∃ (A : Option Addr) (c : Nat) (ns : List Int), r = .returned (.slice A la.length c) /\ ns.Perm (la.map fun x => x.2.1) /\ ns.Pairwise (· <= ·) /\ OVec w' w.heap.size 3 iv 1 A la.length c ns /\ Le w w' := by
  have hown := mapOwn hM hr hl
  have hseq : SeqGives Fence.wide 2 prog 86 #[.pointer (some ⟨gk, 0, none⟩)] encZ (fun ss => ss.Perm (intKeys (mapD la))) (Maps.size (mapD la)) w :=
    AnyZI.keys_gives (ρ := Tryz.keysA_ren) { Tryz.keysA with } Fence.wide _ trivial rfl (by omega) gk ga la.length (mapD la) _ hB.lt (by unfold World.cell?; rw [show w.heap[gk]? = _ from hB]; rfl) hown
  have cS := AnyZI.sorted_in Tryz.sortedA Fence.wide 5 trivial trivial trivial trivial rfl (by omega) (sortsA _) (enters_of func85 (by kernel_rfl) rfl) 86 #[.pointer (some ⟨gk, 0, none⟩)] trivial (enters_of func86 (by kernel_rfl) rfl) _ _ (by rw [mapD_size]; unfold maxLen; omega) (by rw [mapD_size]; omega) _ hseq
  change CallsIn _ _ prog 54 _ _ _ at cS
  refine Calls.mono (callsIn_wide.1 cS) ?_
  rintro e w' ⟨v, ss, rfl, hS, hrow, hnil, hb⟩
  have hp : ss.Perm (la.map fun x => x.2.1) := hS.trans (mapD_keys la)
  have hlen : ss.length = la.length := by rw [hp.length_eq, List.length_map]
  have hms : (ss.mergeSort (fun x y => decide (x <= y))).Perm (la.map fun x => x.2.1) := (List.mergeSort_perm _ _).trans hp
  have hpw : (ss.mergeSort (fun x y => decide (x <= y))).Pairwise (· <= ·) := by
    have := List.pairwise_mergeSort (le := fun x y : Int => decide (x <= y)) (by intro a b c; simp; omega) (by intro a b; simp; omega) ss
    exact this.imp (by intro a b h; simpa using h)
  obtain ⟨h1, h2⟩ := hrow
  rcases h2 with ⟨rfl, h0⟩ | ⟨g, cap, cur, rfl, hg, hc, hn, hm, hz, ht⟩
  · have e0 : la.length = 0 := by omega
    have hs0 : ss = [] := List.length_eq_zero_iff.1 h0
    subst hs0
    rw [e0]
    exact ⟨none, 0, [], rfl, by simpa using hms, List.Pairwise.nil, OVec.nil _ _ _ _ _ _, hb⟩
  · rw [hlen] at h1 hn ht ⊢
    exact ⟨some ⟨g, 0, none⟩, cap, _, rfl, hms, hpw, Own.ovec ⟨h1, .inr ⟨g, cur, rfl, hg, hc, hn, hm, hz, ht⟩⟩, hb⟩
end Go.Proofs.YtgpaekbdbpkogaaGreat

namespace Go.Proofs.YtgpaekbdbpkogaaGreat
open Tryz
open Go Go.Sx Go.Num Go.Gsp Go.Lsp
set_option maxRecDepth 20000
def seatAt (ls : SM) (k : Int) : Seat := (getG k ls).getD noSeat
theorem seats_next {ls : SM} {ns : List Int} {k : Nat} (h : k < ns.length) : (ns.take k).map (seatAt ls) ++ [seatAt ls (ns.getD k 0)] = (ns.take (k + 1)).map (seatAt ls) := by
  rw [List.take_add_one, getS ns 0 h, List.map_append]
  rfl
theorem lseats_ok {gp gs gh c cs ck : Nat} {A : Option Addr} {own : List Int} {ls : SM} {lh : HM} {lost : Int} (w : World) (hL : LedL w gp gs gh A c cs ck own ls lh lost) (hr : ∀ x ∈ ls, inI x.2.1) (hl : ls.length <= 1000000) : Calls prog 27 #[.pointer (some ⟨gp, 0, none⟩)] w fun r w' => ∃ (A' : Option Addr) (c' : Nat) (ns : List Int), r = .returned (.slice A' ls.length c') /\ ns.Perm (ls.map fun x => x.2.1) /\ ns.Pairwise (· <= ·) /\ OVec w' w.heap.size 60 seatV 5 A' ls.length c' (ns.map (seatAt ls)) /\ Le w w' := by
 refine enter func27 rfl rfl ?_
 have L0 := Le.refl w
 refine WC.sr (W.run 1 rfl (W.nx (WC.sr (W.run 1 rfl (W.nx (WC.seq (WC.sr (W.run 1 rfl ?_))))))))
 refine W.a (.nilCheck rfl) ?_
 refine W.a (.field0 fa100_1 rfl) ?_
 refine W.r (.loadB (v := .map (some gs)) na97 rfl (hL.hp.le L0) rfl) ?_
 refine W.cl go55 rfl rfl (keys_ok gs w) ?_
 rintro _ w2_4 ⟨rfl, bk2_4, h2_4⟩
 have L1 := L0.trans h2_4
 refine W.cl go54 rfl rfl (sorted_ok w2_4 bk2_4 (hL.hS.le L1) hr hl) ?_
 rintro _ w2_5 ⟨An2_5, cn2_5, ns2_5, rfl, hpm2_5, hpw2_5, hon2_5, h2_5⟩
 have L2 := L1.trans h2_5
 refine W.r (.len underlying56 rfl) ?_
 refine W.run 1 rfl (W.nx (WC.block ?_))
 refine WC.loop (ι := Nat × (Option Addr) × Nat) (fun ⟨k, Ab, cb⟩ => [(0, .pointer (some ⟨gp, 0, none⟩)), (3, .slice Ab k cb), (11, .slice An2_5 ls.length cn2_5), (12, .int .i64 (((ls.length : Nat) : Int))), (13, .int .i64 (((k : Nat) : Int)))]) (fun ⟨k, Ab, cb⟩ wl0 => (k <= ls.length) /\ Le w wl0 /\ w2_5.heap.size <= wl0.heap.size /\ MapG wl0 ikf seatf gs ls cs /\ MapG wl0 plf holdf gh lh ck /\ OVec wl0 w2_5.heap.size 60 seatV 5 Ab k cb ((ns2_5.take k).map (seatAt ls)) /\ OVec wl0 w2_4.heap.size 3 iv 1 An2_5 ls.length cn2_5 ns2_5) (fun ⟨k, Ab, cb⟩ => ls.length - k) (0, none, 0) ?_ ?_ ?_
 ·exact .cons rfl (.cons rfl (.cons rfl (.cons rfl (.cons rfl (.nil _)))))
 ·exact ⟨Nat.zero_le _, L2, Nat.le_refl _, (hL.hS.le L2), (hL.hH.le L2), (OVec.nil w2_5 w2_5.heap.size 60 seatV 5 none), hon2_5⟩
 rintro ⟨k, Ab, cb⟩ wl0 ⟨hk, Ll0, zl0, f0_0, f0_1, f0_2, f0_3⟩
 have lb0_7 : w2_5.heap.size <= wl0.heap.size := by omega
 have lb0_6 : w2_4.heap.size <= wl0.heap.size := by have := h2_5.size; omega
 have hnl := hon2_5.1
 refine WC.sr (W.run 1 rfl (W.nx (WC.seq ?_)))
 by_cases c0 : ((k : Nat) : Int) < ((ls.length : Nat) : Int)
 ·refine WC.condY rfl (decide_eq_true c0) ?_
  refine WC.sn (WC.seq (WC.block (WC.sr ?_)))
  refine W.a (.idxS (k) underlying56 sz3 rfl rfl (hon2_5.vec.isSome iv_row (by omega)) (rfl) (by omega)) ?_
  refine W.r (.vone (v := .int .i64 ((ns2_5.getD k 0))) na3 rfl f0_3.vec iv_row (getS ns2_5 0 (by omega)) rfl) ?_
  refine W.run 1 rfl (W.nx (WC.region (W.run 2 rfl ?_)))
  refine W.a (.nilCheck rfl) ?_
  refine W.a (.field0 fa100_1 rfl) ?_
  refine W.r (.loadB (v := .map (some gs)) na97 rfl (hL.hp.le Ll0) rfl) ?_
  refine W.run 1 rfl ?_
  rcases optG (getG (ns2_5.getD k 0) ls) with hk5_6 | ⟨vhk5_6, hk5_6⟩
  ·refine W.r (.as (.lookup1 (key := (ns2_5.getD k 0)) underlying97 kint z60 rfl rfl f0_0) (by rw [hk5_6] <;> rfl)) ?_
   refine W.ef rfl rfl rfl ?_
   refine Ef.buildSliceV (len := 1) [_] underlying88 el60 rfl (by simp [Value.cells, seatf, seatV_row.len]) rfl (by decide) (by decide) ?_
   intro g5_7 w5_7 hg5_7 b5_7 h5_7
   have L3 := Ll0.trans h5_7
   have b5_7 : Blk w5_7 g5_7 60 (([noSeat]).map seatV).flatten.toArray := b5_7
   have o5_7 : OVec w5_7 wl0.heap.size 60 seatV 5 (some ⟨g5_7, 0, none⟩) 1 1 ([noSeat]) := b5_7.ovec hg5_7 seatV_row rfl rfl (by decide)
   have f4 := (f0_2.le h5_7)
   refine W.ef rfl rfl rfl ?_
   refine Ef.vpush (a := noSeat) underlying88 el60 underlying88 seatV_row rfl f4 rfl b5_7 (by omega) (by unfold maxLen; omega) (by have := lb0_7; have := h5_7.size; omega) ?_
   intro A5_8 c5_8 w5_8 o5_8 h5_8 at5_8
   have L5 := L3.then_ h5_8 (fun q hq => Nat.le_trans L2.size (f4.row hq).1)
   refine W.run 1 rfl (W.nil (E.blkN (E.thenN (WC.region ?_))))
   refine W.a (.add rfl rfl (by omega)) ?_
   refine W.run 1 rfl (W.nil ?_)
   have f6 := ((f0_0.le h5_7).ch h5_8 (fun he => by have := (f4.row he).1; have := hL.hS.lt; have := h2_4.size; have := h2_5.size; omega))
   have f7 := ((f0_1.le h5_7).ch h5_8 (fun he => by have := (f4.row he).1; have := hL.hH.lt; have := h2_4.size; have := h2_5.size; omega))
   have f8 := ((f0_3.le h5_7).ch h5_8 ((Apart.symm (fun q h1 h2 => by have := (hon2_5.row h1).2; have := (f4.row h2).1; omega))))
   refine E.again (k + 1, A5_8, c5_8) (.cons rfl (.cons rfl (.cons rfl (.cons rfl (.cons rfl (.nil _)))))) ?_ ?_
   ·exact ⟨by omega, L5, by have := zl0; have := h5_7.size; have := h5_8.size; omega, f6, f7, (o5_8.cast rfl (by rw [<- seats_next (by omega)]; unfold seatAt; first | rfl | (rw [hk5_6]; rfl))), f8⟩
   first | omega | (simp only []; omega)
  refine W.r (.as (.lookup1 (key := (ns2_5.getD k 0)) underlying97 kint z60 rfl rfl f0_0) (by rw [hk5_6] <;> rfl)) ?_
  refine W.ef rfl rfl rfl ?_
  refine Ef.buildSliceV (len := 1) [_] underlying88 el60 rfl (by simp [Value.cells, seatf, seatV_row.len]) rfl (by decide) (by decide) ?_
  intro g5_7_1 w5_7_1 hg5_7_1 b5_7_1 h5_7_1
  have L9 := Ll0.trans h5_7_1
  have b5_7_1 : Blk w5_7_1 g5_7_1 60 (([vhk5_6]).map seatV).flatten.toArray := b5_7_1
  have o5_7_1 : OVec w5_7_1 wl0.heap.size 60 seatV 5 (some ⟨g5_7_1, 0, none⟩) 1 1 ([vhk5_6]) := b5_7_1.ovec hg5_7_1 seatV_row rfl rfl (by decide)
  have f10 := (f0_2.le h5_7_1)
  refine W.ef rfl rfl rfl ?_
  refine Ef.vpush (a := vhk5_6) underlying88 el60 underlying88 seatV_row rfl f10 rfl b5_7_1 (by omega) (by unfold maxLen; omega) (by have := lb0_7; have := h5_7_1.size; omega) ?_
  intro A5_8_1 c5_8_1 w5_8_1 o5_8_1 h5_8_1 at5_8_1
  have L11 := L9.then_ h5_8_1 (fun q hq => Nat.le_trans L2.size (f10.row hq).1)
  refine W.run 1 rfl (W.nil (E.blkN (E.thenN (WC.region ?_))))
  refine W.a (.add rfl rfl (by omega)) ?_
  refine W.run 1 rfl (W.nil ?_)
  have f12 := ((f0_0.le h5_7_1).ch h5_8_1 (fun he => by have := (f10.row he).1; have := hL.hS.lt; have := h2_4.size; have := h2_5.size; omega))
  have f13 := ((f0_1.le h5_7_1).ch h5_8_1 (fun he => by have := (f10.row he).1; have := hL.hH.lt; have := h2_4.size; have := h2_5.size; omega))
  have f14 := ((f0_3.le h5_7_1).ch h5_8_1 ((Apart.symm (fun q h1 h2 => by have := (hon2_5.row h1).2; have := (f10.row h2).1; omega))))
  refine E.again (k + 1, A5_8_1, c5_8_1) (.cons rfl (.cons rfl (.cons rfl (.cons rfl (.cons rfl (.nil _)))))) ?_ ?_
  ·exact ⟨by omega, L11, by have := zl0; have := h5_7_1.size; have := h5_8_1.size; omega, f12, f13, (o5_8_1.cast rfl (by rw [<- seats_next (by omega)]; unfold seatAt; first | rfl | (rw [hk5_6]; rfl))), f14⟩
  first | omega | (simp only []; omega)
 refine WC.condN rfl (decide_eq_false c0) ?_
 refine WC.exit (E.thenX (E.thenX (E.blkH (E.thenN (WC.sr (W.run 2 rfl (W.nx (WC.ret ?_))))))))
 refine E.retG1 rfl rfl ?_
 have hnl := hon2_5.1; have ek : k = ls.length := (by omega); have hq := (f0_2.mono L2.size); rw [List.take_of_length_le (by omega)] at hq; subst ek; exact ⟨_, _, _, rfl, hpm2_5, hpw2_5, hq, Ll0⟩
end Go.Proofs.YtgpaekbdbpkogaaGreat

namespace Go.Proofs.YtgpaekbdbpkogaaGreat
open Tryz
open Go Go.Sx Go.Num Go.Gsp Go.Lsp
set_option maxRecDepth 20000
theorem cut1_ok (n : Int) (w : World) : Calls prog 52 #[.int .i64 (n)] w fun r w' => r = .returned (.bool (!coinL n)) /\ Le w w' := by
 refine enter func52 rfl rfl ?_
 have L0 := Le.refl w
 refine WC.sr (W.run 1 rfl (W.nx (WC.sr (W.run 1 rfl ?_))))
 refine W.cl go36 rfl rfl (coin_ok n w) ?_
 rintro _ w1_1 ⟨rfl, h1_1⟩
 have L1 := L0.trans h1_1
 refine W.run 2 rfl (W.nx (WC.ret ?_))
 refine E.retG1 rfl rfl ?_
 exact ⟨rfl, L1⟩

theorem ixcoin_ok {Af : Option Addr} {nf cf : Nat} {fs : List Int} (w : World) (hf : Vec w iv 1 Af nf fs) (hn : nf <= 1000000) : Calls prog 83 #[.slice Af nf cf, .func (.func 52) #[] #[]] w fun r w' => ∃ z : Int, r = .returned (.int .i64 z) /\ ((0 <= z /\ ∃ x ∈ fs, coinL x = false) \/ (z = -1 /\ ∀ x ∈ fs, coinL x = true)) /\ Le w w' := by
 have hfn := hf.1
 refine enter func83 rfl rfl ?_
 have L0 := Le.refl w
 refine WC.sr (W.run 1 rfl (W.nx (WC.seq (WC.sr (W.run 1 rfl ?_)))))
 refine W.r (.len underlying56 rfl) ?_
 refine W.run 1 rfl (W.nx (WC.block ?_))
 refine WC.loop (ι := Nat) (fun k => [(0, .slice Af nf cf), (1, .func (.func 52) #[] #[]), (7, .int .i64 (((nf : Nat) : Int))), (8, .int .i64 (((k : Nat) : Int)))]) (fun k wl0 => (k <= nf) /\ (∀ j, j < k -> coinL (fs.getD j 0) = true) /\ Le w wl0 /\ w.heap.size <= wl0.heap.size) (fun k => nf - k) 0 ?_ ?_ ?_
 ·exact .cons rfl (.cons rfl (.cons rfl (.cons rfl (.nil _))))
 ·exact ⟨Nat.zero_le _, fun j hj => by omega, L0, Nat.le_refl _⟩
 rintro k wl0 ⟨hk, hc, Ll0, zl0⟩
 refine WC.sr (W.run 1 rfl (W.nx (WC.seq ?_)))
 by_cases c0 : ((k : Nat) : Int) < ((nf : Nat) : Int)
 ·refine WC.condY rfl (decide_eq_true c0) ?_
  refine WC.sn (WC.seq (WC.block (WC.sr (W.run 2 rfl (W.nx (WC.sr (W.run 3 rfl ?_)))))))
  refine W.a (.idxS (k) underlying56 sz3 rfl rfl (hf.isSome iv_row (by omega)) (rfl) (by omega)) ?_
  refine W.r (.vone (v := .int .i64 ((fs.getD k 0))) na3 rfl (hf.le Ll0) iv_row (getS fs 0 (by omega)) rfl) ?_
  refine W.cl go52 rfl rfl (cut1_ok (fs.getD k 0) wl0) ?_
  rintro _ w4_5 ⟨rfl, h4_5⟩
  have L1 := Ll0.trans h4_5
  refine W.nx ?_
  by_cases c1 : (coinL (fs.getD k 0)) = true
  ·refine WC.condN rfl (congrArg not (c1)) ?_
   refine WC.skip (E.blkN (E.thenN (WC.region ?_)))
   refine W.a (.add rfl rfl (by omega)) ?_
   refine W.run 1 rfl (W.nil ?_)
   refine E.again (k + 1) (.cons rfl (.cons rfl (.cons rfl (.cons rfl (.nil _))))) ?_ ?_
   ·exact ⟨by omega, fun j hj => (Nat.lt_succ_iff_lt_or_eq.1 hj).elim (hc j) (fun hh => by subst hh; exact c1), L1, by have := zl0; have := h4_5.size; omega⟩
   first | omega | (simp only []; omega)
  refine WC.condY rfl (congrArg not ((Bool.eq_false_iff.2 c1))) ?_
  refine WC.sr (W.run 2 rfl (W.nx (WC.ret (E.blkR (E.thenR (E.thenR (E.blkR (E.thenR ?_))))))))
  refine E.retG1 rfl rfl ?_
  exact ⟨_, rfl, .inl ⟨by omega, fs.getD k 0, List.mem_of_getElem? (getS fs 0 (by omega)), Bool.eq_false_iff.2 c1⟩, L1⟩
 refine WC.condN rfl (decide_eq_false c0) ?_
 refine WC.exit (E.thenX (E.thenX (E.blkH (E.thenN (WC.sr (W.run 1 rfl (W.nx (WC.ret ?_))))))))
 refine E.retG1 rfl rfl ?_
 exact ⟨_, rfl, .inr ⟨rfl, fun x hx => by obtain ⟨j, hj, rfl⟩ := List.getElem_of_mem hx; have := hc j (by omega); rwa [List.getD_eq_getElem?_getD, List.getElem?_eq_getElem hj] at this⟩, Ll0⟩

theorem hascoin_ok {Af : Option Addr} {nf cf : Nat} {fs : List Int} (w : World) (hf : Vec w iv 1 Af nf fs) (hn : nf <= 1000000) : Calls prog 51 #[.slice Af nf cf, .func (.func 52) #[] #[]] w fun r w' => ∃ b : Bool, r = .returned (.bool b) /\ (b = true ↔ ∃ x ∈ fs, coinL x = false) /\ Le w w' := by
 refine enter func51 rfl rfl ?_
 have L0 := Le.refl w
 refine WC.sr (W.run 1 rfl (W.nx (WC.sr (W.run 2 rfl ?_))))
 refine W.cl go83 rfl rfl (ixcoin_ok w (hf.le L0) (by omega)) ?_
 rintro _ w1_2 ⟨z1_2, rfl, hz1_2, h1_2⟩
 have L1 := L0.trans h1_2
 refine W.run 2 rfl (W.nx (WC.ret ?_))
 refine E.retG1 rfl rfl ?_
 refine ⟨_, rfl, ?_, L1⟩; rw [decide_eq_true_eq]; rcases hz1_2 with ⟨q1, q2⟩ | ⟨q1, q2⟩; exact ⟨fun _ => q2, fun _ => q1⟩; exact ⟨fun h => by omega, fun ⟨x, hx, hh⟩ => by rw [q2 x hx] at hh; cases hh⟩

theorem eqints_ok {Aa Ab : Option Addr} {na ca nb cb : Nat} {a b : List Int} (w : World) (ha : Vec w iv 1 Aa na a) (hb : Vec w iv 1 Ab nb b) (hn : na <= 1000000) : Calls prog 53 #[.slice Aa na ca, .slice Ab nb cb] w fun r w' => r = .returned (.bool (decide (a = b))) /\ Le w w' := by
 have han := ha.1
 have hbn := hb.1
 refine enter func53 rfl rfl ?_
 have L0 := Le.refl w
 refine WC.sr (W.run 1 rfl (W.nx (WC.seq (WC.sr (W.run 1 rfl ?_)))))
 refine W.r (.len underlying56 rfl) ?_
 refine W.run 1 rfl ?_
 refine W.r (.len underlying56 rfl) ?_
 refine W.run 1 rfl (W.nx ?_)
 by_cases c0 : ((na : Nat) : Int) ≠ ((nb : Nat) : Int)
 ·refine WC.condY rfl (decide_eq_true c0) ?_
  refine WC.sr (W.run 1 rfl (W.nx (WC.ret (E.thenR ?_))))
  refine E.retG1 rfl rfl ?_
  exact ⟨by rw [dF (fun e => c0 (by rw [<- han, <- hbn, e]))], L0⟩
 refine WC.condN rfl (decide_eq_false c0) ?_
 refine WC.sn (WC.seq (WC.sr (W.run 1 rfl ?_)))
 refine W.r (.len underlying56 rfl) ?_
 refine W.run 1 rfl (W.nx (WC.block ?_))
 refine WC.loop (ι := Nat) (fun k => [(0, .slice Aa na ca), (1, .slice Ab nb cb), (12, .int .i64 (((na : Nat) : Int))), (13, .int .i64 (((k : Nat) : Int)))]) (fun k wl0 => (k <= na) /\ (∀ j, j < k -> a.getD j 0 = b.getD j 0) /\ Le w wl0 /\ w.heap.size <= wl0.heap.size) (fun k => na - k) 0 ?_ ?_ ?_
 ·exact .cons rfl (.cons rfl (.cons rfl (.cons rfl (.nil _))))
 ·exact ⟨Nat.zero_le _, fun j hj => by omega, L0, Nat.le_refl _⟩
 rintro k wl0 ⟨hk, hs, Ll0, zl0⟩
 refine WC.sr (W.run 1 rfl (W.nx (WC.seq ?_)))
 by_cases c1 : ((k : Nat) : Int) < ((na : Nat) : Int)
 ·refine WC.condY rfl (decide_eq_true c1) ?_
  refine WC.sn (WC.seq (WC.block (WC.sr (W.run 2 rfl (W.nx (WC.seq ?_))))))
  refine WC.draw [0, 1, 2, 3, 4, 5, 6, 7, 8] mixed (by kernel_rfl) ?_
  intro w6 d6
  have L1 := Ll0.trans d6
  refine G.run 2 rfl ?_
  refine G.a rfl (.idxS (k) underlying56 sz3 rfl rfl (ha.isSome iv_row (by omega)) (rfl) (by omega)) ?_
  refine G.r rfl (.vone (v := .int .i64 ((a.getD k 0))) na3 rfl (ha.le L1) iv_row (getS a 0 (by omega)) rfl) ?_
  refine G.run 2 rfl ?_
  refine G.a rfl (.idxS (k) underlying56 sz3 rfl rfl (hb.isSome iv_row (by omega)) (rfl) (by omega)) ?_
  refine G.r rfl (.vone (v := .int .i64 ((b.getD k 0))) na3 rfl (hb.le L1) iv_row (getS b 0 (by omega)) rfl) ?_
  refine G.run 1 rfl (G.nil (E.thenN ?_))
  by_cases c2 : (a.getD k 0) ≠ (b.getD k 0)
  ·refine WC.condY rfl (decide_eq_true c2) ?_
   refine WC.sr (W.run 1 rfl (W.nx (WC.ret (E.blkR (E.thenR (E.thenR (E.blkR (E.thenR ?_))))))))
   refine E.retG1 rfl rfl ?_
   exact ⟨by rw [dF (fun e => c2 (by rw [e]))], L1⟩
  refine WC.condN rfl (decide_eq_false c2) ?_
  refine WC.skip (E.blkN (E.thenN (WC.region ?_)))
  refine W.a (.add rfl rfl (by omega)) ?_
  refine W.run 1 rfl (W.nil ?_)
  refine E.again (k + 1) (.cons rfl (.cons rfl (.cons rfl (.cons rfl (.nil _))))) ?_ ?_
  ·exact ⟨by omega, fun j hj => (Nat.lt_succ_iff_lt_or_eq.1 hj).elim (hs j) (fun hh => by subst hh; exact Classical.not_not.1 c2), L1, by have := zl0; have := d6.size; omega⟩
  first | omega | (simp only []; omega)
 refine WC.condN rfl (decide_eq_false c1) ?_
 refine WC.exit (E.thenX (E.thenX (E.blkH (E.thenN (WC.sr (W.run 1 rfl (W.nx (WC.ret ?_))))))))
 refine E.retG1 rfl rfl ?_
 exact ⟨by rw [dT (ext_getD (z := (0 : Int)) (by omega) (fun j hj => hs j (by omega)))], Ll0⟩
end Go.Proofs.YtgpaekbdbpkogaaGreat

namespace Go.Proofs.YtgpaekbdbpkogaaGreat
open Tryz
open Go Go.Sx Go.Num Go.Gsp Go.Lsp
set_option maxRecDepth 20000
theorem lcut_ok {gp gs gh c cs ck : Nat} {A : Option Addr} {own : List Int} {ls : SM} {lh : HM} {lost : Int} {Ao As Af : Option Addr} {no co ns cS nf cf : Nat} {old fee : List Int} {seats : List Seat} (w : World) (hL : LedL w gp gs gh A c cs ck own ls lh lost) (ho : Vec w iv 1 Ao no old) (hs : Vec w seatV 5 As ns seats) (hf : Vec w iv 1 Af nf fee) (hno : no <= 1000) (hns : ns <= 1000) (hnf : nf <= 1000) (hoa : ∀ q, blkOf Ao = some q -> 0 < no -> q < w.heap.size -> ¬ LF gp gs gh A c q) (hsa : ∀ q, blkOf As = some q -> 0 < ns -> q < w.heap.size -> ¬ LF gp gs gh A c q) (hfa : ∀ q, blkOf Af = some q -> 0 < nf -> q < w.heap.size -> ¬ LF gp gs gh A c q) (hb : ∀ x ∈ lh, 0 <= x.2.2.am) (hq : ∀ ch side, heldL lh ch side <= 1125899906842624) (hseat : ∀ x ∈ ls, seatOk own.length x.2.2) (hl : 0 <= lost /\ lost <= 1125899906842624) : Calls prog 25 #[.pointer (some ⟨gp, 0, none⟩), .slice Ao no co, .slice As ns cS, .slice Af nf cf] w fun r w' => ChP w w' (LF gp gs gh A c) /\ r = .returned (.int .i64 (cutC own.length ls lh old seats fee)) /\ ((cutC own.length ls lh old seats fee ≠ 0 /\ LedL w' gp gs gh A c cs ck own ls lh lost) \/ (cutC own.length ls lh old seats fee = 0 /\ LedL w' gp gs gh A c (cutLs ls cs old seats).2 ck own (cutLs ls cs old seats).1 lh (lost + fee.sum))) := by
 have hp0 := hL.hp
 have hO0 := hL.hO
 have hS0 := hL.hS
 have hH0 := hL.hH
 have n1 := hL.ps
 have n2 := hL.ph
 have n3 := hL.sh
 have n4 := hL.op
 have n5 := hL.os
 have n6 := hL.oh
 have hon := ho.1
 have hsn := hs.1
 have hfn := hf.1
 refine enter func25 rfl rfl ?_
 have L0 := ChP.refl w (LF gp gs gh A c)
 refine WC.sr (W.run 1 rfl (W.nx (WC.sr (W.ef rfl rfl rfl ?_))))
 refine Ef.makeMapG ikf Value.bool ?_
 intro g1_0 w1_0 hg1_0 b1_0 h1_0
 have L1 := L0.le h1_0
 refine W.ef rfl rfl rfl ?_
 refine Ef.makeMapG ikf Value.bool ?_
 intro g1_1 w1_1 hg1_1 b1_1 h1_1
 have L2 := L1.le h1_1
 refine W.run 2 rfl (W.nx (WC.seq (WC.sr (W.run 1 rfl ?_))))
 refine W.r (.len underlying56 rfl) ?_
 refine W.run 1 rfl (W.nx (WC.block ?_))
 have f3 := (b1_0.le h1_1)
 have f4 := (hp0.le (h1_0.trans h1_1))
 have f5 := (hO0.le (h1_0.trans h1_1))
 have f6 := (hS0.le (h1_0.trans h1_1))
 have f7 := (hH0.le (h1_0.trans h1_1))
 refine WC.loop (ι := Nat × BM × Nat) (fun ⟨k, lg, cg⟩ => [(0, .pointer (some ⟨gp, 0, none⟩)), (1, .slice Ao no co), (2, .slice As ns cS), (3, .slice Af nf cf), (9, .map (some g1_0)), (10, .map (some g1_1)), (38, .slice Ao no co), (39, .int .i64 (((no : Nat) : Int))), (40, .int .i64 (((k : Nat) : Int)))]) (fun ⟨k, lg, cg⟩ wl0 => (k <= no) /\ (Marks lg (old.take k)) /\ ChP w wl0 (LF gp gs gh A c) /\ w1_1.heap.size <= wl0.heap.size /\ Blk wl0 gp 100 #[.slice A own.length c, .map (some gs), .map (some gh), .int .i64 (lost)] /\ OVec wl0 0 3 iv 1 A own.length c own /\ MapG wl0 ikf seatf gs ls cs /\ MapG wl0 plf holdf gh lh ck /\ MapG wl0 ikf Value.bool g1_0 lg cg /\ MapG wl0 ikf Value.bool g1_1 ([]) 0) (fun ⟨k, lg, cg⟩ => no - k) (0, [], 0) ?_ ?_ ?_
 ·exact .cons rfl (.cons rfl (.cons rfl (.cons rfl (.cons rfl (.cons rfl (.cons rfl (.cons rfl (.cons rfl (.nil _)))))))))
 ·exact ⟨Nat.zero_le _, Marks.nil, L2, Nat.le_refl _, f4, f5, f6, f7, f3, b1_1⟩
 rintro ⟨k, lg, cg⟩ wl0 ⟨hk, hmk, Ll0, zl0, f0_0, f0_1, f0_2, f0_3, f0_4, f0_5⟩
 refine WC.sr (W.run 1 rfl (W.nx (WC.seq ?_)))
 by_cases c0 : ((k : Nat) : Int) < ((no : Nat) : Int)
 ·refine WC.condY rfl (decide_eq_true c0) ?_
  refine WC.sn (WC.seq (WC.block (WC.sr ?_)))
  refine W.a (.idxS (k) underlying56 sz3 rfl rfl (ho.isSome iv_row (by omega)) (rfl) (by omega)) ?_
  refine W.r (.vone (v := .int .i64 ((old.getD k 0))) na3 rfl (ho.chP Ll0 hoa) iv_row (getS old 0 (by omega)) rfl) ?_
  refine W.run 1 rfl (W.nx (WC.region (W.run 2 rfl ?_)))
  rcases optG (getG (old.getD k 0) lg) with hk5_2 | ⟨vhk5_2, hk5_2⟩
  ·refine W.ef0 rfl rfl ?_
   refine Ef.insertG (key := (old.getD k 0)) (u := true) underlying122 kint rfl rfl rfl f0_4 (hk5_2) ?_
   intro w5_2 b5_2 h5_2
   have L8 : ChP w w5_2 (LF gp gs gh A c) := Ll0.ch h5_2 (fun i hi hlt => by cases hi; exact absurd hlt (by have := L0.size; have := hg1_0; omega))
   refine W.nil (E.blkN (E.thenN (WC.region ?_)))
   refine W.a (.add rfl rfl (by omega)) ?_
   refine W.run 1 rfl (W.nil ?_)
   have f9 := (f0_0.ch h5_2 (fun h => (show g1_0 ≠ gp from by have := hp0.lt; omega) (oI h)))
   have f10 := (f0_1.ch h5_2 (fun q hq => by cases hq; exact (fun he => by have := (hO0.row he).2; omega)))
   have f11 := (f0_2.ch h5_2 (fun h => (show g1_0 ≠ gs from by have := hS0.lt; omega) (oI h)))
   have f12 := (f0_3.ch h5_2 (fun h => (show g1_0 ≠ gh from by have := hH0.lt; omega) (oI h)))
   have f13 := (f0_5.ch h5_2 (fun h => (show g1_0 ≠ g1_1 from by have := b1_0.lt; omega) (oI h)))
   refine E.again (k + 1, (lg ++ [(cg, (old.getD k 0), true)]), (cg + 1)) (.cons rfl (.cons rfl (.cons rfl (.cons rfl (.cons rfl (.cons rfl (.cons rfl (.cons rfl (.cons rfl (.nil _)))))))))) ?_ ?_
   ·exact ⟨by omega, by rw [take_next (z := 0) (by omega)]; exact hmk.new hk5_2, L8, by have := zl0; have := h5_2.size; omega, f9, f10, f11, f12, b5_2, f13⟩
   first | omega | (simp only []; omega)
  refine W.ef0 rfl rfl ?_
  refine Ef.updateG (key := (old.getD k 0)) (u := true) underlying122 kint rfl rfl rfl f0_4 stay_i (hk5_2) ?_
  intro w5_2_1 b5_2_1 h5_2_1
  have L14 : ChP w w5_2_1 (LF gp gs gh A c) := Ll0.ch h5_2_1 (fun i hi hlt => by cases hi; exact absurd hlt (by have := L0.size; have := hg1_0; omega))
  refine W.nil (E.blkN (E.thenN (WC.region ?_)))
  refine W.a (.add rfl rfl (by omega)) ?_
  refine W.run 1 rfl (W.nil ?_)
  have f15 := (f0_0.ch h5_2_1 (fun h => (show g1_0 ≠ gp from by have := hp0.lt; omega) (oI h)))
  have f16 := (f0_1.ch h5_2_1 (fun q hq => by cases hq; exact (fun he => by have := (hO0.row he).2; omega)))
  have f17 := (f0_2.ch h5_2_1 (fun h => (show g1_0 ≠ gs from by have := hS0.lt; omega) (oI h)))
  have f18 := (f0_3.ch h5_2_1 (fun h => (show g1_0 ≠ gh from by have := hH0.lt; omega) (oI h)))
  have f19 := (f0_5.ch h5_2_1 (fun h => (show g1_0 ≠ g1_1 from by have := b1_0.lt; omega) (oI h)))
  refine E.again (k + 1, (lg.map fun y => if y.2.1 = (old.getD k 0) then (y.1, (old.getD k 0), true) else y), cg) (.cons rfl (.cons rfl (.cons rfl (.cons rfl (.cons rfl (.cons rfl (.cons rfl (.cons rfl (.cons rfl (.nil _)))))))))) ?_ ?_
  ·exact ⟨by omega, by rw [take_next (z := 0) (by omega)]; exact hmk.old hk5_2, L14, by have := zl0; have := h5_2_1.size; omega, f15, f16, f17, f18, b5_2_1, f19⟩
  first | omega | (simp only []; omega)
 refine WC.condN rfl (decide_eq_false c0) ?_
 have hmo : Marks lg old := (by rw [List.take_of_length_le (by omega)] at hmk; exact hmk)
 have hnd := hmo.2.2
 refine WC.exit (E.thenX (E.thenX (E.blkH (E.thenN ?_))))
 refine WC.cut (ι := Bool) (fun bad => [(0, .pointer (some ⟨gp, 0, none⟩)), (1, .slice Ao no co), (2, .slice As ns cS), (3, .slice Af nf cf), (9, .map (some g1_0)), (10, .map (some g1_1)), (13, .bool (bad))]) (fun bad wc8 => (bad = true ↔ ¬ (old.Nodup /\ seats.length <= 40 /\ fee.length = own.length)) /\ ChP w wc8 (LF gp gs gh A c) /\ wl0.heap.size <= wc8.heap.size /\ Blk wc8 gp 100 #[.slice A own.length c, .map (some gs), .map (some gh), .int .i64 (lost)] /\ OVec wc8 0 3 iv 1 A own.length c own /\ MapG wc8 ikf seatf gs ls cs /\ MapG wc8 plf holdf gh lh ck /\ MapG wc8 ikf Value.bool g1_0 lg cg /\ MapG wc8 ikf Value.bool g1_1 ([]) 0) ?_ ?_
 ·refine WC.region (W.run 1 rfl ?_)
  refine W.r (.lenMap underlying122 rfl f0_4) ?_
  refine W.run 1 rfl ?_
  refine W.r (.len underlying56 rfl) ?_
  refine W.run 1 rfl ?_
  by_cases q7_5 : ((lg.length : Nat) : Int) ≠ ((no : Nat) : Int)
  ·refine W.dt q7_5 rfl rfl (W.run 15 rfl (W.nil ?_))
   refine E.meet true (.cons rfl (.cons rfl (.cons rfl (.cons rfl (.cons rfl (.cons rfl (.cons rfl (.nil _)))))))) ?_
   exact ⟨⟨fun _ => by rw [<- hnd]; omega, fun _ => rfl⟩, Ll0, Nat.le_refl _, f0_0, f0_1, f0_2, f0_3, f0_4, f0_5⟩
  refine W.df q7_5 rfl rfl (W.run 1 rfl ?_)
  refine W.g (.len underlying88 rfl) ?_
  refine W.run 2 rfl ?_
  by_cases q7_10 : 40 < ((ns : Nat) : Int)
  ·refine W.dt q7_10 rfl rfl (W.run 10 rfl (W.nil ?_))
   refine E.meet true (.cons rfl (.cons rfl (.cons rfl (.cons rfl (.cons rfl (.cons rfl (.cons rfl (.nil _)))))))) ?_
   exact ⟨⟨fun _ => by rw [<- hnd]; omega, fun _ => rfl⟩, Ll0, Nat.le_refl _, f0_0, f0_1, f0_2, f0_3, f0_4, f0_5⟩
  refine W.df q7_10 rfl rfl (W.run 1 rfl ?_)
  refine W.g (.len underlying56 rfl) ?_
  refine W.run 1 rfl ?_
  refine W.g (Any.rd (.nilCheck rfl) _) ?_
  refine W.g (Any.rd (.field0 fa100_0 rfl) _) ?_
  refine W.g (.loadB (v := .slice A own.length c) na56 rfl f0_0 rfl) ?_
  refine W.g (.len underlying56 rfl) ?_
  refine W.run 3 rfl (W.nil ?_)
  refine E.meet (decide (((nf : Nat) : Int) ≠ ((own.length : Nat) : Int))) (.cons rfl (.cons rfl (.cons rfl (.cons rfl (.cons rfl (.cons rfl (.cons rfl (.nil _)))))))) ?_
  exact ⟨by rw [decide_eq_true_eq, <- hnd]; omega, Ll0, Nat.le_refl _, f0_0, f0_1, f0_2, f0_3, f0_4, f0_5⟩
 rintro bad wc8 ⟨hbad, Lc2, sc2, m2_0, m2_1, m2_2, m2_3, m2_4, m2_5⟩
 refine WC.seq (WC.sr (W.run 1 rfl ?_))
 refine W.r (.len underlying88 rfl) ?_
 refine W.run 1 rfl (W.nx (WC.block ?_))
 refine WC.loop (ι := Nat × Bool × BM × Nat) (fun ⟨k1, bd, lc, cc⟩ => [(0, .pointer (some ⟨gp, 0, none⟩)), (1, .slice Ao no co), (2, .slice As ns cS), (3, .slice Af nf cf), (9, .map (some g1_0)), (10, .map (some g1_1)), (13, .bool (bd)), (67, .slice As ns cS), (68, .int .i64 (((ns : Nat) : Int))), (69, .int .i64 (((k1 : Nat) : Int)))]) (fun ⟨k1, bd, lc, cc⟩ wl1 => (k1 <= ns) /\ (bd = true ↔ ¬ ((old.Nodup /\ seats.length <= 40 /\ fee.length = own.length) /\ SeatsOk own.length (seats.take k1))) /\ (Marks lc (chans (seats.take k1))) /\ ChP w wl1 (LF gp gs gh A c) /\ wc8.heap.size <= wl1.heap.size /\ Blk wl1 gp 100 #[.slice A own.length c, .map (some gs), .map (some gh), .int .i64 (lost)] /\ OVec wl1 0 3 iv 1 A own.length c own /\ MapG wl1 ikf seatf gs ls cs /\ MapG wl1 plf holdf gh lh ck /\ MapG wl1 ikf Value.bool g1_0 lg cg /\ MapG wl1 ikf Value.bool g1_1 lc cc) (fun ⟨k1, bd, lc, cc⟩ => ns - k1) (0, bad, [], 0) ?_ ?_ ?_
 ·exact .cons rfl (.cons rfl (.cons rfl (.cons rfl (.cons rfl (.cons rfl (.cons rfl (.cons rfl (.cons rfl (.cons rfl (.nil _))))))))))
 ·exact ⟨Nat.zero_le _, by rw [hbad]; simp [SeatsOk, chans], Marks.nil, Lc2, Nat.le_refl _, m2_0, m2_1, m2_2, m2_3, m2_4, m2_5⟩
 rintro ⟨k1, bd, lc, cc⟩ wl1 ⟨hk1, hbd, hmc, Ll1, zl1, f1_0, f1_1, f1_2, f1_3, f1_4, f1_5⟩
 refine WC.sr (W.run 1 rfl (W.nx (WC.seq ?_)))
 by_cases c1 : ((k1 : Nat) : Int) < ((ns : Nat) : Int)
 ·refine WC.condY rfl (decide_eq_true c1) ?_
  refine WC.sn (WC.seq (WC.block (WC.sr ?_)))
  refine W.a (.idxS (k1) underlying88 sz60 rfl rfl (hs.isSome seatV_row (by omega)) (rfl) (by omega)) ?_
  refine W.r (.vload ag60 rfl (hs.chP Ll1 hsa) seatV_row (getS seats noSeat (by omega))) ?_
  refine W.ef rfl rfl rfl ?_
  refine Ef.allocA z60 ?_
  intro g10_2 w10_2 hg10_2 b10_2 h10_2
  have L20 := Ll1.le h10_2
  have b10_2 : Blk w10_2 g10_2 60 (seatV noSeat).toArray := b10_2
  refine W.ef0 rfl rfl ?_
  refine Ef.storeAll sz60 (by rfl) rfl rfl b10_2 (by simp only [List.size_toArray, seatV_row.len]) (seatV_row.one (seats.getD k1 noSeat)) ?_
  intro w10_3 b10_3 h10_3
  have b10_3 : Blk w10_3 g10_2 60 (seatV (seats.getD k1 noSeat)).toArray := b10_3
  have L21 : ChP w w10_3 (LF gp gs gh A c) := L20.ch h10_3 (fun i hi hlt => by cases hi; exact absurd hlt (by have := Ll1.size; have := hg10_2; omega))
  refine W.nx (WC.sr (W.run 1 rfl ?_))
  by_cases q11_1 : bd = true
  ·refine W.a (.dec (.move rfl) (q11_1)) ?_
   refine W.run 12 rfl (W.nx (WC.region (W.run 1 rfl ?_)))
   refine W.a (.field0 fa60_0 rfl) ?_
   refine W.r (.loadB (v := .int .i64 ((seats.getD k1 noSeat).ch)) na3 rfl b10_3 rfl) ?_
   rcases optG (getG ((seats.getD k1 noSeat).ch) lc) with hk12_3 | ⟨vhk12_3, hk12_3⟩
   ·have f22 := ((f1_5.le h10_2).ch h10_3 (fun h => (show g10_2 ≠ g1_1 from by have := f1_5.lt; omega) (oI h)))
    refine W.ef0 rfl rfl ?_
    refine Ef.insertG (key := ((seats.getD k1 noSeat).ch)) (u := true) underlying122 kint rfl rfl rfl f22 (hk12_3) ?_
    intro w12_3 b12_3 h12_3
    have L23 : ChP w w12_3 (LF gp gs gh A c) := L21.ch h12_3 (fun i hi hlt => by cases hi; exact absurd hlt (by have := L1.size; have := hg1_1; omega))
    refine W.nil (E.blkN (E.thenN (WC.region ?_)))
    refine W.a (.add rfl rfl (by omega)) ?_
    refine W.run 1 rfl (W.nil ?_)
    have f24 := (((f1_0.le h10_2).ch h10_3 (fun h => (show g10_2 ≠ gp from by have := f1_0.lt; omega) (oI h))).ch h12_3 (fun h => (show g1_1 ≠ gp from by have := hp0.lt; have := h1_0.size; omega) (oI h)))
    have f25 := (((f1_1.le h10_2).ch h10_3 (fun q hq => by cases hq; exact (fun he => by have := (f1_1.row he).2; omega))).ch h12_3 (fun q hq => by cases hq; exact (fun he => by have := (hO0.row he).2; have := h1_0.size; omega)))
    have f26 := (((f1_2.le h10_2).ch h10_3 (fun h => (show g10_2 ≠ gs from by have := f1_2.lt; omega) (oI h))).ch h12_3 (fun h => (show g1_1 ≠ gs from by have := hS0.lt; have := h1_0.size; omega) (oI h)))
    have f27 := (((f1_3.le h10_2).ch h10_3 (fun h => (show g10_2 ≠ gh from by have := f1_3.lt; omega) (oI h))).ch h12_3 (fun h => (show g1_1 ≠ gh from by have := hH0.lt; have := h1_0.size; omega) (oI h)))
    have f28 := (((f1_4.le h10_2).ch h10_3 (fun h => (show g10_2 ≠ g1_0 from by have := f1_4.lt; omega) (oI h))).ch h12_3 (fun h => (show g1_1 ≠ g1_0 from by have := b1_0.lt; omega) (oI h)))
    refine E.again (k1 + 1, true, (lc ++ [(cc, ((seats.getD k1 noSeat).ch), true)]), (cc + 1)) (.cons rfl (.cons rfl (.cons rfl (.cons rfl (.cons rfl (.cons rfl (.cons rfl (.cons rfl (.cons rfl (.cons rfl (.nil _))))))))))) ?_ ?_
    ·exact ⟨by omega, bad_keep (by omega) hbd q11_1, by rw [chans_next (by omega)]; exact hmc.new hk12_3, L23, by have := zl1; have := h10_2.size; have := h10_3.size; have := h12_3.size; omega, f24, f25, f26, f27, f28, b12_3⟩
    first | omega | (simp only []; omega)
   have f29 := ((f1_5.le h10_2).ch h10_3 (fun h => (show g10_2 ≠ g1_1 from by have := f1_5.lt; omega) (oI h)))
   refine W.ef0 rfl rfl ?_
   refine Ef.updateG (key := ((seats.getD k1 noSeat).ch)) (u := true) underlying122 kint rfl rfl rfl f29 stay_i (hk12_3) ?_
   intro w12_3_1 b12_3_1 h12_3_1
   have L30 : ChP w w12_3_1 (LF gp gs gh A c) := L21.ch h12_3_1 (fun i hi hlt => by cases hi; exact absurd hlt (by have := L1.size; have := hg1_1; omega))
   refine W.nil (E.blkN (E.thenN (WC.region ?_)))
   refine W.a (.add rfl rfl (by omega)) ?_
   refine W.run 1 rfl (W.nil ?_)
   have f31 := (((f1_0.le h10_2).ch h10_3 (fun h => (show g10_2 ≠ gp from by have := f1_0.lt; omega) (oI h))).ch h12_3_1 (fun h => (show g1_1 ≠ gp from by have := hp0.lt; have := h1_0.size; omega) (oI h)))
   have f32 := (((f1_1.le h10_2).ch h10_3 (fun q hq => by cases hq; exact (fun he => by have := (f1_1.row he).2; omega))).ch h12_3_1 (fun q hq => by cases hq; exact (fun he => by have := (hO0.row he).2; have := h1_0.size; omega)))
   have f33 := (((f1_2.le h10_2).ch h10_3 (fun h => (show g10_2 ≠ gs from by have := f1_2.lt; omega) (oI h))).ch h12_3_1 (fun h => (show g1_1 ≠ gs from by have := hS0.lt; have := h1_0.size; omega) (oI h)))
   have f34 := (((f1_3.le h10_2).ch h10_3 (fun h => (show g10_2 ≠ gh from by have := f1_3.lt; omega) (oI h))).ch h12_3_1 (fun h => (show g1_1 ≠ gh from by have := hH0.lt; have := h1_0.size; omega) (oI h)))
   have f35 := (((f1_4.le h10_2).ch h10_3 (fun h => (show g10_2 ≠ g1_0 from by have := f1_4.lt; omega) (oI h))).ch h12_3_1 (fun h => (show g1_1 ≠ g1_0 from by have := b1_0.lt; omega) (oI h)))
   refine E.again (k1 + 1, true, (lc.map fun y => if y.2.1 = ((seats.getD k1 noSeat).ch) then (y.1, ((seats.getD k1 noSeat).ch), true) else y), cc) (.cons rfl (.cons rfl (.cons rfl (.cons rfl (.cons rfl (.cons rfl (.cons rfl (.cons rfl (.cons rfl (.cons rfl (.nil _))))))))))) ?_ ?_
   ·exact ⟨by omega, bad_keep (by omega) hbd q11_1, by rw [chans_next (by omega)]; exact hmc.old hk12_3, L30, by have := zl1; have := h10_2.size; have := h10_3.size; have := h12_3_1.size; omega, f31, f32, f33, f34, f35, b12_3_1⟩
   first | omega | (simp only []; omega)
  refine W.a (.dec (.move rfl) ((Bool.eq_false_iff.2 q11_1))) ?_
  refine W.run 1 rfl ?_
  refine W.g (Any.rd (.field0 fa60_0 rfl) _) ?_
  refine W.g (.loadB (v := .int .i64 ((seats.getD k1 noSeat).ch)) na3 rfl b10_3 rfl) ?_
  rcases optG (getG ((seats.getD k1 noSeat).ch) lc) with hk11_5 | ⟨vhk11_5, hk11_5⟩
  ·have f36 := ((f1_5.le h10_2).ch h10_3 (fun h => (show g10_2 ≠ g1_1 from by have := f1_5.lt; omega) (oI h)))
   refine W.g (.as (.lookup1 (key := ((seats.getD k1 noSeat).ch)) underlying122 kint z4 rfl rfl f36) (by rw [hk11_5] <;> rfl)) ?_
   refine W.run 3 rfl ?_
   refine W.g (.loadAll ag60 (by rfl) rfl b10_3) ?_
   have f37 := ((f1_0.le h10_2).ch h10_3 (fun h => (show g10_2 ≠ gp from by have := f1_0.lt; omega) (oI h)))
   have f38 := ((f1_1.le h10_2).ch h10_3 (fun q hq => by cases hq; exact (fun he => by have := (f1_1.row he).2; omega)))
   have f39 := ((f1_2.le h10_2).ch h10_3 (fun h => (show g10_2 ≠ gs from by have := f1_2.lt; omega) (oI h)))
   have f40 := ((f1_3.le h10_2).ch h10_3 (fun h => (show g10_2 ≠ gh from by have := f1_3.lt; omega) (oI h)))
   refine W.efg rfl rfl rfl (rfl) rfl rfl ?_
   refine Ef.call go35 rfl rfl (lmay_ok (seats.getD k1 noSeat) w10_3 (LedL.mk f37 f38 f39 f40 n1 n2 n3 n4 n5 n6)) ?_
   rintro _ w11_10 ⟨bm11_10, rfl, hbm11_10, h11_10⟩
   refine ⟨_, rfl, ?_⟩
   have L41 := L21.le h11_10
   refine W.run 3 rfl (W.nx (WC.region (W.run 1 rfl ?_)))
   refine W.a (.field0 fa60_0 rfl) ?_
   have f42 := (b10_3.le h11_10)
   refine W.r (.loadB (v := .int .i64 ((seats.getD k1 noSeat).ch)) na3 rfl f42 rfl) ?_
   have f43 := (f36.le h11_10)
   refine W.ef0 rfl rfl ?_
   refine Ef.insertG (key := ((seats.getD k1 noSeat).ch)) (u := true) underlying122 kint rfl rfl rfl f43 (hk11_5) ?_
   intro w12_3_2 b12_3_2 h12_3_2
   have L44 : ChP w w12_3_2 (LF gp gs gh A c) := L41.ch h12_3_2 (fun i hi hlt => by cases hi; exact absurd hlt (by have := L1.size; have := hg1_1; omega))
   refine W.nil (E.blkN (E.thenN (WC.region ?_)))
   refine W.a (.add rfl rfl (by omega)) ?_
   refine W.run 1 rfl (W.nil ?_)
   have f45 := ((f37.le h11_10).ch h12_3_2 (fun h => (show g1_1 ≠ gp from by have := hp0.lt; have := h1_0.size; omega) (oI h)))
   have f46 := ((f38.le h11_10).ch h12_3_2 (fun q hq => by cases hq; exact (fun he => by have := (hO0.row he).2; have := h1_0.size; omega)))
   have f47 := ((f39.le h11_10).ch h12_3_2 (fun h => (show g1_1 ≠ gs from by have := hS0.lt; have := h1_0.size; omega) (oI h)))
   have f48 := ((f40.le h11_10).ch h12_3_2 (fun h => (show g1_1 ≠ gh from by have := hH0.lt; have := h1_0.size; omega) (oI h)))
   have f49 := ((((f1_4.le h10_2).ch h10_3 (fun h => (show g10_2 ≠ g1_0 from by have := f1_4.lt; omega) (oI h))).le h11_10).ch h12_3_2 (fun h => (show g1_1 ≠ g1_0 from by have := b1_0.lt; omega) (oI h)))
   refine E.again (k1 + 1, (!(bm11_10)), (lc ++ [(cc, ((seats.getD k1 noSeat).ch), true)]), (cc + 1)) (.cons rfl (.cons rfl (.cons rfl (.cons rfl (.cons rfl (.cons rfl (.cons rfl (.cons rfl (.cons rfl (.cons rfl (.nil _))))))))))) ?_ ?_
   ·exact ⟨by omega, bad_next (by omega) hbd q11_1 (hmc.not hk11_5) hbm11_10, by rw [chans_next (by omega)]; exact hmc.new hk11_5, L44, by have := zl1; have := h10_2.size; have := h10_3.size; have := h11_10.size; have := h12_3_2.size; omega, f45, f46, f47, f48, f49, b12_3_2⟩
   first | omega | (simp only []; omega)
  have f50 := ((f1_5.le h10_2).ch h10_3 (fun h => (show g10_2 ≠ g1_1 from by have := f1_5.lt; omega) (oI h)))
  refine W.g (.as (.lookup1 (key := ((seats.getD k1 noSeat).ch)) underlying122 kint z4 rfl rfl f50) (by rw [hk11_5] <;> rfl)) ?_
  refine W.run 1 rfl ?_
  refine W.a (.dec (.move rfl) ((hmc.val hk11_5).1)) ?_
  refine W.run 6 rfl (W.nx (WC.region (W.run 1 rfl ?_)))
  refine W.a (.field0 fa60_0 rfl) ?_
  refine W.r (.loadB (v := .int .i64 ((seats.getD k1 noSeat).ch)) na3 rfl b10_3 rfl) ?_
  refine W.ef0 rfl rfl ?_
  refine Ef.updateG (key := ((seats.getD k1 noSeat).ch)) (u := true) underlying122 kint rfl rfl rfl f50 stay_i (hk11_5) ?_
  intro w12_3_3 b12_3_3 h12_3_3
  have L51 : ChP w w12_3_3 (LF gp gs gh A c) := L21.ch h12_3_3 (fun i hi hlt => by cases hi; exact absurd hlt (by have := L1.size; have := hg1_1; omega))
  refine W.nil (E.blkN (E.thenN (WC.region ?_)))
  refine W.a (.add rfl rfl (by omega)) ?_
  refine W.run 1 rfl (W.nil ?_)
  have f52 := (((f1_0.le h10_2).ch h10_3 (fun h => (show g10_2 ≠ gp from by have := f1_0.lt; omega) (oI h))).ch h12_3_3 (fun h => (show g1_1 ≠ gp from by have := hp0.lt; have := h1_0.size; omega) (oI h)))
  have f53 := (((f1_1.le h10_2).ch h10_3 (fun q hq => by cases hq; exact (fun he => by have := (f1_1.row he).2; omega))).ch h12_3_3 (fun q hq => by cases hq; exact (fun he => by have := (hO0.row he).2; have := h1_0.size; omega)))
  have f54 := (((f1_2.le h10_2).ch h10_3 (fun h => (show g10_2 ≠ gs from by have := f1_2.lt; omega) (oI h))).ch h12_3_3 (fun h => (show g1_1 ≠ gs from by have := hS0.lt; have := h1_0.size; omega) (oI h)))
  have f55 := (((f1_3.le h10_2).ch h10_3 (fun h => (show g10_2 ≠ gh from by have := f1_3.lt; omega) (oI h))).ch h12_3_3 (fun h => (show g1_1 ≠ gh from by have := hH0.lt; have := h1_0.size; omega) (oI h)))
  have f56 := (((f1_4.le h10_2).ch h10_3 (fun h => (show g10_2 ≠ g1_0 from by have := f1_4.lt; omega) (oI h))).ch h12_3_3 (fun h => (show g1_1 ≠ g1_0 from by have := b1_0.lt; omega) (oI h)))
  refine E.again (k1 + 1, true, (lc.map fun y => if y.2.1 = ((seats.getD k1 noSeat).ch) then (y.1, ((seats.getD k1 noSeat).ch), true) else y), cc) (.cons rfl (.cons rfl (.cons rfl (.cons rfl (.cons rfl (.cons rfl (.cons rfl (.cons rfl (.cons rfl (.cons rfl (.nil _))))))))))) ?_ ?_
  ·exact ⟨by omega, bad_twice (by omega) (hmc.val hk11_5).2, by rw [chans_next (by omega)]; exact hmc.old hk11_5, L51, by have := zl1; have := h10_2.size; have := h10_3.size; have := h12_3_3.size; omega, f52, f53, f54, f55, f56, b12_3_3⟩
  first | omega | (simp only []; omega)
 refine WC.condN rfl (decide_eq_false c1) ?_
 have hbd2 := hbd
 rw [List.take_of_length_le (by omega)] at hbd2
 refine WC.exit (E.thenX (E.thenX (E.blkH (E.thenN (WC.seq (WC.sr (W.run 1 rfl ?_)))))))
 by_cases q14_1 : bd = true
 ·refine W.a (.dec (.move rfl) (q14_1)) ?_
  refine W.run 3 rfl (W.nx (WC.condT rfl (WC.sr (W.run 1 rfl (W.nx (WC.ret (E.thenR ?_)))))))
  refine E.retG1 rfl rfl ?_
  have e9 : cutC own.length ls lh old seats fee = 1 := cut_no1 hbd2 q14_1; exact ⟨Ll1, by rw [e9], .inl ⟨by rw [e9]; decide, ⟨f1_0, f1_1, f1_2, f1_3, n1, n2, n3, n4, n5, n6⟩⟩⟩
 refine W.a (.dec (.move rfl) ((Bool.eq_false_iff.2 q14_1))) ?_
 refine W.run 1 rfl ?_
 refine W.efg rfl rfl rfl (rfl) rfl rfl ?_
 refine Ef.call go51 rfl rfl (hascoin_ok wl1 (hf.chP Ll1 hfa) (by omega)) ?_
 rintro _ w14_3 ⟨bc14_3, rfl, hbc14_3, h14_3⟩
 refine ⟨_, rfl, ?_⟩
 have L57 := Ll1.le h14_3
 refine W.run 1 rfl (W.nx ?_)
 by_cases c2 : bc14_3 = true
 ·refine WC.condY rfl (c2) ?_
  refine WC.sr (W.run 1 rfl (W.nx (WC.ret (E.thenR ?_))))
  have f58 := (f1_0.le h14_3)
  have f59 := (f1_1.le h14_3)
  have f60 := (f1_2.le h14_3)
  have f61 := (f1_3.le h14_3)
  refine E.retG1 rfl rfl ?_
  have e9 : cutC own.length ls lh old seats fee = 1 := cut_no2 hbc14_3 c2; exact ⟨L57, by rw [e9], .inl ⟨by rw [e9]; decide, ⟨f58, f59, f60, f61, n1, n2, n3, n4, n5, n6⟩⟩⟩
 refine WC.condN rfl ((Bool.eq_false_iff.2 c2)) ?_
 have hok : cutOk own.length old seats fee := cut_ok hbd2 q14_1 hbc14_3 c2
 have hfo := hok.1.2.2
 refine WC.sn (WC.sr (W.run 1 rfl ?_))
 refine W.r (.len underlying56 rfl) ?_
 refine W.ef rfl rfl rfl ?_
 refine Ef.vmake 0 nf underlying56 el3 iv_row rfl rfl (rfl) rfl (rfl) (by omega) (by unfold maxLen; omega) ?_
 intro g16_2 w16_2 hg16_2 o16_2 h16_2
 have L62 := L57.le h16_2
 refine W.run 1 rfl (W.nx (WC.sr (W.run 1 rfl (W.nx (WC.seq (WC.sr (W.run 1 rfl ?_)))))))
 refine W.r (.len underlying56 rfl) ?_
 refine W.run 1 rfl (W.nx (WC.block ?_))
 have f63 := (f1_0.le (h14_3.trans h16_2))
 have f64 := (f1_1.le (h14_3.trans h16_2))
 have f65 := (f1_2.le (h14_3.trans h16_2))
 have f66 := (f1_3.le (h14_3.trans h16_2))
 have f67 := (f1_4.le (h14_3.trans h16_2))
 refine WC.loop (ι := Nat × Bool) (fun ⟨k2, held⟩ => [(0, .pointer (some ⟨gp, 0, none⟩)), (1, .slice Ao no co), (2, .slice As ns cS), (3, .slice Af nf cf), (9, .map (some g1_0)), (16, .slice (some ⟨g16_2, 0, none⟩) nf nf), (17, .bool (held)), (98, .slice Ao no co), (99, .int .i64 (((no : Nat) : Int))), (100, .int .i64 (((k2 : Nat) : Int)))]) (fun ⟨k2, held⟩ wl2 => (k2 <= no) /\ (∀ i, i < k2 -> ∃ t, getG (old.getD i 0) ls = some t) /\ (held = true ↔ ∃ i, i < k2 /\ Busy lh (old.getD i 0)) /\ ChP w wl2 (LF gp gs gh A c) /\ w16_2.heap.size <= wl2.heap.size /\ Blk wl2 gp 100 #[.slice A own.length c, .map (some gs), .map (some gh), .int .i64 (lost)] /\ OVec wl2 0 3 iv 1 A own.length c own /\ MapG wl2 ikf seatf gs ls cs /\ MapG wl2 plf holdf gh lh ck /\ MapG wl2 ikf Value.bool g1_0 lg cg /\ OVec wl2 w14_3.heap.size 3 iv 1 (some ⟨g16_2, 0, none⟩) nf nf (goneO own.length ls (old.take k2))) (fun ⟨k2, held⟩ => no - k2) (0, false) ?_ ?_ ?_
 ·exact .cons rfl (.cons rfl (.cons rfl (.cons rfl (.cons rfl (.cons rfl (.cons rfl (.cons rfl (.cons rfl (.cons rfl (.nil _))))))))))
 ·exact ⟨Nat.zero_le _, fun i hi => by omega, ⟨fun h => (by cases h), fun ⟨i, hi, _⟩ => (by omega)⟩, L62, Nat.le_refl _, f63, f64, f65, f66, f67, (o16_2.cast rfl (by unfold goneO; rw [show nf = own.length by omega]; rfl))⟩
 rintro ⟨k2, held⟩ wl2 ⟨hk2, hth, hhd, Ll2, zl2, f2_0, f2_1, f2_2, f2_3, f2_4, f2_5⟩
 have lb2_11 : w14_3.heap.size <= wl2.heap.size := by have := h16_2.size; omega
 have hgb := gone_at hseat k2 (by omega) hth
 refine WC.sr (W.run 1 rfl (W.nx (WC.seq ?_)))
 by_cases c3 : ((k2 : Nat) : Int) < ((no : Nat) : Int)
 ·refine WC.condY rfl (decide_eq_true c3) ?_
  refine WC.sn (WC.seq (WC.block (WC.sr ?_)))
  refine W.a (.idxS (k2) underlying56 sz3 rfl rfl (ho.isSome iv_row (by omega)) (rfl) (by omega)) ?_
  refine W.r (.vone (v := .int .i64 ((old.getD k2 0))) na3 rfl (ho.chP Ll2 hoa) iv_row (getS old 0 (by omega)) rfl) ?_
  refine W.run 1 rfl (W.nx (WC.sr (W.run 1 rfl ?_)))
  refine W.a (.nilCheck rfl) ?_
  refine W.a (.field0 fa100_1 rfl) ?_
  refine W.r (.loadB (v := .map (some gs)) na97 rfl f2_0 rfl) ?_
  refine W.run 1 rfl ?_
  rcases optG (getG (old.getD k2 0) ls) with hk21_5 | ⟨vhk21_5, hk21_5⟩
  ·refine W.r (.as (.lookup2 (key := (old.getD k2 0)) underlying97 kint z60 rfl rfl f2_2) (by rw [hk21_5] <;> rfl)) ?_
   refine W.run 1 rfl ?_
   refine W.a (.extract (v := .agg (seatV noSeat).toArray) rfl rfl) ?_
   refine W.run 1 rfl (W.ef rfl rfl rfl ?_)
   refine Ef.allocA z60 ?_
   intro g21_9 w21_9 hg21_9 b21_9 h21_9
   have L68 := Ll2.le h21_9
   have b21_9 : Blk w21_9 g21_9 60 (seatV noSeat).toArray := b21_9
   refine W.ef0 rfl rfl ?_
   refine Ef.storeAll sz60 (by rfl) rfl rfl b21_9 (by simp only [List.size_toArray, seatV_row.len]) (seatV_row.one noSeat) ?_
   intro w21_10 b21_10 h21_10
   have L69 : ChP w w21_10 (LF gp gs gh A c) := L68.ch h21_10 (fun i hi hlt => by cases hi; exact absurd hlt (by have := Ll2.size; have := hg21_9; omega))
   refine W.run 1 rfl (W.nx (WC.seq (WC.sr (W.run 2 rfl (W.nx (WC.condT rfl (WC.sr (W.run 1 rfl (W.nx (WC.ret (E.thenR (E.blkR (E.thenR (E.thenR (E.blkR (E.thenR ?_))))))))))))))))
   have f70 := ((f2_0.le h21_9).ch h21_10 (fun h => (show g21_9 ≠ gp from by have := f2_0.lt; omega) (oI h)))
   have f71 := ((f2_1.le h21_9).ch h21_10 (fun q hq => by cases hq; exact (fun he => by have := (f2_1.row he).2; omega)))
   have f72 := ((f2_2.le h21_9).ch h21_10 (fun h => (show g21_9 ≠ gs from by have := f2_2.lt; omega) (oI h)))
   have f73 := ((f2_3.le h21_9).ch h21_10 (fun h => (show g21_9 ≠ gh from by have := f2_3.lt; omega) (oI h)))
   refine E.retG1 rfl rfl ?_
   have e9 : cutC own.length ls lh old seats fee = 5 := cutC_5 hok (by omega) hk21_5; exact ⟨L69, by rw [e9], .inl ⟨by rw [e9]; decide, ⟨f70, f71, f72, f73, n1, n2, n3, n4, n5, n6⟩⟩⟩
  obtain ⟨bh, hbh⟩ := getG_mem hk21_5
  have hso : seatOk own.length vhk21_5 := hseat _ hbh
  refine W.r (.as (.lookup2 (key := (old.getD k2 0)) underlying97 kint z60 rfl rfl f2_2) (by rw [hk21_5] <;> rfl)) ?_
  refine W.run 1 rfl ?_
  refine W.a (.extract (v := .agg (seatV vhk21_5).toArray) rfl rfl) ?_
  refine W.run 1 rfl (W.ef rfl rfl rfl ?_)
  refine Ef.allocA z60 ?_
  intro g21_9_1 w21_9_1 hg21_9_1 b21_9_1 h21_9_1
  have L74 := Ll2.le h21_9_1
  have b21_9_1 : Blk w21_9_1 g21_9_1 60 (seatV noSeat).toArray := b21_9_1
  refine W.ef0 rfl rfl ?_
  refine Ef.storeAll sz60 (by rfl) rfl rfl b21_9_1 (by simp only [List.size_toArray, seatV_row.len]) (seatV_row.one vhk21_5) ?_
  intro w21_10_1 b21_10_1 h21_10_1
  have b21_10_1 : Blk w21_10_1 g21_9_1 60 (seatV vhk21_5).toArray := b21_10_1
  have L75 : ChP w w21_10_1 (LF gp gs gh A c) := L74.ch h21_10_1 (fun i hi hlt => by cases hi; exact absurd hlt (by have := Ll2.size; have := hg21_9_1; omega))
  refine W.run 1 rfl (W.nx (WC.seq (WC.sr (W.run 2 rfl (W.nx (WC.condF rfl (WC.sn (WC.sr (W.run 1 rfl ?_)))))))))
  by_cases q24_1 : held = true
  ·refine W.a (.dec (.move rfl) (q24_1)) ?_
   refine W.run 6 rfl (W.nx (WC.sr ?_))
   refine W.a (.field0 fa60_1 rfl) ?_
   refine W.r (.bpart [.int .i64 (vhk21_5.p0), .int .i64 (vhk21_5.p1)] ag48 rfl (by decide) rfl b21_10_1 rfl) ?_
   refine W.run 1 rfl (W.nx (WC.block ?_))
   have f76 := ((f2_5.le h21_9_1).ch h21_10_1 (fun q hq => by cases hq; exact (fun he => by have := (f2_5.row he).2; omega)))
   have f77 := ((f2_0.le h21_9_1).ch h21_10_1 (fun h => (show g21_9_1 ≠ gp from by have := f2_0.lt; omega) (oI h)))
   have f78 := ((f2_1.le h21_9_1).ch h21_10_1 (fun q hq => by cases hq; exact (fun he => by have := (f2_1.row he).2; omega)))
   have f79 := ((f2_2.le h21_9_1).ch h21_10_1 (fun h => (show g21_9_1 ≠ gs from by have := f2_2.lt; omega) (oI h)))
   have f80 := ((f2_3.le h21_9_1).ch h21_10_1 (fun h => (show g21_9_1 ≠ gh from by have := f2_3.lt; omega) (oI h)))
   have f81 := ((f2_4.le h21_9_1).ch h21_10_1 (fun h => (show g21_9_1 ≠ g1_0 from by have := f2_4.lt; omega) (oI h)))
   refine WC.loop (ι := Nat) (fun k3 => [(0, .pointer (some ⟨gp, 0, none⟩)), (1, .slice Ao no co), (2, .slice As ns cS), (3, .slice Af nf cf), (9, .map (some g1_0)), (16, .slice (some ⟨g16_2, 0, none⟩) nf nf), (17, .bool true), (20, .pointer (some ⟨g21_9_1, 0, none⟩)), (98, .slice Ao no co), (99, .int .i64 (((no : Nat) : Int))), (100, .int .i64 (((k2 : Nat) : Int))), (123, .agg #[.int .i64 (vhk21_5.p0), .int .i64 (vhk21_5.p1)]), (124, .int .i64 (((k3 : Nat) : Int)))]) (fun k3 wl3 => (k3 <= 2) /\ ChP w wl3 (LF gp gs gh A c) /\ w21_10_1.heap.size <= wl3.heap.size /\ Blk wl3 gp 100 #[.slice A own.length c, .map (some gs), .map (some gh), .int .i64 (lost)] /\ OVec wl3 0 3 iv 1 A own.length c own /\ MapG wl3 ikf seatf gs ls cs /\ MapG wl3 plf holdf gh lh ck /\ MapG wl3 ikf Value.bool g1_0 lg cg /\ OVec wl3 w14_3.heap.size 3 iv 1 (some ⟨g16_2, 0, none⟩) nf nf (addS (goneO own.length ls (old.take k2)) vhk21_5 k3) /\ Blk wl3 g21_9_1 60 (seatV vhk21_5).toArray) (fun k3 => 2 - k3) 0 ?_ ?_ ?_
   ·exact .cons rfl (.cons rfl (.cons rfl (.cons rfl (.cons rfl (.cons rfl (.cons rfl (.cons rfl (.cons rfl (.cons rfl (.cons rfl (.cons rfl (.cons rfl (.nil _)))))))))))))
   ·exact ⟨Nat.zero_le _, L75, Nat.le_refl _, f77, f78, f79, f80, f81, f76, b21_10_1⟩
   rintro k3 wl3 ⟨hk3, Ll3, zl3, f3_0, f3_1, f3_2, f3_3, f3_4, f3_5, f3_6⟩
   have lb3_11 : w14_3.heap.size <= wl3.heap.size := Nat.le_trans lb2_11 (by have := h21_9_1.size; have := h21_10_1.size; omega)
   have hpz := hso.1
   have hab := addS_at hso.2.2.2.1 hso.2.2.2.2 hgb k3 hk3
   refine WC.sr (W.run 1 rfl (W.nx (WC.seq ?_)))
   by_cases c5 : ((k3 : Nat) : Int) < 2
   ·refine WC.condY rfl (decide_eq_true c5) ?_
    refine WC.sn (WC.seq (WC.block (WC.sr (W.run 1 rfl ?_))))
    refine W.a (.index1 (v := .int .i64 ((vhk21_5.p k3))) (k3) underlying48 sz3 na3 rfl rfl (rfl) (by omega) (seatP_ix vhk21_5 (by omega))) ?_
    refine W.run 2 rfl (W.nx ?_)
    refine WC.draw [0, 1, 2, 3, 4, 5, 6, 7, 8, 9, 10] mixed (by kernel_rfl) ?_
    intro w28 d28
    have L82 := Ll3.le d28
    refine G.run 2 rfl ?_
    refine G.a rfl (.idxS ((vhk21_5.p k3).toNat) underlying56 sz3 rfl rfl (o16_2.vec.isSome iv_row (by omega)) (by have := (seatOk_at hso (k := k3) (by omega)).1; omega) (by have := (seatOk_at hso (k := k3) (by omega)).1; omega)) ?_
    have f83 := (f3_5.le d28)
    refine G.r rfl (.vone (v := .int .i64 (((addS (goneO own.length ls (old.take k2)) vhk21_5 k3).getD ((vhk21_5.p k3).toNat) 0))) na3 rfl f83.vec iv_row (getS (addS (goneO own.length ls (old.take k2)) vhk21_5 k3) 0 (by rw [addS_len, goneO_len]; have := (seatOk_at hso (k := k3) (by omega)).1; omega)) rfl) ?_
    refine G.run 1 rfl ?_
    refine G.a rfl (.field0 fa60_2 rfl) ?_
    refine G.a rfl (.idxAo (k3) underlying48 sz3 rfl rfl (rfl) (by omega)) ?_
    have f84 := (f3_6.le d28)
    refine G.r rfl (.loadB (v := .int .i64 ((vhk21_5.h k3))) na3 rfl f84 (seatH_at vhk21_5 (by omega))) ?_
    refine G.a rfl (.add rfl rfl (by have := hab (vhk21_5.p k3).toNat; have := (seatOk_at hso (k := k3) (by omega)).2; omega)) ?_
    refine G.a rfl (.idxS ((vhk21_5.p k3).toNat) underlying56 sz3 rfl rfl (o16_2.vec.isSome iv_row (by omega)) (by have := (seatOk_at hso (k := k3) (by omega)).1; omega) (by have := (seatOk_at hso (k := k3) (by omega)).1; omega)) ?_
    refine G.ef0 rfl rfl rfl rfl ?_
    refine Ef.vset (j := (vhk21_5.p k3).toNat) (o := 0) (((addS (goneO own.length ls (old.take k2)) vhk21_5 k3).getD ((vhk21_5.p k3).toNat) 0) + (vhk21_5.h k3)) sz3 rfl (by omega) rfl f83 iv_row (getS (addS (goneO own.length ls (old.take k2)) vhk21_5 k3) 0 (by rw [addS_len, goneO_len]; have := (seatOk_at hso (k := k3) (by omega)).1; omega)) (by decide) rfl rfl ?_
    intro w28_10 o28_10 h28_10
    refine noT (by kernel_rfl) ?_
    have L85 : ChP w w28_10 (LF gp gs gh A c) := L82.ch h28_10 (fun i hi hlt => absurd hlt (by have := (f83.row hi).1; have := L57.size; omega))
    refine G.nil (E.blkN (E.thenN (WC.region ?_)))
    refine W.a (.add rfl rfl (by omega)) ?_
    refine W.run 1 rfl (W.nil ?_)
    have f86 := ((f3_0.le d28).ch h28_10 (fun he => by have := (f83.row he).1; have := f1_0.lt; have := h14_3.size; omega))
    have f87 := ((f3_1.le d28).ch h28_10 ((Apart.symm (fun q h1 h2 => by have := (f1_1.row h1).2; have := (f83.row h2).1; have := h14_3.size; omega))))
    have f88 := ((f3_2.le d28).ch h28_10 (fun he => by have := (f83.row he).1; have := f1_2.lt; have := h14_3.size; omega))
    have f89 := ((f3_3.le d28).ch h28_10 (fun he => by have := (f83.row he).1; have := f1_3.lt; have := h14_3.size; omega))
    have f90 := ((f3_4.le d28).ch h28_10 (fun he => by have := (f83.row he).1; have := f1_4.lt; have := h14_3.size; omega))
    have f91 := (f84.ch h28_10 (fun he => by have := (f2_5.row he).2; omega))
    refine E.again (k3 + 1) (.cons rfl (.cons rfl (.cons rfl (.cons rfl (.cons rfl (.cons rfl (.cons rfl (.cons rfl (.cons rfl (.cons rfl (.cons rfl (.cons rfl (.cons rfl (.nil _)))))))))))))) ?_ ?_
    ·exact ⟨by omega, L85, by have := zl3; have := d28.size; have := h28_10.size; omega, f86, f87, f88, f89, f90, o28_10, f91⟩
    first | omega | (simp only []; omega)
   refine WC.condN rfl (decide_eq_false c5) ?_
   refine WC.exit (E.thenX (E.thenX (E.blkH (E.blkN (E.thenN (WC.region ?_))))))
   refine W.a (.add rfl rfl (by omega)) ?_
   refine W.run 1 rfl (W.nil ?_)
   refine E.again (k2 + 1, true) (.cons rfl (.cons rfl (.cons rfl (.cons rfl (.cons rfl (.cons rfl (.cons rfl (.cons rfl (.cons rfl (.cons rfl (.nil _))))))))))) ?_ ?_
   ·exact ⟨by omega, fun i hi => (Nat.lt_succ_iff_lt_or_eq.1 hi).elim (hth i) (fun hh => by subst hh; exact ⟨_, hk21_5⟩), held_keep hhd q24_1, Ll3, by have := zl2; have := zl0; have := zl1; have := zl3; have := sc2; have := h1_0.size; have := h1_1.size; have := h14_3.size; have := h16_2.size; have := h21_9_1.size; have := h21_10_1.size; omega, f3_0, f3_1, f3_2, f3_3, f3_4, (f3_5.cast rfl (by have e3 : k3 = 2 := (by omega); rw [e3, goneO_next (by omega)]; unfold seatAt'; rw [hk21_5]; rfl))⟩
   first | omega | (simp only []; omega)
  refine W.a (.dec (.move rfl) ((Bool.eq_false_iff.2 q24_1))) ?_
  refine W.run 2 rfl ?_
  have f92 := ((f2_0.le h21_9_1).ch h21_10_1 (fun h => (show g21_9_1 ≠ gp from by have := f2_0.lt; omega) (oI h)))
  have f93 := ((f2_1.le h21_9_1).ch h21_10_1 (fun q hq => by cases hq; exact (fun he => by have := (f2_1.row he).2; omega)))
  have f94 := ((f2_2.le h21_9_1).ch h21_10_1 (fun h => (show g21_9_1 ≠ gs from by have := f2_2.lt; omega) (oI h)))
  have f95 := ((f2_3.le h21_9_1).ch h21_10_1 (fun h => (show g21_9_1 ≠ gh from by have := f2_3.lt; omega) (oI h)))
  refine W.efg rfl rfl rfl (rfl) rfl rfl ?_
  refine Ef.call go49 rfl rfl (lfree_ok (old.getD k2 0) w21_10_1 (LedL.mk f92 f93 f94 f95 n1 n2 n3 n4 n5 n6) hb (hq _ 0) (hq _ 1)) ?_
  rintro _ w24_4 ⟨rfl, h24_4⟩
  refine ⟨_, rfl, ?_⟩
  have L96 := L75.le h24_4
  refine W.run 3 rfl (W.nx (WC.sr ?_))
  refine W.a (.field0 fa60_1 rfl) ?_
  have f97 := (b21_10_1.le h24_4)
  refine W.r (.bpart [.int .i64 (vhk21_5.p0), .int .i64 (vhk21_5.p1)] ag48 rfl (by decide) rfl f97 rfl) ?_
  refine W.run 1 rfl (W.nx (WC.block ?_))
  have f98 := (((f2_5.le h21_9_1).ch h21_10_1 (fun q hq => by cases hq; exact (fun he => by have := (f2_5.row he).2; omega))).le h24_4)
  have f99 := (f92.le h24_4)
  have f100 := (f93.le h24_4)
  have f101 := (f94.le h24_4)
  have f102 := (f95.le h24_4)
  have f103 := (((f2_4.le h21_9_1).ch h21_10_1 (fun h => (show g21_9_1 ≠ g1_0 from by have := f2_4.lt; omega) (oI h))).le h24_4)
  refine WC.loop (ι := Nat) (fun k3 => [(0, .pointer (some ⟨gp, 0, none⟩)), (1, .slice Ao no co), (2, .slice As ns cS), (3, .slice Af nf cf), (9, .map (some g1_0)), (16, .slice (some ⟨g16_2, 0, none⟩) nf nf), (17, .bool (!(decide (heldL lh (old.getD k2 0) 0 + heldL lh (old.getD k2 0) 1 = 0)))), (20, .pointer (some ⟨g21_9_1, 0, none⟩)), (98, .slice Ao no co), (99, .int .i64 (((no : Nat) : Int))), (100, .int .i64 (((k2 : Nat) : Int))), (123, .agg #[.int .i64 (vhk21_5.p0), .int .i64 (vhk21_5.p1)]), (124, .int .i64 (((k3 : Nat) : Int)))]) (fun k3 wl3 => (k3 <= 2) /\ ChP w wl3 (LF gp gs gh A c) /\ w24_4.heap.size <= wl3.heap.size /\ Blk wl3 gp 100 #[.slice A own.length c, .map (some gs), .map (some gh), .int .i64 (lost)] /\ OVec wl3 0 3 iv 1 A own.length c own /\ MapG wl3 ikf seatf gs ls cs /\ MapG wl3 plf holdf gh lh ck /\ MapG wl3 ikf Value.bool g1_0 lg cg /\ OVec wl3 w14_3.heap.size 3 iv 1 (some ⟨g16_2, 0, none⟩) nf nf (addS (goneO own.length ls (old.take k2)) vhk21_5 k3) /\ Blk wl3 g21_9_1 60 (seatV vhk21_5).toArray) (fun k3 => 2 - k3) 0 ?_ ?_ ?_
  ·exact .cons rfl (.cons rfl (.cons rfl (.cons rfl (.cons rfl (.cons rfl (.cons rfl (.cons rfl (.cons rfl (.cons rfl (.cons rfl (.cons rfl (.cons rfl (.nil _)))))))))))))
  ·exact ⟨Nat.zero_le _, L96, Nat.le_refl _, f99, f100, f101, f102, f103, f98, f97⟩
  rintro k3 wl3 ⟨hk3, Ll3, zl3, f3_0, f3_1, f3_2, f3_3, f3_4, f3_5, f3_6⟩
  have lb3_11 : w14_3.heap.size <= wl3.heap.size := Nat.le_trans lb2_11 (by have := h21_9_1.size; have := h21_10_1.size; have := h24_4.size; omega)
  have hpz := hso.1
  have hab := addS_at hso.2.2.2.1 hso.2.2.2.2 hgb k3 hk3
  refine WC.sr (W.run 1 rfl (W.nx (WC.seq ?_)))
  by_cases c5 : ((k3 : Nat) : Int) < 2
  ·refine WC.condY rfl (decide_eq_true c5) ?_
   refine WC.sn (WC.seq (WC.block (WC.sr (W.run 1 rfl ?_))))
   refine W.a (.index1 (v := .int .i64 ((vhk21_5.p k3))) (k3) underlying48 sz3 na3 rfl rfl (rfl) (by omega) (seatP_ix vhk21_5 (by omega))) ?_
   refine W.run 2 rfl (W.nx ?_)
   refine WC.draw [0, 1, 2, 3, 4, 5, 6, 7, 8, 9, 10] mixed (by kernel_rfl) ?_
   intro w28 d28
   have L104 := Ll3.le d28
   refine G.run 2 rfl ?_
   refine G.a rfl (.idxS ((vhk21_5.p k3).toNat) underlying56 sz3 rfl rfl (o16_2.vec.isSome iv_row (by omega)) (by have := (seatOk_at hso (k := k3) (by omega)).1; omega) (by have := (seatOk_at hso (k := k3) (by omega)).1; omega)) ?_
   have f105 := (f3_5.le d28)
   refine G.r rfl (.vone (v := .int .i64 (((addS (goneO own.length ls (old.take k2)) vhk21_5 k3).getD ((vhk21_5.p k3).toNat) 0))) na3 rfl f105.vec iv_row (getS (addS (goneO own.length ls (old.take k2)) vhk21_5 k3) 0 (by rw [addS_len, goneO_len]; have := (seatOk_at hso (k := k3) (by omega)).1; omega)) rfl) ?_
   refine G.run 1 rfl ?_
   refine G.a rfl (.field0 fa60_2 rfl) ?_
   refine G.a rfl (.idxAo (k3) underlying48 sz3 rfl rfl (rfl) (by omega)) ?_
   have f106 := (f3_6.le d28)
   refine G.r rfl (.loadB (v := .int .i64 ((vhk21_5.h k3))) na3 rfl f106 (seatH_at vhk21_5 (by omega))) ?_
   refine G.a rfl (.add rfl rfl (by have := hab (vhk21_5.p k3).toNat; have := (seatOk_at hso (k := k3) (by omega)).2; omega)) ?_
   refine G.a rfl (.idxS ((vhk21_5.p k3).toNat) underlying56 sz3 rfl rfl (o16_2.vec.isSome iv_row (by omega)) (by have := (seatOk_at hso (k := k3) (by omega)).1; omega) (by have := (seatOk_at hso (k := k3) (by omega)).1; omega)) ?_
   refine G.ef0 rfl rfl rfl rfl ?_
   refine Ef.vset (j := (vhk21_5.p k3).toNat) (o := 0) (((addS (goneO own.length ls (old.take k2)) vhk21_5 k3).getD ((vhk21_5.p k3).toNat) 0) + (vhk21_5.h k3)) sz3 rfl (by omega) rfl f105 iv_row (getS (addS (goneO own.length ls (old.take k2)) vhk21_5 k3) 0 (by rw [addS_len, goneO_len]; have := (seatOk_at hso (k := k3) (by omega)).1; omega)) (by decide) rfl rfl ?_
   intro w28_10_1 o28_10_1 h28_10_1
   refine noT (by kernel_rfl) ?_
   have L107 : ChP w w28_10_1 (LF gp gs gh A c) := L104.ch h28_10_1 (fun i hi hlt => absurd hlt (by have := (f105.row hi).1; have := L57.size; omega))
   refine G.nil (E.blkN (E.thenN (WC.region ?_)))
   refine W.a (.add rfl rfl (by omega)) ?_
   refine W.run 1 rfl (W.nil ?_)
   have f108 := ((f3_0.le d28).ch h28_10_1 (fun he => by have := (f105.row he).1; have := f1_0.lt; have := h14_3.size; omega))
   have f109 := ((f3_1.le d28).ch h28_10_1 ((Apart.symm (fun q h1 h2 => by have := (f1_1.row h1).2; have := (f105.row h2).1; have := h14_3.size; omega))))
   have f110 := ((f3_2.le d28).ch h28_10_1 (fun he => by have := (f105.row he).1; have := f1_2.lt; have := h14_3.size; omega))
   have f111 := ((f3_3.le d28).ch h28_10_1 (fun he => by have := (f105.row he).1; have := f1_3.lt; have := h14_3.size; omega))
   have f112 := ((f3_4.le d28).ch h28_10_1 (fun he => by have := (f105.row he).1; have := f1_4.lt; have := h14_3.size; omega))
   have f113 := (f106.ch h28_10_1 (fun he => by have := (f2_5.row he).2; omega))
   refine E.again (k3 + 1) (.cons rfl (.cons rfl (.cons rfl (.cons rfl (.cons rfl (.cons rfl (.cons rfl (.cons rfl (.cons rfl (.cons rfl (.cons rfl (.cons rfl (.cons rfl (.nil _)))))))))))))) ?_ ?_
   ·exact ⟨by omega, L107, by have := zl3; have := d28.size; have := h28_10_1.size; omega, f108, f109, f110, f111, f112, o28_10_1, f113⟩
   first | omega | (simp only []; omega)
  refine WC.condN rfl (decide_eq_false c5) ?_
  refine WC.exit (E.thenX (E.thenX (E.blkH (E.blkN (E.thenN (WC.region ?_))))))
  refine W.a (.add rfl rfl (by omega)) ?_
  refine W.run 1 rfl (W.nil ?_)
  refine E.again (k2 + 1, (!(decide (heldL lh (old.getD k2 0) 0 + heldL lh (old.getD k2 0) 1 = 0)))) (.cons rfl (.cons rfl (.cons rfl (.cons rfl (.cons rfl (.cons rfl (.cons rfl (.cons rfl (.cons rfl (.cons rfl (.nil _))))))))))) ?_ ?_
  ·exact ⟨by omega, fun i hi => (Nat.lt_succ_iff_lt_or_eq.1 hi).elim (hth i) (fun hh => by subst hh; exact ⟨_, hk21_5⟩), held_next hhd q24_1, Ll3, by have := zl2; have := zl0; have := zl1; have := zl3; have := sc2; have := h1_0.size; have := h1_1.size; have := h14_3.size; have := h16_2.size; have := h21_9_1.size; have := h21_10_1.size; have := h24_4.size; omega, f3_0, f3_1, f3_2, f3_3, f3_4, (f3_5.cast rfl (by have e3 : k3 = 2 := (by omega); rw [e3, goneO_next (by omega)]; unfold seatAt'; rw [hk21_5]; rfl))⟩
  first | omega | (simp only []; omega)
 refine WC.condN rfl (decide_eq_false c3) ?_
 have ht5 := all_there hth (by omega)
 have hg2 := hgb
 rw [List.take_of_length_le (by omega)] at hg2
 refine WC.exit (E.thenX (E.thenX (E.blkH (E.thenN (WC.seq (WC.sr (W.run 1 rfl (W.nx ?_))))))))
 by_cases c6 : held = true
 ·refine WC.condY rfl (c6) ?_
  refine WC.sr (W.run 1 rfl (W.nx (WC.ret (E.thenR ?_))))
  refine E.retG1 rfl rfl ?_
  have e9 : cutC own.length ls lh old seats fee = 14 := cutC_14 hok ht5 (by omega) hhd c6; exact ⟨Ll2, by rw [e9], .inl ⟨by rw [e9]; decide, ⟨f2_0, f2_1, f2_2, f2_3, n1, n2, n3, n4, n5, n6⟩⟩⟩
 refine WC.condN rfl ((Bool.eq_false_iff.2 c6)) ?_
 have ht14 := not_busy (by omega) hhd c6
 refine WC.sn (WC.seq (WC.sr (W.run 1 rfl ?_)))
 refine W.r (.len underlying88 rfl) ?_
 refine W.run 1 rfl (W.nx (WC.block ?_))
 refine WC.loop (ι := Nat) (fun k4 => [(0, .pointer (some ⟨gp, 0, none⟩)), (1, .slice Ao no co), (2, .slice As ns cS), (3, .slice Af nf cf), (9, .map (some g1_0)), (16, .slice (some ⟨g16_2, 0, none⟩) nf nf), (141, .slice As ns cS), (142, .int .i64 (((ns : Nat) : Int))), (143, .int .i64 (((k4 : Nat) : Int)))]) (fun k4 wl4 => (k4 <= ns) /\ (∀ i, i < k4 -> ¬ There ls old (seats.getD i noSeat)) /\ ChP w wl4 (LF gp gs gh A c) /\ wl2.heap.size <= wl4.heap.size /\ Blk wl4 gp 100 #[.slice A own.length c, .map (some gs), .map (some gh), .int .i64 (lost)] /\ OVec wl4 0 3 iv 1 A own.length c own /\ MapG wl4 ikf seatf gs ls cs /\ MapG wl4 plf holdf gh lh ck /\ MapG wl4 ikf Value.bool g1_0 lg cg /\ OVec wl4 w14_3.heap.size 3 iv 1 (some ⟨g16_2, 0, none⟩) nf nf (comeO (goneO own.length ls old) (seats.take k4))) (fun k4 => ns - k4) 0 ?_ ?_ ?_
 ·exact .cons rfl (.cons rfl (.cons rfl (.cons rfl (.cons rfl (.cons rfl (.cons rfl (.cons rfl (.cons rfl (.nil _)))))))))
 ·exact ⟨Nat.zero_le _, fun i hi => by omega, Ll2, Nat.le_refl _, f2_0, f2_1, f2_2, f2_3, f2_4, (f2_5.cast rfl (by rw [List.take_of_length_le (by omega)]; rfl))⟩
 rintro k4 wl4 ⟨hk4, hnt, Ll4, zl4, f4_0, f4_1, f4_2, f4_3, f4_4, f4_5⟩
 have lb4_11 : w14_3.heap.size <= wl4.heap.size := Nat.le_trans lb2_11 (by omega)
 have hcb := come_at hok.2.1.2 hg2 k4 (by omega)
 refine WC.sr (W.run 1 rfl (W.nx (WC.seq ?_)))
 by_cases c7 : ((k4 : Nat) : Int) < ((ns : Nat) : Int)
 ·refine WC.condY rfl (decide_eq_true c7) ?_
  refine WC.sn (WC.seq (WC.block (WC.sr ?_)))
  refine W.a (.idxS (k4) underlying88 sz60 rfl rfl (hs.isSome seatV_row (by omega)) (rfl) (by omega)) ?_
  refine W.r (.vload ag60 rfl (hs.chP Ll4 hsa) seatV_row (getS seats noSeat (by omega))) ?_
  refine W.ef rfl rfl rfl ?_
  refine Ef.allocA z60 ?_
  intro g35_2 w35_2 hg35_2 b35_2 h35_2
  have L114 := Ll4.le h35_2
  have b35_2 : Blk w35_2 g35_2 60 (seatV noSeat).toArray := b35_2
  refine W.ef0 rfl rfl ?_
  refine Ef.storeAll sz60 (by rfl) rfl rfl b35_2 (by simp only [List.size_toArray, seatV_row.len]) (seatV_row.one (seats.getD k4 noSeat)) ?_
  intro w35_3 b35_3 h35_3
  have b35_3 : Blk w35_3 g35_2 60 (seatV (seats.getD k4 noSeat)).toArray := b35_3
  have L115 : ChP w w35_3 (LF gp gs gh A c) := L114.ch h35_3 (fun i hi hlt => by cases hi; exact absurd hlt (by have := Ll4.size; have := hg35_2; omega))
  refine W.nx (WC.seq (WC.seq ?_))
  refine WC.draw [0, 1, 2, 3, 4, 5, 6, 7, 8, 9, 10, 11, 12] mixed (by kernel_rfl) ?_
  intro w36 d36
  have L116 := L115.le d36
  refine G.run 1 rfl ?_
  refine G.a rfl (.nilCheck rfl) ?_
  refine G.a rfl (.field0 fa100_1 rfl) ?_
  have f117 := (((f4_0.le h35_2).ch h35_3 (fun h => (show g35_2 ≠ gp from by have := f4_0.lt; omega) (oI h))).le d36)
  refine G.r rfl (.loadB (v := .map (some gs)) na97 rfl f117 rfl) ?_
  refine G.a rfl (.field0 fa60_0 rfl) ?_
  have f118 := (b35_3.le d36)
  refine G.r rfl (.loadB (v := .int .i64 ((seats.getD k4 noSeat).ch)) na3 rfl f118 rfl) ?_
  rcases optG (getG ((seats.getD k4 noSeat).ch) ls) with hk36_6 | ⟨vhk36_6, hk36_6⟩
  ·have f119 := (((f4_2.le h35_2).ch h35_3 (fun h => (show g35_2 ≠ gs from by have := f4_2.lt; omega) (oI h))).le d36)
   refine G.r rfl (.as (.lookup2 (key := ((seats.getD k4 noSeat).ch)) underlying97 kint z60 rfl rfl f119) (by rw [hk36_6] <;> rfl)) ?_
   refine G.run 1 rfl ?_
   refine G.a rfl (.extract (v := .agg (seatV noSeat).toArray) rfl rfl) ?_
   refine G.run 1 rfl ?_
   refine G.ef rfl rfl rfl rfl rfl ?_
   refine Ef.allocA z60 ?_
   intro g36_10 w36_10 hg36_10 b36_10 h36_10
   refine ⟨fun _ => h36_10, ?_⟩
   have L120 := L116.le h36_10
   have b36_10 : Blk w36_10 g36_10 60 (seatV noSeat).toArray := b36_10
   refine G.ef0 rfl rfl rfl rfl ?_
   refine Ef.storeAll sz60 (by rfl) rfl rfl b36_10 (by simp only [List.size_toArray, seatV_row.len]) (seatV_row.one noSeat) ?_
   intro w36_11 b36_11 h36_11
   refine noT (by kernel_rfl) ?_
   have L121 : ChP w w36_11 (LF gp gs gh A c) := L120.ch h36_11 (fun i hi hlt => by cases hi; exact absurd hlt (by have := L116.size; have := hg36_10; omega))
   refine G.run 1 rfl (G.nil (E.thenN (WC.sr (W.run 8 rfl (W.nx (WC.condF rfl (WC.sn (WC.sr ?_))))))))
   refine W.a (.field0 fa60_1 rfl) ?_
   have f122 := ((f118.le h36_10).ch h36_11 (fun h => (show g36_10 ≠ g35_2 from by have := f118.lt; omega) (oI h)))
   refine W.r (.bpart [.int .i64 ((seats.getD k4 noSeat).p0), .int .i64 ((seats.getD k4 noSeat).p1)] ag48 rfl (by decide) rfl f122 rfl) ?_
   refine W.run 1 rfl (W.nx (WC.block ?_))
   have f123 := ((((f4_5.le h35_2).ch h35_3 (fun q hq => by cases hq; exact (fun he => by have := (f4_5.row he).2; omega))).le (d36.trans h36_10)).ch h36_11 (fun q hq => by cases hq; exact (fun he => by have := (f4_5.row he).2; have := h35_2.size; have := h35_3.size; have := d36.size; omega)))
   have f124 := ((f117.le h36_10).ch h36_11 (fun h => (show g36_10 ≠ gp from by have := f117.lt; omega) (oI h)))
   have f125 := ((((f4_1.le h35_2).ch h35_3 (fun q hq => by cases hq; exact (fun he => by have := (f4_1.row he).2; omega))).le (d36.trans h36_10)).ch h36_11 (fun q hq => by cases hq; exact (fun he => by have := (f4_1.row he).2; have := h35_2.size; have := h35_3.size; have := d36.size; omega)))
   have f126 := ((f119.le h36_10).ch h36_11 (fun h => (show g36_10 ≠ gs from by have := f119.lt; omega) (oI h)))
   have f127 := ((((f4_3.le h35_2).ch h35_3 (fun h => (show g35_2 ≠ gh from by have := f4_3.lt; omega) (oI h))).le (d36.trans h36_10)).ch h36_11 (fun h => (show g36_10 ≠ gh from by have := f4_3.lt; have := h35_2.size; have := h35_3.size; have := d36.size; omega) (oI h)))
   have f128 := ((((f4_4.le h35_2).ch h35_3 (fun h => (show g35_2 ≠ g1_0 from by have := f4_4.lt; omega) (oI h))).le (d36.trans h36_10)).ch h36_11 (fun h => (show g36_10 ≠ g1_0 from by have := f4_4.lt; have := h35_2.size; have := h35_3.size; have := d36.size; omega) (oI h)))
   refine WC.loop (ι := Nat) (fun k5 => [(0, .pointer (some ⟨gp, 0, none⟩)), (1, .slice Ao no co), (2, .slice As ns cS), (3, .slice Af nf cf), (9, .map (some g1_0)), (16, .slice (some ⟨g16_2, 0, none⟩) nf nf), (25, .pointer (some ⟨g35_2, 0, none⟩)), (141, .slice As ns cS), (142, .int .i64 (((ns : Nat) : Int))), (143, .int .i64 (((k4 : Nat) : Int))), (166, .agg #[.int .i64 ((seats.getD k4 noSeat).p0), .int .i64 ((seats.getD k4 noSeat).p1)]), (167, .int .i64 (((k5 : Nat) : Int)))]) (fun k5 wl5 => (k5 <= 2) /\ ChP w wl5 (LF gp gs gh A c) /\ w36_11.heap.size <= wl5.heap.size /\ Blk wl5 gp 100 #[.slice A own.length c, .map (some gs), .map (some gh), .int .i64 (lost)] /\ OVec wl5 0 3 iv 1 A own.length c own /\ MapG wl5 ikf seatf gs ls cs /\ MapG wl5 plf holdf gh lh ck /\ MapG wl5 ikf Value.bool g1_0 lg cg /\ OVec wl5 w14_3.heap.size 3 iv 1 (some ⟨g16_2, 0, none⟩) nf nf (subS (comeO (goneO own.length ls old) (seats.take k4)) (seats.getD k4 noSeat) k5) /\ Blk wl5 g35_2 60 (seatV (seats.getD k4 noSeat)).toArray) (fun k5 => 2 - k5) 0 ?_ ?_ ?_
   ·exact .cons rfl (.cons rfl (.cons rfl (.cons rfl (.cons rfl (.cons rfl (.cons rfl (.cons rfl (.cons rfl (.cons rfl (.cons rfl (.cons rfl (.nil _))))))))))))
   ·exact ⟨Nat.zero_le _, L121, Nat.le_refl _, f124, f125, f126, f127, f128, f123, f122⟩
   rintro k5 wl5 ⟨hk5, Ll5, zl5, f5_0, f5_1, f5_2, f5_3, f5_4, f5_5, f5_6⟩
   have lb5_11 : w14_3.heap.size <= wl5.heap.size := Nat.le_trans lb4_11 (by have := h35_2.size; have := h35_3.size; have := d36.size; have := h36_10.size; have := h36_11.size; omega)
   have hm4 := may_ok (hok.2.1.2 _ (getD_mem (z := noSeat) (show k4 < seats.length by omega)))
   have hpz := hm4.1
   have hab := subS_at hm4.2.2.2.1 hm4.2.2.2.2 hcb k5 hk5
   refine WC.sr (W.run 1 rfl (W.nx (WC.seq ?_)))
   by_cases c9 : ((k5 : Nat) : Int) < 2
   ·refine WC.condY rfl (decide_eq_true c9) ?_
    refine WC.sn (WC.seq (WC.block (WC.sr (W.run 1 rfl ?_))))
    refine W.a (.index1 (v := .int .i64 (((seats.getD k4 noSeat).p k5))) (k5) underlying48 sz3 na3 rfl rfl (rfl) (by omega) (seatP_ix (seats.getD k4 noSeat) (by omega))) ?_
    refine W.run 2 rfl (W.nx ?_)
    refine WC.draw [0, 1, 2, 3, 4, 5, 6, 7, 8, 9, 10] mixed (by kernel_rfl) ?_
    intro w42 d42
    have L129 := Ll5.le d42
    refine G.run 2 rfl ?_
    refine G.a rfl (.idxS (((seats.getD k4 noSeat).p k5).toNat) underlying56 sz3 rfl rfl (o16_2.vec.isSome iv_row (by omega)) (by have := (seatOk_at hm4 (k := k5) (by omega)).1; omega) (by have := (seatOk_at hm4 (k := k5) (by omega)).1; omega)) ?_
    have f130 := (f5_5.le d42)
    refine G.r rfl (.vone (v := .int .i64 (((subS (comeO (goneO own.length ls old) (seats.take k4)) (seats.getD k4 noSeat) k5).getD (((seats.getD k4 noSeat).p k5).toNat) 0))) na3 rfl f130.vec iv_row (getS (subS (comeO (goneO own.length ls old) (seats.take k4)) (seats.getD k4 noSeat) k5) 0 (by rw [subS_len, comeO_len, goneO_len]; have := (seatOk_at hm4 (k := k5) (by omega)).1; omega)) rfl) ?_
    refine G.run 1 rfl ?_
    refine G.a rfl (.field0 fa60_2 rfl) ?_
    refine G.a rfl (.idxAo (k5) underlying48 sz3 rfl rfl (rfl) (by omega)) ?_
    have f131 := (f5_6.le d42)
    refine G.r rfl (.loadB (v := .int .i64 (((seats.getD k4 noSeat).h k5))) na3 rfl f131 (seatH_at (seats.getD k4 noSeat) (by omega))) ?_
    refine G.a rfl (.sub rfl rfl (by have := hab ((seats.getD k4 noSeat).p k5).toNat; have := (seatOk_at hm4 (k := k5) (by omega)).2; omega)) ?_
    refine G.a rfl (.idxS (((seats.getD k4 noSeat).p k5).toNat) underlying56 sz3 rfl rfl (o16_2.vec.isSome iv_row (by omega)) (by have := (seatOk_at hm4 (k := k5) (by omega)).1; omega) (by have := (seatOk_at hm4 (k := k5) (by omega)).1; omega)) ?_
    refine G.ef0 rfl rfl rfl rfl ?_
    refine Ef.vset (j := ((seats.getD k4 noSeat).p k5).toNat) (o := 0) (((subS (comeO (goneO own.length ls old) (seats.take k4)) (seats.getD k4 noSeat) k5).getD (((seats.getD k4 noSeat).p k5).toNat) 0) - ((seats.getD k4 noSeat).h k5)) sz3 rfl (by omega) rfl f130 iv_row (getS (subS (comeO (goneO own.length ls old) (seats.take k4)) (seats.getD k4 noSeat) k5) 0 (by rw [subS_len, comeO_len, goneO_len]; have := (seatOk_at hm4 (k := k5) (by omega)).1; omega)) (by decide) rfl rfl ?_
    intro w42_10 o42_10 h42_10
    refine noT (by kernel_rfl) ?_
    have L132 : ChP w w42_10 (LF gp gs gh A c) := L129.ch h42_10 (fun i hi hlt => absurd hlt (by have := (f130.row hi).1; have := L57.size; omega))
    refine G.nil (E.blkN (E.thenN (WC.region ?_)))
    refine W.a (.add rfl rfl (by omega)) ?_
    refine W.run 1 rfl (W.nil ?_)
    have f133 := ((f5_0.le d42).ch h42_10 (fun he => by have := (f130.row he).1; have := f1_0.lt; have := h14_3.size; omega))
    have f134 := ((f5_1.le d42).ch h42_10 ((Apart.symm (fun q h1 h2 => by have := (f1_1.row h1).2; have := (f130.row h2).1; have := h14_3.size; omega))))
    have f135 := ((f5_2.le d42).ch h42_10 (fun he => by have := (f130.row he).1; have := f1_2.lt; have := h14_3.size; omega))
    have f136 := ((f5_3.le d42).ch h42_10 (fun he => by have := (f130.row he).1; have := f1_3.lt; have := h14_3.size; omega))
    have f137 := ((f5_4.le d42).ch h42_10 (fun he => by have := (f130.row he).1; have := f1_4.lt; have := h14_3.size; omega))
    have f138 := (f131.ch h42_10 (fun he => by have := (f4_5.row he).2; omega))
    refine E.again (k5 + 1) (.cons rfl (.cons rfl (.cons rfl (.cons rfl (.cons rfl (.cons rfl (.cons rfl (.cons rfl (.cons rfl (.cons rfl (.cons rfl (.cons rfl (.nil _))))))))))))) ?_ ?_
    ·exact ⟨by omega, L132, by have := zl5; have := d42.size; have := h42_10.size; omega, f133, f134, f135, f136, f137, o42_10, f138⟩
    first | omega | (simp only []; omega)
   refine WC.condN rfl (decide_eq_false c9) ?_
   refine WC.exit (E.thenX (E.thenX (E.blkH (E.blkN (E.thenN (WC.region ?_))))))
   refine W.a (.add rfl rfl (by omega)) ?_
   refine W.run 1 rfl (W.nil ?_)
   refine E.again (k4 + 1) (.cons rfl (.cons rfl (.cons rfl (.cons rfl (.cons rfl (.cons rfl (.cons rfl (.cons rfl (.cons rfl (.nil _)))))))))) ?_ ?_
   ·exact ⟨by omega, fun i hi => (Nat.lt_succ_iff_lt_or_eq.1 hi).elim (hnt i) (fun hh => by subst hh; exact fun h => h.1 hk36_6), Ll5, by have := zl4; have := zl0; have := zl1; have := zl2; have := zl5; have := sc2; have := h1_0.size; have := h1_1.size; have := h14_3.size; have := h16_2.size; have := h35_2.size; have := h35_3.size; have := d36.size; have := h36_10.size; have := h36_11.size; omega, f5_0, f5_1, f5_2, f5_3, f5_4, (f5_5.cast rfl (by have e5 : k5 = 2 := (by omega); rw [e5, comeO_next (by omega)]))⟩
   first | omega | (simp only []; omega)
  have f139 := (((f4_2.le h35_2).ch h35_3 (fun h => (show g35_2 ≠ gs from by have := f4_2.lt; omega) (oI h))).le d36)
  refine G.r rfl (.as (.lookup2 (key := ((seats.getD k4 noSeat).ch)) underlying97 kint z60 rfl rfl f139) (by rw [hk36_6] <;> rfl)) ?_
  refine G.run 1 rfl ?_
  refine G.a rfl (.extract (v := .agg (seatV vhk36_6).toArray) rfl rfl) ?_
  refine G.run 1 rfl ?_
  refine G.ef rfl rfl rfl rfl rfl ?_
  refine Ef.allocA z60 ?_
  intro g36_10_1 w36_10_1 hg36_10_1 b36_10_1 h36_10_1
  refine ⟨fun _ => h36_10_1, ?_⟩
  have L140 := L116.le h36_10_1
  have b36_10_1 : Blk w36_10_1 g36_10_1 60 (seatV noSeat).toArray := b36_10_1
  refine G.ef0 rfl rfl rfl rfl ?_
  refine Ef.storeAll sz60 (by rfl) rfl rfl b36_10_1 (by simp only [List.size_toArray, seatV_row.len]) (seatV_row.one vhk36_6) ?_
  intro w36_11_1 b36_11_1 h36_11_1
  refine noT (by kernel_rfl) ?_
  have b36_11_1 : Blk w36_11_1 g36_10_1 60 (seatV vhk36_6).toArray := b36_11_1
  have L141 : ChP w w36_11_1 (LF gp gs gh A c) := L140.ch h36_11_1 (fun i hi hlt => by cases hi; exact absurd hlt (by have := L116.size; have := hg36_10_1; omega))
  refine G.run 1 rfl (G.nil (E.thenN (WC.sr (W.run 3 rfl ?_))))
  refine W.g (Any.rd (.field0 fa60_0 rfl) _) ?_
  have f142 := ((f118.le h36_10_1).ch h36_11_1 (fun h => (show g36_10_1 ≠ g35_2 from by have := f118.lt; omega) (oI h)))
  refine W.g (.loadB (v := .int .i64 ((seats.getD k4 noSeat).ch)) na3 rfl f142 rfl) ?_
  rcases optG (getG ((seats.getD k4 noSeat).ch) lg) with hk37_5 | ⟨vhk37_5, hk37_5⟩
  ·have f143 := ((((f4_4.le h35_2).ch h35_3 (fun h => (show g35_2 ≠ g1_0 from by have := f4_4.lt; omega) (oI h))).le (d36.trans h36_10_1)).ch h36_11_1 (fun h => (show g36_10_1 ≠ g1_0 from by have := f4_4.lt; have := h35_2.size; have := h35_3.size; have := d36.size; omega) (oI h)))
   refine W.g (.as (.lookup1 (key := ((seats.getD k4 noSeat).ch)) underlying122 kint z4 rfl rfl f143) (by rw [hk37_5] <;> rfl)) ?_
   refine W.run 2 rfl (W.nx (WC.condT rfl (WC.sr (W.run 1 rfl (W.nx (WC.ret (E.thenR (E.blkR (E.thenR (E.thenR (E.blkR (E.thenR ?_))))))))))))
   have f144 := ((f117.le h36_10_1).ch h36_11_1 (fun h => (show g36_10_1 ≠ gp from by have := f117.lt; omega) (oI h)))
   have f145 := ((((f4_1.le h35_2).ch h35_3 (fun q hq => by cases hq; exact (fun he => by have := (f4_1.row he).2; omega))).le (d36.trans h36_10_1)).ch h36_11_1 (fun q hq => by cases hq; exact (fun he => by have := (f4_1.row he).2; have := h35_2.size; have := h35_3.size; have := d36.size; omega)))
   have f146 := ((f139.le h36_10_1).ch h36_11_1 (fun h => (show g36_10_1 ≠ gs from by have := f139.lt; omega) (oI h)))
   have f147 := ((((f4_3.le h35_2).ch h35_3 (fun h => (show g35_2 ≠ gh from by have := f4_3.lt; omega) (oI h))).le (d36.trans h36_10_1)).ch h36_11_1 (fun h => (show g36_10_1 ≠ gh from by have := f4_3.lt; have := h35_2.size; have := h35_3.size; have := d36.size; omega) (oI h)))
   refine E.retG1 rfl rfl ?_
   have e9 : cutC own.length ls lh old seats fee = 4 := cutC_4 hok ht5 ht14 (by omega) ⟨by rw [hk36_6]; simp, hmo.not hk37_5⟩; exact ⟨L141, by rw [e9], .inl ⟨by rw [e9]; decide, ⟨f144, f145, f146, f147, n1, n2, n3, n4, n5, n6⟩⟩⟩
  have f148 := ((((f4_4.le h35_2).ch h35_3 (fun h => (show g35_2 ≠ g1_0 from by have := f4_4.lt; omega) (oI h))).le (d36.trans h36_10_1)).ch h36_11_1 (fun h => (show g36_10_1 ≠ g1_0 from by have := f4_4.lt; have := h35_2.size; have := h35_3.size; have := d36.size; omega) (oI h)))
  refine W.g (.as (.lookup1 (key := ((seats.getD k4 noSeat).ch)) underlying122 kint z4 rfl rfl f148) (by rw [hk37_5] <;> rfl)) ?_
  refine W.run 2 rfl (W.nx ?_)
  refine WC.condN rfl (congrArg not ((hmo.val hk37_5).1)) ?_
  refine WC.sn (WC.sr ?_)
  refine W.a (.field0 fa60_1 rfl) ?_
  refine W.r (.bpart [.int .i64 ((seats.getD k4 noSeat).p0), .int .i64 ((seats.getD k4 noSeat).p1)] ag48 rfl (by decide) rfl f142 rfl) ?_
  refine W.run 1 rfl (W.nx (WC.block ?_))
  have f149 := ((((f4_5.le h35_2).ch h35_3 (fun q hq => by cases hq; exact (fun he => by have := (f4_5.row he).2; omega))).le (d36.trans h36_10_1)).ch h36_11_1 (fun q hq => by cases hq; exact (fun he => by have := (f4_5.row he).2; have := h35_2.size; have := h35_3.size; have := d36.size; omega)))
  have f150 := ((f117.le h36_10_1).ch h36_11_1 (fun h => (show g36_10_1 ≠ gp from by have := f117.lt; omega) (oI h)))
  have f151 := ((((f4_1.le h35_2).ch h35_3 (fun q hq => by cases hq; exact (fun he => by have := (f4_1.row he).2; omega))).le (d36.trans h36_10_1)).ch h36_11_1 (fun q hq => by cases hq; exact (fun he => by have := (f4_1.row he).2; have := h35_2.size; have := h35_3.size; have := d36.size; omega)))
  have f152 := ((f139.le h36_10_1).ch h36_11_1 (fun h => (show g36_10_1 ≠ gs from by have := f139.lt; omega) (oI h)))
  have f153 := ((((f4_3.le h35_2).ch h35_3 (fun h => (show g35_2 ≠ gh from by have := f4_3.lt; omega) (oI h))).le (d36.trans h36_10_1)).ch h36_11_1 (fun h => (show g36_10_1 ≠ gh from by have := f4_3.lt; have := h35_2.size; have := h35_3.size; have := d36.size; omega) (oI h)))
  refine WC.loop (ι := Nat) (fun k5 => [(0, .pointer (some ⟨gp, 0, none⟩)), (1, .slice Ao no co), (2, .slice As ns cS), (3, .slice Af nf cf), (9, .map (some g1_0)), (16, .slice (some ⟨g16_2, 0, none⟩) nf nf), (25, .pointer (some ⟨g35_2, 0, none⟩)), (141, .slice As ns cS), (142, .int .i64 (((ns : Nat) : Int))), (143, .int .i64 (((k4 : Nat) : Int))), (166, .agg #[.int .i64 ((seats.getD k4 noSeat).p0), .int .i64 ((seats.getD k4 noSeat).p1)]), (167, .int .i64 (((k5 : Nat) : Int)))]) (fun k5 wl5 => (k5 <= 2) /\ ChP w wl5 (LF gp gs gh A c) /\ w36_11_1.heap.size <= wl5.heap.size /\ Blk wl5 gp 100 #[.slice A own.length c, .map (some gs), .map (some gh), .int .i64 (lost)] /\ OVec wl5 0 3 iv 1 A own.length c own /\ MapG wl5 ikf seatf gs ls cs /\ MapG wl5 plf holdf gh lh ck /\ MapG wl5 ikf Value.bool g1_0 lg cg /\ OVec wl5 w14_3.heap.size 3 iv 1 (some ⟨g16_2, 0, none⟩) nf nf (subS (comeO (goneO own.length ls old) (seats.take k4)) (seats.getD k4 noSeat) k5) /\ Blk wl5 g35_2 60 (seatV (seats.getD k4 noSeat)).toArray) (fun k5 => 2 - k5) 0 ?_ ?_ ?_
  ·exact .cons rfl (.cons rfl (.cons rfl (.cons rfl (.cons rfl (.cons rfl (.cons rfl (.cons rfl (.cons rfl (.cons rfl (.cons rfl (.cons rfl (.nil _))))))))))))
  ·exact ⟨Nat.zero_le _, L141, Nat.le_refl _, f150, f151, f152, f153, f148, f149, f142⟩
  rintro k5 wl5 ⟨hk5, Ll5, zl5, f5_0, f5_1, f5_2, f5_3, f5_4, f5_5, f5_6⟩
  have lb5_11 : w14_3.heap.size <= wl5.heap.size := Nat.le_trans lb4_11 (by have := h35_2.size; have := h35_3.size; have := d36.size; have := h36_10_1.size; have := h36_11_1.size; omega)
  have hm4 := may_ok (hok.2.1.2 _ (getD_mem (z := noSeat) (show k4 < seats.length by omega)))
  have hpz := hm4.1
  have hab := subS_at hm4.2.2.2.1 hm4.2.2.2.2 hcb k5 hk5
  refine WC.sr (W.run 1 rfl (W.nx (WC.seq ?_)))
  by_cases c9 : ((k5 : Nat) : Int) < 2
  ·refine WC.condY rfl (decide_eq_true c9) ?_
   refine WC.sn (WC.seq (WC.block (WC.sr (W.run 1 rfl ?_))))
   refine W.a (.index1 (v := .int .i64 (((seats.getD k4 noSeat).p k5))) (k5) underlying48 sz3 na3 rfl rfl (rfl) (by omega) (seatP_ix (seats.getD k4 noSeat) (by omega))) ?_
   refine W.run 2 rfl (W.nx ?_)
   refine WC.draw [0, 1, 2, 3, 4, 5, 6, 7, 8, 9, 10] mixed (by kernel_rfl) ?_
   intro w42 d42
   have L154 := Ll5.le d42
   refine G.run 2 rfl ?_
   refine G.a rfl (.idxS (((seats.getD k4 noSeat).p k5).toNat) underlying56 sz3 rfl rfl (o16_2.vec.isSome iv_row (by omega)) (by have := (seatOk_at hm4 (k := k5) (by omega)).1; omega) (by have := (seatOk_at hm4 (k := k5) (by omega)).1; omega)) ?_
   have f155 := (f5_5.le d42)
   refine G.r rfl (.vone (v := .int .i64 (((subS (comeO (goneO own.length ls old) (seats.take k4)) (seats.getD k4 noSeat) k5).getD (((seats.getD k4 noSeat).p k5).toNat) 0))) na3 rfl f155.vec iv_row (getS (subS (comeO (goneO own.length ls old) (seats.take k4)) (seats.getD k4 noSeat) k5) 0 (by rw [subS_len, comeO_len, goneO_len]; have := (seatOk_at hm4 (k := k5) (by omega)).1; omega)) rfl) ?_
   refine G.run 1 rfl ?_
   refine G.a rfl (.field0 fa60_2 rfl) ?_
   refine G.a rfl (.idxAo (k5) underlying48 sz3 rfl rfl (rfl) (by omega)) ?_
   have f156 := (f5_6.le d42)
   refine G.r rfl (.loadB (v := .int .i64 (((seats.getD k4 noSeat).h k5))) na3 rfl f156 (seatH_at (seats.getD k4 noSeat) (by omega))) ?_
   refine G.a rfl (.sub rfl rfl (by have := hab ((seats.getD k4 noSeat).p k5).toNat; have := (seatOk_at hm4 (k := k5) (by omega)).2; omega)) ?_
   refine G.a rfl (.idxS (((seats.getD k4 noSeat).p k5).toNat) underlying56 sz3 rfl rfl (o16_2.vec.isSome iv_row (by omega)) (by have := (seatOk_at hm4 (k := k5) (by omega)).1; omega) (by have := (seatOk_at hm4 (k := k5) (by omega)).1; omega)) ?_
   refine G.ef0 rfl rfl rfl rfl ?_
   refine Ef.vset (j := ((seats.getD k4 noSeat).p k5).toNat) (o := 0) (((subS (comeO (goneO own.length ls old) (seats.take k4)) (seats.getD k4 noSeat) k5).getD (((seats.getD k4 noSeat).p k5).toNat) 0) - ((seats.getD k4 noSeat).h k5)) sz3 rfl (by omega) rfl f155 iv_row (getS (subS (comeO (goneO own.length ls old) (seats.take k4)) (seats.getD k4 noSeat) k5) 0 (by rw [subS_len, comeO_len, goneO_len]; have := (seatOk_at hm4 (k := k5) (by omega)).1; omega)) (by decide) rfl rfl ?_
   intro w42_10_1 o42_10_1 h42_10_1
   refine noT (by kernel_rfl) ?_
   have L157 : ChP w w42_10_1 (LF gp gs gh A c) := L154.ch h42_10_1 (fun i hi hlt => absurd hlt (by have := (f155.row hi).1; have := L57.size; omega))
   refine G.nil (E.blkN (E.thenN (WC.region ?_)))
   refine W.a (.add rfl rfl (by omega)) ?_
   refine W.run 1 rfl (W.nil ?_)
   have f158 := ((f5_0.le d42).ch h42_10_1 (fun he => by have := (f155.row he).1; have := f1_0.lt; have := h14_3.size; omega))
   have f159 := ((f5_1.le d42).ch h42_10_1 ((Apart.symm (fun q h1 h2 => by have := (f1_1.row h1).2; have := (f155.row h2).1; have := h14_3.size; omega))))
   have f160 := ((f5_2.le d42).ch h42_10_1 (fun he => by have := (f155.row he).1; have := f1_2.lt; have := h14_3.size; omega))
   have f161 := ((f5_3.le d42).ch h42_10_1 (fun he => by have := (f155.row he).1; have := f1_3.lt; have := h14_3.size; omega))
   have f162 := ((f5_4.le d42).ch h42_10_1 (fun he => by have := (f155.row he).1; have := f1_4.lt; have := h14_3.size; omega))
   have f163 := (f156.ch h42_10_1 (fun he => by have := (f4_5.row he).2; omega))
   refine E.again (k5 + 1) (.cons rfl (.cons rfl (.cons rfl (.cons rfl (.cons rfl (.cons rfl (.cons rfl (.cons rfl (.cons rfl (.cons rfl (.cons rfl (.cons rfl (.nil _))))))))))))) ?_ ?_
   ·exact ⟨by omega, L157, by have := zl5; have := d42.size; have := h42_10_1.size; omega, f158, f159, f160, f161, f162, o42_10_1, f163⟩
   first | omega | (simp only []; omega)
  refine WC.condN rfl (decide_eq_false c9) ?_
  refine WC.exit (E.thenX (E.thenX (E.blkH (E.blkN (E.thenN (WC.region ?_))))))
  refine W.a (.add rfl rfl (by omega)) ?_
  refine W.run 1 rfl (W.nil ?_)
  refine E.again (k4 + 1) (.cons rfl (.cons rfl (.cons rfl (.cons rfl (.cons rfl (.cons rfl (.cons rfl (.cons rfl (.cons rfl (.nil _)))))))))) ?_ ?_
  ·exact ⟨by omega, fun i hi => (Nat.lt_succ_iff_lt_or_eq.1 hi).elim (hnt i) (fun hh => by subst hh; exact fun h => h.2 (hmo.val hk37_5).2), Ll5, by have := zl4; have := zl0; have := zl1; have := zl2; have := zl5; have := sc2; have := h1_0.size; have := h1_1.size; have := h14_3.size; have := h16_2.size; have := h35_2.size; have := h35_3.size; have := d36.size; have := h36_10_1.size; have := h36_11_1.size; omega, f5_0, f5_1, f5_2, f5_3, f5_4, (f5_5.cast rfl (by have e5 : k5 = 2 := (by omega); rw [e5, comeO_next (by omega)]))⟩
  first | omega | (simp only []; omega)
 refine WC.condN rfl (decide_eq_false c7) ?_
 have ht4 := not_there hnt (by omega)
 refine WC.exit (E.thenX (E.thenX (E.blkH (E.thenN (WC.seq (WC.sr (W.run 2 rfl ?_)))))))
 refine W.cl go53 rfl rfl (eqints_ok wl4 f4_5.vec (hf.chP Ll4 hfa) (by omega)) ?_
 rintro _ w45_2 ⟨rfl, h45_2⟩
 have L164 := Ll4.le h45_2
 refine W.run 1 rfl (W.nx ?_)
 by_cases c10 : (comeO (goneO own.length ls old) (seats.take k4)) = fee
 ·refine WC.condN rfl (congrArg not (decide_eq_true c10)) ?_
  refine WC.sn (WC.seq (WC.sr (W.run 1 rfl ?_)))
  refine W.r (.len underlying56 rfl) ?_
  refine W.run 1 rfl (W.nx (WC.block ?_))
  have f165 := (f4_2.le h45_2)
  have f166 := (f4_0.le h45_2)
  have f167 := (f4_1.le h45_2)
  have f168 := (f4_3.le h45_2)
  refine WC.loop (ι := Nat × SM) (fun ⟨k6, lm⟩ => [(0, .pointer (some ⟨gp, 0, none⟩)), (2, .slice As ns cS), (3, .slice Af nf cf), (187, .slice Ao no co), (188, .int .i64 (((no : Nat) : Int))), (189, .int .i64 (((k6 : Nat) : Int)))]) (fun ⟨k6, lm⟩ wl6 => (k6 <= no) /\ (lm = delAll ls (old.take k6)) /\ ChP w wl6 (LF gp gs gh A c) /\ w45_2.heap.size <= wl6.heap.size /\ Blk wl6 gp 100 #[.slice A own.length c, .map (some gs), .map (some gh), .int .i64 (lost)] /\ OVec wl6 0 3 iv 1 A own.length c own /\ MapG wl6 ikf seatf gs lm cs /\ MapG wl6 plf holdf gh lh ck) (fun ⟨k6, lm⟩ => no - k6) (0, ls) ?_ ?_ ?_
  ·exact .cons rfl (.cons rfl (.cons rfl (.cons rfl (.cons rfl (.cons rfl (.nil _))))))
  ·exact ⟨Nat.zero_le _, rfl, L164, Nat.le_refl _, f166, f167, f165, f168⟩
  rintro ⟨k6, lm⟩ wl6 ⟨hk6, hlm, Ll6, zl6, f6_0, f6_1, f6_2, f6_3⟩
  refine WC.sr (W.run 1 rfl (W.nx (WC.seq ?_)))
  by_cases c11 : ((k6 : Nat) : Int) < ((no : Nat) : Int)
  ·refine WC.condY rfl (decide_eq_true c11) ?_
   refine WC.sn (WC.seq (WC.block (WC.sr ?_)))
   refine W.a (.idxS (k6) underlying56 sz3 rfl rfl (ho.isSome iv_row (by omega)) (rfl) (by omega)) ?_
   refine W.r (.vone (v := .int .i64 ((old.getD k6 0))) na3 rfl (ho.chP Ll6 hoa) iv_row (getS old 0 (by omega)) rfl) ?_
   refine W.run 1 rfl (W.nx (WC.region (W.run 1 rfl ?_)))
   refine W.a (.nilCheck rfl) ?_
   refine W.a (.field0 fa100_1 rfl) ?_
   refine W.r (.loadB (v := .map (some gs)) na97 rfl f6_0 rfl) ?_
   refine W.run 1 rfl ?_
   refine W.ef0 rfl rfl ?_
   refine Ef.deleteG (key := (old.getD k6 0)) underlying97 kint rfl rfl f6_2 ?_
   intro w50_5 b50_5 h50_5
   have L169 : ChP w w50_5 (LF gp gs gh A c) := Ll6.ch h50_5 (fun i hi _ => by cases hi; exact Or.inr (Or.inl rfl))
   refine W.nil (E.blkN (E.thenN (WC.region ?_)))
   refine W.a (.add rfl rfl (by omega)) ?_
   refine W.run 1 rfl (W.nil ?_)
   have f170 := (f6_0.ch h50_5 (fun h => (Ne.symm n1) (oI h)))
   have f171 := (f6_1.ch h50_5 (fun q hq => by cases hq; exact n5))
   have f172 := (f6_3.ch h50_5 (fun h => n3 (oI h)))
   refine E.again (k6 + 1, (delM (old.getD k6 0) lm)) (.cons rfl (.cons rfl (.cons rfl (.cons rfl (.cons rfl (.cons rfl (.nil _))))))) ?_ ?_
   ·exact ⟨by omega, by rw [delAll_next (by omega), <- hlm], L169, by have := zl6; have := h50_5.size; omega, f170, f171, b50_5, f172⟩
   first | omega | (simp only []; omega)
  refine WC.condN rfl (decide_eq_false c11) ?_
  refine WC.exit (E.thenX (E.thenX (E.blkH (E.thenN (WC.seq (WC.sr (W.run 1 rfl ?_)))))))
  refine W.r (.len underlying88 rfl) ?_
  refine W.run 1 rfl (W.nx (WC.block ?_))
  refine WC.loop (ι := Nat × SM × Nat) (fun ⟨k7, ln, cn⟩ => [(0, .pointer (some ⟨gp, 0, none⟩)), (3, .slice Af nf cf), (199, .slice As ns cS), (200, .int .i64 (((ns : Nat) : Int))), (201, .int .i64 (((k7 : Nat) : Int)))]) (fun ⟨k7, ln, cn⟩ wl7 => (k7 <= ns) /\ ((ln, cn) = putAll (lm, cs) (seats.take k7)) /\ ChP w wl7 (LF gp gs gh A c) /\ wl6.heap.size <= wl7.heap.size /\ Blk wl7 gp 100 #[.slice A own.length c, .map (some gs), .map (some gh), .int .i64 (lost)] /\ OVec wl7 0 3 iv 1 A own.length c own /\ MapG wl7 ikf seatf gs ln cn /\ MapG wl7 plf holdf gh lh ck) (fun ⟨k7, ln, cn⟩ => ns - k7) (0, lm, cs) ?_ ?_ ?_
  ·exact .cons rfl (.cons rfl (.cons rfl (.cons rfl (.cons rfl (.nil _)))))
  ·exact ⟨Nat.zero_le _, rfl, Ll6, Nat.le_refl _, f6_0, f6_1, f6_2, f6_3⟩
  rintro ⟨k7, ln, cn⟩ wl7 ⟨hk7, hln, Ll7, zl7, f7_0, f7_1, f7_2, f7_3⟩
  refine WC.sr (W.run 1 rfl (W.nx (WC.seq ?_)))
  by_cases c12 : ((k7 : Nat) : Int) < ((ns : Nat) : Int)
  ·refine WC.condY rfl (decide_eq_true c12) ?_
   refine WC.sn (WC.seq (WC.block (WC.sr ?_)))
   refine W.a (.idxS (k7) underlying88 sz60 rfl rfl (hs.isSome seatV_row (by omega)) (rfl) (by omega)) ?_
   refine W.r (.vload ag60 rfl (hs.chP Ll7 hsa) seatV_row (getS seats noSeat (by omega))) ?_
   refine W.ef rfl rfl rfl ?_
   refine Ef.allocA z60 ?_
   intro g54_2 w54_2 hg54_2 b54_2 h54_2
   have L173 := Ll7.le h54_2
   have b54_2 : Blk w54_2 g54_2 60 (seatV noSeat).toArray := b54_2
   refine W.ef0 rfl rfl ?_
   refine Ef.storeAll sz60 (by rfl) rfl rfl b54_2 (by simp only [List.size_toArray, seatV_row.len]) (seatV_row.one (seats.getD k7 noSeat)) ?_
   intro w54_3 b54_3 h54_3
   have b54_3 : Blk w54_3 g54_2 60 (seatV (seats.getD k7 noSeat)).toArray := b54_3
   have L174 : ChP w w54_3 (LF gp gs gh A c) := L173.ch h54_3 (fun i hi hlt => by cases hi; exact absurd hlt (by have := Ll7.size; have := hg54_2; omega))
   refine W.nx ?_
   refine WC.draw [0, 1, 2, 3, 4, 5, 6, 7] mixed (by kernel_rfl) ?_
   intro w55 d55
   have L175 := L174.le d55
   refine G.run 1 rfl ?_
   refine G.a rfl (.nilCheck rfl) ?_
   refine G.a rfl (.field0 fa100_1 rfl) ?_
   have f176 := (((f7_0.le h54_2).ch h54_3 (fun h => (show g54_2 ≠ gp from by have := f7_0.lt; omega) (oI h))).le d55)
   refine G.r rfl (.loadB (v := .map (some gs)) na97 rfl f176 rfl) ?_
   refine G.a rfl (.field0 fa60_0 rfl) ?_
   have f177 := (b54_3.le d55)
   refine G.r rfl (.loadB (v := .int .i64 ((seats.getD k7 noSeat).ch)) na3 rfl f177 rfl) ?_
   refine G.r rfl (.loadAll ag60 (by rfl) rfl f177) ?_
   rcases optG (getG ((seats.getD k7 noSeat).ch) ln) with hk55_7 | ⟨vhk55_7, hk55_7⟩
   ·have f178 := (((f7_2.le h54_2).ch h54_3 (fun h => (show g54_2 ≠ gs from by have := f7_2.lt; omega) (oI h))).le d55)
    refine G.ef0 rfl rfl rfl rfl ?_
    refine Ef.insertG (key := ((seats.getD k7 noSeat).ch)) (u := (seats.getD k7 noSeat)) underlying97 kint rfl rfl rfl f178 (hk55_7) ?_
    intro w55_7 b55_7 h55_7
    refine noT (by kernel_rfl) ?_
    have L179 : ChP w w55_7 (LF gp gs gh A c) := L175.ch h55_7 (fun i hi _ => by cases hi; exact Or.inr (Or.inl rfl))
    refine G.nil (E.blkN (E.thenN (WC.region ?_)))
    refine W.a (.add rfl rfl (by omega)) ?_
    refine W.run 1 rfl (W.nil ?_)
    have f180 := (f176.ch h55_7 (fun h => (Ne.symm n1) (oI h)))
    have f181 := ((((f7_1.le h54_2).ch h54_3 (fun q hq => by cases hq; exact (fun he => by have := (f7_1.row he).2; omega))).le d55).ch h55_7 (fun q hq => by cases hq; exact n5))
    have f182 := ((((f7_3.le h54_2).ch h54_3 (fun h => (show g54_2 ≠ gh from by have := f7_3.lt; omega) (oI h))).le d55).ch h55_7 (fun h => n3 (oI h)))
    refine E.again (k7 + 1, (ln ++ [(cn, (seats.getD k7 noSeat).ch, (seats.getD k7 noSeat))]), (cn + 1)) (.cons rfl (.cons rfl (.cons rfl (.cons rfl (.cons rfl (.nil _)))))) ?_ ?_
    ·exact ⟨by omega, by rw [putAll_next (by omega), <- hln, putS_none hk55_7], L179, by have := zl7; have := h54_2.size; have := h54_3.size; have := d55.size; have := h55_7.size; omega, f180, f181, b55_7, f182⟩
    first | omega | (simp only []; omega)
   have f183 := (((f7_2.le h54_2).ch h54_3 (fun h => (show g54_2 ≠ gs from by have := f7_2.lt; omega) (oI h))).le d55)
   refine G.ef0 rfl rfl rfl rfl ?_
   refine Ef.updateG (key := ((seats.getD k7 noSeat).ch)) (u := (seats.getD k7 noSeat)) underlying97 kint rfl rfl rfl f183 stay_i (hk55_7) ?_
   intro w55_7_1 b55_7_1 h55_7_1
   refine noT (by kernel_rfl) ?_
   have L184 : ChP w w55_7_1 (LF gp gs gh A c) := L175.ch h55_7_1 (fun i hi _ => by cases hi; exact Or.inr (Or.inl rfl))
   refine G.nil (E.blkN (E.thenN (WC.region ?_)))
   refine W.a (.add rfl rfl (by omega)) ?_
   refine W.run 1 rfl (W.nil ?_)
   have f185 := (f176.ch h55_7_1 (fun h => (Ne.symm n1) (oI h)))
   have f186 := ((((f7_1.le h54_2).ch h54_3 (fun q hq => by cases hq; exact (fun he => by have := (f7_1.row he).2; omega))).le d55).ch h55_7_1 (fun q hq => by cases hq; exact n5))
   have f187 := ((((f7_3.le h54_2).ch h54_3 (fun h => (show g54_2 ≠ gh from by have := f7_3.lt; omega) (oI h))).le d55).ch h55_7_1 (fun h => n3 (oI h)))
   refine E.again (k7 + 1, (updM (seats.getD k7 noSeat).ch (seats.getD k7 noSeat) ln), cn) (.cons rfl (.cons rfl (.cons rfl (.cons rfl (.cons rfl (.nil _)))))) ?_ ?_
   ·exact ⟨by omega, by rw [putAll_next (by omega), <- hln, putS_some hk55_7], L184, by have := zl7; have := h54_2.size; have := h54_3.size; have := d55.size; have := h55_7_1.size; omega, f185, f186, b55_7_1, f187⟩
   first | omega | (simp only []; omega)
  refine WC.condN rfl (decide_eq_false c12) ?_
  refine WC.exit (E.thenX (E.thenX (E.blkH (E.thenN (WC.seq (WC.sr (W.run 1 rfl ?_)))))))
  refine W.r (.len underlying56 rfl) ?_
  refine W.run 1 rfl (W.nx (WC.block ?_))
  refine WC.loop (ι := Nat × Int) (fun ⟨k8, lo⟩ => [(0, .pointer (some ⟨gp, 0, none⟩)), (213, .slice Af nf cf), (214, .int .i64 (((nf : Nat) : Int))), (215, .int .i64 (((k8 : Nat) : Int)))]) (fun ⟨k8, lo⟩ wl8 => (k8 <= nf) /\ (lo = lost + (fee.take k8).sum) /\ ChP w wl8 (LF gp gs gh A c) /\ wl7.heap.size <= wl8.heap.size /\ Blk wl8 gp 100 #[.slice A own.length c, .map (some gs), .map (some gh), .int .i64 (lo)] /\ OVec wl8 0 3 iv 1 A own.length c own /\ MapG wl8 ikf seatf gs ln cn /\ MapG wl8 plf holdf gh lh ck) (fun ⟨k8, lo⟩ => nf - k8) (0, lost) ?_ ?_ ?_
  ·exact .cons rfl (.cons rfl (.cons rfl (.cons rfl (.nil _))))
  ·exact ⟨Nat.zero_le _, by simp, Ll7, Nat.le_refl _, f7_0, f7_1, f7_2, f7_3⟩
  rintro ⟨k8, lo⟩ wl8 ⟨hk8, hlo, Ll8, zl8, f8_0, f8_1, f8_2, f8_3⟩
  have hcs := coins_at hok.2.2 k8 (by omega)
  refine WC.sr (W.run 1 rfl (W.nx (WC.seq ?_)))
  by_cases c13 : ((k8 : Nat) : Int) < ((nf : Nat) : Int)
  ·refine WC.condY rfl (decide_eq_true c13) ?_
   refine WC.sn (WC.seq (WC.block (WC.sr ?_)))
   refine W.a (.idxS (k8) underlying56 sz3 rfl rfl (hf.isSome iv_row (by omega)) (rfl) (by omega)) ?_
   refine W.r (.vone (v := .int .i64 ((fee.getD k8 0))) na3 rfl (hf.chP Ll8 hfa) iv_row (getS fee 0 (by omega)) rfl) ?_
   refine W.run 1 rfl (W.nx (WC.region (W.run 1 rfl ?_)))
   refine W.a (.nilCheck rfl) ?_
   refine W.a (.field0 fa100_3 rfl) ?_
   refine W.r (.loadB (v := .int .i64 (lo)) na3 rfl f8_0 rfl) ?_
   refine W.run 1 rfl ?_
   refine W.a (.add rfl rfl (by have := coin_at hok.2.2 (show k8 < fee.length by omega); omega)) ?_
   refine W.a (.nilCheck rfl) ?_
   refine W.a (.field0 fa100_3 rfl) ?_
   refine W.ef0 rfl rfl ?_
   refine Ef.store sz3 rfl rfl f8_0 (by first | decide | (simp; done)) (rfl) ?_
   intro w60_8 b60_8 h60_8
   have b60_8 : Blk w60_8 gp 100 #[.slice A own.length c, .map (some gs), .map (some gh), .int .i64 ((lo + (fee.getD k8 0)))] := b60_8
   have L188 : ChP w w60_8 (LF gp gs gh A c) := Ll8.ch h60_8 (fun i hi _ => by cases hi; exact Or.inl rfl)
   refine W.nil (E.blkN (E.thenN (WC.region ?_)))
   refine W.a (.add rfl rfl (by omega)) ?_
   refine W.run 1 rfl (W.nil ?_)
   have f189 := (f8_1.ch h60_8 (fun q hq => by cases hq; exact n4))
   have f190 := (f8_2.ch h60_8 (fun h => n1 (oI h)))
   have f191 := (f8_3.ch h60_8 (fun h => n2 (oI h)))
   refine E.again (k8 + 1, (lo + (fee.getD k8 0))) (.cons rfl (.cons rfl (.cons rfl (.cons rfl (.nil _))))) ?_ ?_
   ·exact ⟨by omega, by rw [sum_take_next (by omega)]; omega, L188, by have := zl8; have := h60_8.size; omega, b60_8, f189, f190, f191⟩
   first | omega | (simp only []; omega)
  refine WC.condN rfl (decide_eq_false c13) ?_
  refine WC.exit (E.thenX (E.thenX (E.blkH (E.thenN (WC.sr (W.run 1 rfl (W.nx (WC.ret ?_))))))))
  refine E.retG1 rfl rfl ?_
  have e9 : cutC own.length ls lh old seats fee = 0 := cutC_ok hok ht5 ht14 ht4 (by rw [List.take_of_length_le (by omega)] at c10; exact c10); have e1 : cutLs ls cs old seats = (ln, cn) := (by rw [hln, hlm, List.take_of_length_le (by omega), List.take_of_length_le (by omega)]; rfl); have e2 : lost + fee.sum = lo := (by rw [hlo, List.take_of_length_le (by omega)]); exact ⟨Ll8, by rw [e9], .inr ⟨e9, by rw [e1, e2]; exact ⟨f8_0, f8_1, f8_2, f8_3, n1, n2, n3, n4, n5, n6⟩⟩⟩
 refine WC.condY rfl (congrArg not (decide_eq_false c10)) ?_
 refine WC.sr (W.run 1 rfl (W.nx (WC.ret (E.thenR ?_))))
 have f192 := (f4_0.le h45_2)
 have f193 := (f4_1.le h45_2)
 have f194 := (f4_2.le h45_2)
 have f195 := (f4_3.le h45_2)
 refine E.retG1 rfl rfl ?_
 have e9 : cutC own.length ls lh old seats fee = 8 := cutC_8 hok ht5 ht14 ht4 (by rw [List.take_of_length_le (by omega)] at c10; exact c10); exact ⟨L164, by rw [e9], .inl ⟨by rw [e9]; decide, ⟨f192, f193, f194, f195, n1, n2, n3, n4, n5, n6⟩⟩⟩
end Go.Proofs.YtgpaekbdbpkogaaGreat

namespace Go.Proofs.YtgpaekbdbpkogaaGreat
open Tryz
open Go Go.Sx Go.Num Go.Gsp Go.Lsp
set_option maxRecDepth 20000
theorem rowOf_of {A : Option Addr} {c q : Nat} (h : blkOf A = some q) (hc : 0 < c) : rowOf A c = some q := by
  unfold rowOf
  rw [if_neg (by omega)]
  exact h
def GrownL (w : World) (F F' : Nat -> Prop) : Prop := ∀ k, F' k -> F k \/ w.heap.size <= k
def LPool (w : World) (base gp : Nat) (F : Nat -> Prop) (s : Led) : Prop := ∃ gs gh A c, LedL w gp gs gh A c s.cs s.ck s.own s.ls s.lh s.lost /\ GoodL s /\ (∀ k, F k ↔ LF gp gs gh A c k) /\ ∀ k, F k -> base <= k
section
variable {w w' : World} {base gp : Nat} {F : Nat -> Prop} {s : Led}
theorem LPool.chP {F' : Nat -> Prop} (h : LPool w base gp F s) (hc : ChP w w' F') (hne : ∀ k, F k -> ¬ F' k) : LPool w' base gp F s := by
  obtain ⟨gs, gh, A, c, h1, h2, h3, h4⟩ := h
  exact ⟨gs, gh, A, c, h1.chP hc (fun k hk => hne k ((h3 k).2 hk)), h2, h3, h4⟩
theorem LPool.ch {r : Option Nat} (h : LPool w base gp F s) (hc : Ch w w' r) (hne : ∀ k, r = some k -> ¬ F k) : LPool w' base gp F s := h.chP (hc.chP (F := fun k => r = some k) (fun i hi => hi)) (fun k hk hr => hne k hr hk)
theorem LPool.le (h : LPool w base gp F s) (hl : Le w w') : LPool w' base gp F s := h.chP (hl.chP (fun _ => False)) (fun _ _ hf => hf)
theorem LPool.lt (h : LPool w base gp F s) {k : Nat} (hk : F k) : k < w.heap.size := by
  obtain ⟨gs, gh, A, c, h1, h2, h3, h4⟩ := h
  exact h1.lt ((h3 k).1 hk)
theorem LPool.good (h : LPool w base gp F s) : GoodL s := by
  obtain ⟨gs, gh, A, c, h1, h2, h3, h4⟩ := h
  exact h2
theorem LPool.old (h : LPool w base gp F s) {k : Nat} (hk : F k) : base <= k := by
  obtain ⟨gs, gh, A, c, h1, h2, h3, h4⟩ := h
  exact h4 k hk
theorem LPool.size (h : LPool w base gp F s) : base <= w.heap.size := by
  obtain ⟨gs, gh, A, c, h1, h2, h3, h4⟩ := h
  have := h4 gp ((h3 gp).2 (.inl rfl))
  have := h1.hp.lt
  omega
theorem LPool.next {gs gh gs' : Nat} {A : Option Addr} {c : Nat} {s' : Led} (h : LedL w' gp gs' gh A c s'.cs s'.ck s'.own s'.ls s'.lh s'.lost) (hg : GoodL s') (hF : ∀ k, F k ↔ LF gp gs gh A c k) (hb : ∀ k, F k -> base <= k) (hbw : base <= w.heap.size) (hs : gs' = gs \/ w.heap.size <= gs') :
    ∃ F', LPool w' base gp F' s' /\ GrownL w F F' := by
  have hgr : ∀ k, LF gp gs' gh A c k -> F k \/ w.heap.size <= k := by
    rintro k (hk | hk | hk | hk)
    · exact .inl ((hF k).2 (.inl hk))
    · rcases hs with hs | hs
      · exact .inl ((hF k).2 (.inr (.inl (hk.trans hs))))
      · exact .inr (by omega)
    · exact .inl ((hF k).2 (.inr (.inr (.inl hk))))
    · exact .inl ((hF k).2 (.inr (.inr (.inr hk))))
  refine ⟨LF gp gs' gh A c, ⟨gs', gh, A, c, h, hg, fun _ => Iff.rfl, fun k hk => ?_⟩, hgr⟩
  rcases hgr k hk with h1 | h1
  · exact hb k h1
  · omega
theorem hGood_of (h : GoodL s) : hGood s.ls := fun x hx => by
  obtain ⟨_, _, _, _, _, h3, h4⟩ := h.seats x hx
  omega
theorem hw_of (h : GoodL s) : ∀ x ∈ s.ls, ∀ i, 0 <= x.2.2.h i /\ x.2.2.h i <= 1125899906842624 := fun x hx i => (h_two (h.seats x hx).2.2 i).1
theorem hw2_of (h : GoodL s) : ∀ x ∈ s.ls, 0 <= x.2.2.h0 /\ 0 <= x.2.2.h1 := fun x hx => by
  obtain ⟨_, _, _, _, _, h3, h4⟩ := h.seats x hx
  omega
theorem hv_of (h : GoodL s) : ∀ x ∈ s.lh, (0 <= x.2.1.side /\ x.2.1.side <= 1) /\ (0 <= x.2.2.am /\ x.2.2.am <= 1125899906842624) /\ ∃ t, getG x.2.1.ch s.ls = some t := fun x hx => by
  obtain ⟨h1, h2, h3⟩ := h.holds x hx
  exact ⟨h1, by omega, h3⟩
theorem hs_of (h : GoodL s) : ∀ x ∈ s.ls, seatOk s.own.length x.2.2 := fun x hx => (h.seats x hx).2.2
theorem hq_of (h : GoodL s) : ∀ ch side, heldL s.lh ch side <= 1125899906842624 := fun ch side => (h.heldB ch side).2
def Acted (w : World) (base gp : Nat) (F : Nat -> Prop) (r : Led × Int) : Ending -> World -> Prop := fun e w' => ∃ F', e = .returned (.int .i64 r.2) /\ LPool w' base gp F' r.1 /\ GrownL w F F' /\ ChP w w' F
theorem acted {gs gh gs' : Nat} {A : Option Addr} {c : Nat} {r : Led × Int} {e : Ending} (hr : e = .returned (.int .i64 r.2)) (h : LedL w' gp gs' gh A c r.1.cs r.1.ck r.1.own r.1.ls r.1.lh r.1.lost) (hg : GoodL r.1) (hF : ∀ k, F k ↔ LF gp gs gh A c k) (hb : ∀ k, F k -> base <= k) (hbw : base <= w.heap.size) (hs : gs' = gs \/ w.heap.size <= gs') (hc : ChP w w' (LF gp gs gh A c)) : Acted w base gp F r e w' := by
  obtain ⟨F', h1, h2⟩ := LPool.next h hg hF hb hbw hs
  exact ⟨F', hr, h1, h2, hc.mono (fun k hk _ => (hF k).2 hk)⟩
theorem open_led (t : Seat) (fee : Int) (h : LPool w base gp F s) : Calls prog 7 #[.pointer (some ⟨gp, 0, none⟩), .agg (seatV t).toArray, .int .i64 fee] w (Acted w base gp F (openL s t fee)) := by
  have hbw := h.size
  have hgd := h.good
  have hg := (open_good hgd t fee).1
  obtain ⟨gs, gh, A, c, h1, h2, h3, h4⟩ := h
  refine Calls.mono (lopen_ok t fee w h1 hgd.ownB hgd.lostB) ?_
  rintro r w' ⟨hc, hr⟩
  rcases hr with ⟨q1, rfl, hL⟩ | ⟨q1, ⟨u, q2⟩, rfl, hL⟩ | ⟨q1, q2, q3, rfl, hL⟩ | ⟨q1, q2, q3, rfl, hL⟩
  · have e : openL s t fee = (s, 1) := by unfold openL; rw [if_pos q1]
    rw [e] at hg ⊢
    exact acted rfl hL hg h3 h4 hbw (.inl rfl) hc
  · have e : openL s t fee = (s, 4) := by unfold openL; rw [if_neg (not_not_intro q1), if_pos (by rw [q2]; rfl)]
    rw [e] at hg ⊢
    exact acted rfl hL hg h3 h4 hbw (.inl rfl) hc
  · have e : openL s t fee = (s, 8) := by unfold openL; rw [if_neg (not_not_intro q1), if_neg (by rw [q2]; simp), if_pos q3]
    rw [e] at hg ⊢
    exact acted rfl hL hg h3 h4 hbw (.inl rfl) hc
  · have e : openL s t fee = (⟨giveO (giveO s.own t 0 t.h0 fee) t 1 t.h1 0, s.ls ++ [(s.cs, t.ch, t)], s.cs + 1, s.lh, s.ck, s.lost + fee⟩, 0) := by unfold openL; rw [if_neg (not_not_intro q1), if_neg (by rw [q2]; simp), if_neg q3]
    rw [e] at hg ⊢
    exact acted rfl hL hg h3 h4 hbw (.inl rfl) hc
theorem close_led (ch : Int) (fee : Pair) (h : LPool w base gp F s) : Calls prog 23 #[.pointer (some ⟨gp, 0, none⟩), .int .i64 ch, .agg (pairV fee).toArray] w (Acted w base gp F (closeL s ch fee)) := by
  have hbw := h.size
  have hgd := h.good
  have hg := (close_good hgd ch fee).1
  obtain ⟨gs, gh, A, c, h1, h2, h3, h4⟩ := h
  refine Calls.mono (lclose_ok ch fee w h1 hgd.a_nn (hq_of hgd) (hs_of hgd) hgd.ownB hgd.lostB) ?_
  rintro r w' ⟨hc, hr⟩
  rcases hr with ⟨q1, rfl, hL⟩ | ⟨q1, q2, rfl, hL⟩ | ⟨q1, t, q2, ⟨q3, rfl, hL⟩ | ⟨q3, q4, rfl, hL⟩ | ⟨q3, q4, rfl, hL⟩⟩
  · have e : closeL s ch fee = (s, 1) := by unfold closeL; rw [if_pos q1]
    rw [e] at hg ⊢
    exact acted rfl hL hg h3 h4 hbw (.inl rfl) hc
  · have e : closeL s ch fee = (s, 5) := by unfold closeL; rw [if_neg (not_not_intro q1), q2]
    rw [e] at hg ⊢
    exact acted rfl hL hg h3 h4 hbw (.inl rfl) hc
  · have e : closeL s ch fee = (s, 14) := by unfold closeL; rw [if_neg (not_not_intro q1), q2]; simp only; rw [if_pos q3]
    rw [e] at hg ⊢
    exact acted rfl hL hg h3 h4 hbw (.inl rfl) hc
  · have e : closeL s ch fee = (s, 8) := by unfold closeL; rw [if_neg (not_not_intro q1), q2]; simp only; rw [if_neg (not_not_intro q3), if_pos q4]
    rw [e] at hg ⊢
    exact acted rfl hL hg h3 h4 hbw (.inl rfl) hc
  · have e : closeL s ch fee = (⟨backO s.own t fee 2, delM ch s.ls, s.cs, s.lh, s.ck, backF s.lost fee 2⟩, 0) := by unfold closeL; rw [if_neg (not_not_intro q1), q2]; simp only; rw [if_neg (not_not_intro q3), if_neg q4]
    rw [e] at hg ⊢
    exact acted rfl hL hg h3 h4 hbw (.inl rfl) hc
theorem offer_led (ch side id am : Int) (pt : Nat) (hpt : pt < 18446744073709551616) (h : LPool w base gp F s) : Calls prog 11 #[.pointer (some ⟨gp, 0, none⟩), .int .i64 ch, .int .i64 side, .int .i64 id, .int .i64 am, .int .u64 ((pt : Nat) : Int)] w (Acted w base gp F (offerL s ch side id am pt)) := by
  have hbw := h.size
  have hgd := h.good
  have hg := (offer_good hgd ch side id am pt).1
  obtain ⟨gs, gh, A, c, h1, h2, h3, h4⟩ := h
  refine Calls.mono (loffer_ok ch side id am pt w h1 hpt (hw_of hgd)) ?_
  rintro r w' ⟨hc, hr⟩
  rcases hr with ⟨q1, rfl, hL⟩ | ⟨q1, q2, rfl, hL⟩ | ⟨q1, t, q2, ⟨x, q3, rfl, hL⟩ | ⟨q3, ⟨q4, rfl, hL⟩ | ⟨q4, rfl, hL⟩⟩⟩
  · have e : offerL s ch side id am pt = (s, 1) := by unfold offerL; rw [if_pos q1]
    rw [e] at hg ⊢
    exact acted rfl hL hg h3 h4 hbw (.inl rfl) hc
  · have e : offerL s ch side id am pt = (s, 5) := by unfold offerL; rw [if_neg (not_not_intro q1), q2]
    rw [e] at hg ⊢
    exact acted rfl hL hg h3 h4 hbw (.inl rfl) hc
  · have e : offerL s ch side id am pt = (s, 4) := by unfold offerL; rw [if_neg (not_not_intro q1), q2]; simp only; rw [if_pos (by rw [q3]; rfl)]
    rw [e] at hg ⊢
    exact acted rfl hL hg h3 h4 hbw (.inl rfl) hc
  · have e : offerL s ch side id am pt = (s, 8) := by unfold offerL; rw [if_neg (not_not_intro q1), q2]; simp only; rw [if_neg (by rw [q3]; simp), if_pos q4]
    rw [e] at hg ⊢
    exact acted rfl hL hg h3 h4 hbw (.inl rfl) hc
  · have e : offerL s ch side id am pt = (⟨s.own, updM ch (t.setH side.toNat (t.h side.toNat - am)) s.ls, s.cs, s.lh ++ [(s.ck, ⟨ch, side, id⟩, ⟨am, pt⟩)], s.ck + 1, s.lost⟩, 0) := by unfold offerL; rw [if_neg (not_not_intro q1), q2]; simp only; rw [if_neg (by rw [q3]; simp), if_neg q4]
    rw [e] at hg ⊢
    exact acted rfl hL hg h3 h4 hbw (.inl rfl) hc
theorem settle_led (ch side id : Int) (sec : Nat) (h : LPool w base gp F s) : Calls prog 13 #[.pointer (some ⟨gp, 0, none⟩), .int .i64 ch, .int .i64 side, .int .i64 id, .int .u64 ((sec : Nat) : Int)] w (Acted w base gp F (settleL s ch side id sec)) := by
  have hbw := h.size
  have hgd := h.good
  have hg := (settle_good hgd ch side id sec).1
  obtain ⟨gs, gh, A, c, h1, h2, h3, h4⟩ := h
  refine Calls.mono (lsettle_ok ch side id sec w h1 (hw_of hgd) (hv_of hgd)) ?_
  rintro r w' ⟨hc, hr⟩
  rcases hr with ⟨q1, rfl, hL⟩ | ⟨x, q1, ⟨q2, rfl, hL⟩ | ⟨q2, rfl, t, q3, hL⟩⟩
  · have e : settleL s ch side id sec = (s, 5) := by unfold settleL; rw [q1]
    rw [e] at hg ⊢
    exact acted rfl hL hg h3 h4 hbw (.inl rfl) hc
  · have e : settleL s ch side id sec = (s, 23) := by unfold settleL; rw [q1]; simp only; rw [if_pos q2]
    rw [e] at hg ⊢
    exact acted rfl hL hg h3 h4 hbw (.inl rfl) hc
  · have e : settleL s ch side id sec = (endL s ch side id x t (1 - side), 0) := by unfold settleL; rw [q1]; simp only; rw [if_neg (not_not_intro q2), q3]; rfl
    rw [e] at hg ⊢
    exact acted rfl hL hg h3 h4 hbw (.inl rfl) hc
theorem fail_led (ch side id : Int) (h : LPool w base gp F s) : Calls prog 15 #[.pointer (some ⟨gp, 0, none⟩), .int .i64 ch, .int .i64 side, .int .i64 id] w (Acted w base gp F (failL s ch side id)) := by
  have hbw := h.size
  have hgd := h.good
  have hg := (fail_good hgd ch side id).1
  obtain ⟨gs, gh, A, c, h1, h2, h3, h4⟩ := h
  refine Calls.mono (lfail_ok ch side id w h1 (hw_of hgd) (hv_of hgd)) ?_
  rintro r w' ⟨hc, hr⟩
  rcases hr with ⟨q1, rfl, hL⟩ | ⟨x, q1, rfl, t, q3, hL⟩
  · have e : failL s ch side id = (s, 5) := by unfold failL; rw [q1]
    rw [e] at hg ⊢
    exact acted rfl hL hg h3 h4 hbw (.inl rfl) hc
  · have e : failL s ch side id = (endL s ch side id x t side, 0) := by unfold failL; rw [q1]; simp only; rw [q3]; rfl
    rw [e] at hg ⊢
    exact acted rfl hL hg h3 h4 hbw (.inl rfl) hc
theorem pay_led {Ag : Option Addr} {ng cg : Nat} {legs : List Leg} (h : LPool w base gp F s) (hg0 : Vec w legV 3 Ag ng legs) (hng : ng <= 1000) (hga : ∀ q, blkOf Ag = some q -> 0 < ng -> q < w.heap.size -> ¬ F q) : Calls prog 24 #[.pointer (some ⟨gp, 0, none⟩), .slice Ag ng cg] w (Acted w base gp F (payL s legs)) := by
  have hbw := h.size
  have hgd := h.good
  have hg := (pay_good hgd legs).1
  obtain ⟨gs, gh, A, c, h1, h2, h3, h4⟩ := h
  refine Calls.mono (lpay_ok w h1 hg0 hng (hGood_of hgd) (fun q a b d e => hga q a b d ((h3 q).2 e))) ?_
  rintro r w' ⟨hc, hr⟩
  rcases hr with ⟨q1, rfl, hL⟩ | ⟨q1, rfl, gs', q2, hL⟩
  · have e : payL s legs = (s, (payTo s.ls legs).2) := by unfold payL; rw [if_pos q1]
    rw [e] at hg ⊢
    exact acted rfl hL hg h3 h4 hbw (.inl rfl) hc
  · have e : payL s legs = (⟨s.own, (payTo s.ls legs).1, s.cs, s.lh, s.ck, s.lost⟩, 0) := by unfold payL; rw [if_neg (by simpa using q1)]
    rw [e] at hg ⊢
    exact acted rfl hL hg h3 h4 hbw (.inr q2) hc
theorem splice_led (ch : Int) (d fee : Pair) (hd : ∀ k, k < 2 -> -9223372036854775808 <= d.ix k /\ d.ix k <= 9223372036854775807) (h : LPool w base gp F s) : Calls prog 26 #[.pointer (some ⟨gp, 0, none⟩), .int .i64 ch, .agg (pairV d).toArray, .agg (pairV fee).toArray] w (Acted w base gp F (spliceL s ch d fee)) := by
  have hbw := h.size
  have hgd := h.good
  have hg := (splice_good hgd ch d fee).1
  obtain ⟨gs, gh, A, c, h1, h2, h3, h4⟩ := h
  refine Calls.mono (lsplice_ok ch d fee w h1 hd (hs_of hgd) hgd.ownB hgd.lostB) ?_
  rintro r w' ⟨hc, hr⟩
  rcases hr with ⟨q1, rfl, hL⟩ | ⟨q1, q2, rfl, hL⟩ | ⟨q1, t, q2, ⟨q3, rfl, hL⟩ | ⟨q3, rfl, hL⟩⟩
  · have e : spliceL s ch d fee = (s, 1) := by unfold spliceL; rw [if_pos q1]
    rw [e] at hg ⊢
    exact acted rfl hL hg h3 h4 hbw (.inl rfl) hc
  · have e : spliceL s ch d fee = (s, 5) := by unfold spliceL; rw [if_neg (not_not_intro q1), q2]
    rw [e] at hg ⊢
    exact acted rfl hL hg h3 h4 hbw (.inl rfl) hc
  · have q4 : spNo s.own t d fee 0 \/ spNo s.own t d fee 1 := by
      obtain ⟨k, hk, hh⟩ := q3
      have : k = 0 \/ k = 1 := by omega
      rcases this with rfl | rfl
      · exact .inl hh
      · exact .inr hh
    have e : spliceL s ch d fee = (s, 8) := by unfold spliceL; rw [if_neg (not_not_intro q1), q2]; simp only; rw [if_pos q4]
    rw [e] at hg ⊢
    exact acted rfl hL hg h3 h4 hbw (.inl rfl) hc
  · have q4 : ¬ (spNo s.own t d fee 0 \/ spNo s.own t d fee 1) := by
      rintro (hh | hh)
      · exact q3 0 (by omega) hh
      · exact q3 1 (by omega) hh
    have e : spliceL s ch d fee = (⟨spO s.own (addK t d 2) d fee 2, updM ch (addK t d 2) s.ls, s.cs, s.lh, s.ck, backF s.lost fee 2⟩, 0) := by unfold spliceL; rw [if_neg (not_not_intro q1), q2]; simp only; rw [if_neg q4]
    rw [e] at hg ⊢
    exact acted rfl hL hg h3 h4 hbw (.inl rfl) hc
theorem cut_led {Ao As Af : Option Addr} {no co ns cS nf cf : Nat} {old fee : List Int} {ss : List Seat} (h : LPool w base gp F s) (ho : Vec w iv 1 Ao no old) (hs : Vec w seatV 5 As ns ss) (hf : Vec w iv 1 Af nf fee) (hno : no <= 1000) (hns : ns <= 1000) (hnf : nf <= 1000)
    (hoa : ∀ q, blkOf Ao = some q -> 0 < no -> q < w.heap.size -> ¬ F q) (hsa : ∀ q, blkOf As = some q -> 0 < ns -> q < w.heap.size -> ¬ F q) (hfa : ∀ q, blkOf Af = some q -> 0 < nf -> q < w.heap.size -> ¬ F q) :
    Calls prog 25 #[.pointer (some ⟨gp, 0, none⟩), .slice Ao no co, .slice As ns cS, .slice Af nf cf] w (Acted w base gp F (cutL s old ss fee)) := by
  have hbw := h.size
  have hgd := h.good
  have hg := (cut_good hgd old ss fee).1
  obtain ⟨gs, gh, A, c, h1, h2, h3, h4⟩ := h
  refine Calls.mono (lcut_ok w h1 ho hs hf hno hns hnf (fun q a b d e => hoa q a b d ((h3 q).2 e)) (fun q a b d e => hsa q a b d ((h3 q).2 e)) (fun q a b d e => hfa q a b d ((h3 q).2 e)) hgd.a_nn (hq_of hgd) (hs_of hgd) hgd.lostB) ?_
  rintro r w' ⟨hc, rfl, hr⟩
  rcases hr with ⟨q1, hL⟩ | ⟨q1, hL⟩
  · have e : cutL s old ss fee = (s, cutC s.own.length s.ls s.lh old ss fee) := by unfold cutL; rw [if_pos q1]
    rw [e] at hg ⊢
    exact acted rfl hL hg h3 h4 hbw (.inl rfl) hc
  · have e : cutL s old ss fee = (⟨s.own, (cutLs s.ls s.cs old ss).1, (cutLs s.ls s.cs old ss).2, s.lh, s.ck, s.lost + fee.sum⟩, 0) := by unfold cutL; rw [if_neg (not_not_intro q1)]
    rw [e] at hg ⊢
    exact acted (by rw [q1]) hL hg h3 h4 hbw (.inl rfl) hc
theorem own_led (party : Int) (h : LPool w base gp F s) : Calls prog 21 #[.pointer (some ⟨gp, 0, none⟩), .int .i64 party] w fun r w' => r = .returned (.int .i64 (ownL s.own party)) /\ Le w w' := by
  obtain ⟨gs, gh, A, c, h1, h2, h3, h4⟩ := h
  exact lown_ok party w h1
theorem lost_led (h : LPool w base gp F s) : Calls prog 28 #[.pointer (some ⟨gp, 0, none⟩)] w fun r w' => r = .returned (.int .i64 s.lost) /\ Le w w' := by
  obtain ⟨gs, gh, A, c, h1, h2, h3, h4⟩ := h
  exact lost_ok w h1
theorem seat_led (ch : Int) (h : LPool w base gp F s) : Calls prog 16 #[.pointer (some ⟨gp, 0, none⟩), .int .i64 ch] w fun r w' => r = .returned (.tuple #[.agg (seatV (seatAt' s.ls ch)).toArray, .bool (getG ch s.ls).isSome]) /\ Le w w' := by
  obtain ⟨gs, gh, A, c, h1, h2, h3, h4⟩ := h
  exact lseat_ok ch w h1
theorem held_led (ch side : Int) (h : LPool w base gp F s) : Calls prog 22 #[.pointer (some ⟨gp, 0, none⟩), .int .i64 ch, .int .i64 side] w fun r w' => r = .returned (.int .i64 (heldL s.lh ch side)) /\ Le w w' := by
  have hgd := h.good
  obtain ⟨gs, gh, A, c, h1, h2, h3, h4⟩ := h
  exact lheld_ok ch side w h1 hgd.a_nn (by have := (hgd.heldB ch side).2; omega)
theorem worth_led (party : Int) (h : LPool w base gp F s) : Calls prog 17 #[.pointer (some ⟨gp, 0, none⟩), .int .i64 party] w fun r w' => r = .returned (.int .i64 (worthL s.own s.ls s.lh party)) /\ Le w w' := by
  have hgd := h.good
  obtain ⟨gs, gh, A, c, h1, h2, h3, h4⟩ := h
  exact lworth_ok party w h1 hgd.a_nn (hw2_of hgd) (worth_ge hgd party).2 (by have := worth_le hgd party; omega)
theorem total_led (h : LPool w base gp F s) : Calls prog 19 #[.pointer (some ⟨gp, 0, none⟩)] w fun r w' => r = .returned (.int .i64 (s.all - s.lost)) /\ Le w w' := by
  have hgd := h.good
  obtain ⟨gs, gh, A, c, h1, h2, h3, h4⟩ := h
  have ht := total_all hgd
  refine Calls.mono (ltotal_ok w h1 hgd.a_nn (hw2_of hgd) (fun i => (worth_ge hgd i).2) (by have := hgd.len; omega) (fun i => by have h1 := worth_ge hgd i; have h2 := worth_le hgd i; omega)) ?_
  rintro r w' ⟨rfl, hl⟩
  exact ⟨by rw [ht]; unfold Led.all; congr 2; omega, hl⟩
theorem seats_led (h : LPool w base gp F s) : Calls prog 27 #[.pointer (some ⟨gp, 0, none⟩)] w fun r w' => ∃ (A : Option Addr) (c : Nat), r = .returned (.slice A (seatsL s.ls).length c) /\ OVec w' w.heap.size 60 seatV 5 A (seatsL s.ls).length c (seatsL s.ls) /\ Le w w' := by
  have hgd := h.good
  obtain ⟨gs, gh, A, c, h1, h2, h3, h4⟩ := h
  refine Calls.mono (lseats_ok w h1 (fun x hx => by have := (hgd.seats x hx).2.1; unfold inI; omega) (by have := hgd.few; omega)) ?_
  rintro r w' ⟨A', c', ns, rfl, hp, hw, ho, hl⟩
  have e : ns = srtI (keysM s.ls) := srt_uniq (hp.trans (srtI_perm _).symm) hw (srtI_srt _)
  subst e
  exact ⟨A', c', by rw [seatsL_len], ho.cast (seatsL_len _).symm rfl, hl⟩
theorem new_led {Aw : Option Addr} {nw cw : Nat} {own : List Int} (w : World) (hO : Vec w iv 1 Aw nw own) (hn : newOk own) : Calls prog 6 #[.slice Aw nw cw] w fun r w' => ∃ gp F, r = .returned (.pointer (some ⟨gp, 0, none⟩)) /\ LPool w' w.heap.size gp F ⟨own, [], 0, [], 0, 0⟩ /\ Le w w' := by
  refine Calls.mono (lnew_ok w hO) ?_
  rintro r w' (⟨q, _⟩ | ⟨q, gp, gs, gh, A, c, rfl, hL, hk, hl⟩)
  · exact absurd hn q
  · exact ⟨gp, LF gp gs gh A c, rfl, ⟨gs, gh, A, c, hL, (new_good q).1, fun _ => Iff.rfl, hk⟩, hl⟩
theorem new_none {Aw : Option Addr} {nw cw : Nat} {own : List Int} (w : World) (hO : Vec w iv 1 Aw nw own) (hn : ¬ newOk own) : Calls prog 6 #[.slice Aw nw cw] w fun r w' => r = .returned (.pointer none) /\ Le w w' := by
  refine Calls.mono (lnew_ok w hO) ?_
  rintro r w' (⟨q, h⟩ | ⟨q, _⟩)
  · exact h
  · exact absurd q hn
end
end Go.Proofs.YtgpaekbdbpkogaaGreat

namespace Go.Proofs.YtgpaekbdbpkogaaGreat
open Tryz
open Go Go.Sx Go.Num Go.Gsp Go.Lsp
set_option maxRecDepth 20000
theorem eqv_pairV {d : Nat} (a b : Pair) : Eqv prog (d + 2) 48 (.agg (pairV a).toArray) (.agg (pairV b).toArray) (decide (a = b)) := by
  have h := Eqv.arr (P := prog) (d := d + 1) (xs := (pairV a).toArray) (ys := (pairV b).toArray) (fun i => decide (a.ix i = b.ix i)) (fun i => .int .i64 (a.ix i)) (fun i => .int .i64 (b.ix i)) underlying48 sz3 (fun i hi w => run_part1 na3 (by rw [Nat.mul_one]; exact pair_ix a hi) w) (fun i hi w => run_part1 na3 (by rw [Nat.mul_one]; exact pair_ix b hi) w) (fun i hi => Eqv.int (P := prog) _ _ underlying3)
  have e : ((List.range 2).all fun i => decide (a.ix i = b.ix i)) = decide (a = b) := by
    obtain ⟨a1, a2⟩ := a
    obtain ⟨b1, b2⟩ := b
    rw [Bool.eq_iff_iff]
    simp [List.range_succ, Pair.ix]
  rw [e] at h
  exact h
namespace S46
def s0 : Led := ⟨[100, 100, 50], [], 0, [], 0, 0⟩
def s1 : Led := (openL s0 (⟨3, 0, 1, 60, 0⟩ : Seat) 5).1
theorem e1 : openL s0 (⟨3, 0, 1, 60, 0⟩ : Seat) 5 = (s1, 0) := by decide +kernel
theorem e2 : openL s1 (⟨3, 1, 2, 0, 0⟩ : Seat) 0 = (s1, 4) := by decide +kernel
theorem e3 : openL s1 (⟨4, 0, 1, 36, 0⟩ : Seat) 0 = (s1, 8) := by decide +kernel
theorem e4 : ownL s1.own 0 = 35 := by decide +kernel
theorem e5 : worthL s1.own s1.ls s1.lh 0 = 95 := by decide +kernel
def s6 : Led := (offerL s1 3 0 1 40 16).1
theorem e6 : offerL s1 3 0 1 40 16 = (s6, 0) := by decide +kernel
theorem e7 : heldL s6.lh 3 0 = 40 := by decide +kernel
theorem e8 : worthL s6.own s6.ls s6.lh 0 = 95 := by decide +kernel
theorem e9 : closeL s6 3 (⟨0, 0⟩ : Pair) = (s6, 14) := by decide +kernel
theorem e10 : settleL s6 3 0 1 3 = (s6, 23) := by decide +kernel
def s11 : Led := (settleL s6 3 0 1 2).1
theorem e11 : settleL s6 3 0 1 2 = (s11, 0) := by decide +kernel
theorem e12 : worthL s11.own s11.ls s11.lh 1 = 140 := by decide +kernel
theorem e13 : failL s11 3 0 1 = (s11, 5) := by decide +kernel
def s14 : Led := (openL s11 (⟨7, 1, 2, 30, 10⟩ : Seat) 0).1
theorem e14 : openL s11 (⟨7, 1, 2, 30, 10⟩ : Seat) 0 = (s14, 0) := by decide +kernel
def s15 : Led := (payL s14 [(⟨3, 0, 12⟩ : Leg), (⟨7, 0, 11⟩ : Leg)]).1
theorem e15 : payL s14 [(⟨3, 0, 12⟩ : Leg), (⟨7, 0, 11⟩ : Leg)] = (s15, 0) := by decide +kernel
theorem e16 : worthL s15.own s15.ls s15.lh 2 = 61 := by decide +kernel
theorem e17 : payL s15 [(⟨3, 0, 1⟩ : Leg), (⟨7, 0, 99⟩ : Leg)] = (s15, 8) := by decide +kernel
theorem e18 : worthL s15.own s15.ls s15.lh 0 = 43 := by decide +kernel
def s19 : Led := (cutL s15 [3, 7] [(⟨3, 0, 2, 8, 21⟩ : Seat), (⟨9, 1, 0, 70, 0⟩ : Seat)] [0, 1, 0]).1
theorem e19 : cutL s15 [3, 7] [(⟨3, 0, 2, 8, 21⟩ : Seat), (⟨9, 1, 0, 70, 0⟩ : Seat)] [0, 1, 0] = (s19, 0) := by decide +kernel
def s20 : Led := (spliceL s19 9 (⟨(-20), 30⟩ : Pair) (⟨2, 0⟩ : Pair)).1
theorem e20 : spliceL s19 9 (⟨(-20), 30⟩ : Pair) (⟨2, 0⟩ : Pair) = (s20, 0) := by decide +kernel
theorem e21 : ownL s20.own 1 = 88 := by decide +kernel
theorem e22 : ownL s20.own 0 = 5 := by decide +kernel
theorem smf1 : seatAt' s20.ls 9 = ⟨9, 1, 0, 50, 30⟩ := by decide +kernel
theorem smf2 : (getG 9 s20.ls).isSome = true := by decide +kernel
theorem smf3 : (seatsL s20.ls).length = 2 := by decide +kernel
theorem smf4 : s20.all - s20.lost = 242 := by decide +kernel
theorem smf5 : s20.lost = 8 := by decide +kernel
end S46
open S46
theorem small46_ok (w : World) : Calls prog 4 #[] w fun r w' => r = .returned (.bool true) /\ Le w w' := by
 refine enter func4 rfl rfl ?_
 have L0 := Le.refl w
 refine WC.sr (W.run 1 rfl (W.nx (WC.sr (W.ef rfl rfl rfl ?_))))
 refine Ef.buildSliceV (len := 3) [_, _, _] underlying56 el3 rfl (by simp [Value.cells]) rfl (by decide) (by decide) ?_
 intro g1_0 w1_0 hg1_0 b1_0 h1_0
 have L1 := L0.trans h1_0
 have b1_0 : Blk w1_0 g1_0 3 (([100, 100, 50]).map iv).flatten.toArray := b1_0
 have o1_0 : OVec w1_0 w.heap.size 3 iv 1 (some ⟨g1_0, 0, none⟩) 3 3 ([100, 100, 50]) := b1_0.ovec hg1_0 iv_row rfl rfl (by decide)
 refine W.cl go6 rfl rfl (new_led w1_0 o1_0.vec (by decide)) ?_
 rintro _ w1_1 ⟨gp1_1, F1_1, rfl, p1_1, h1_1⟩
 have L2 := L1.trans h1_1
 refine W.run 1 rfl (W.nx (WC.seq (WC.sr (W.run 1 rfl ?_))))
 refine W.a (.dec (.isNilP (by kernel_rfl) rfl) rfl) ?_
 refine W.run 1 rfl ?_
 refine W.efg rfl rfl rfl (rfl) rfl rfl ?_
 refine Ef.call go6 rfl rfl (new_none w1_1 (Vec.nil _ _ _ _) (by decide)) ?_
 rintro _ w2_3 ⟨rfl, h2_3⟩
 refine ⟨_, rfl, ?_⟩
 have L3 := L2.trans h2_3
 refine W.g (Any.rd (.dec (.notNilP (by kernel_rfl) rfl) rfl) _) ?_
 refine W.run 2 rfl ?_
 refine W.efg rfl rfl rfl (rfl) rfl rfl ?_
 refine Ef.buildSliceV (len := 2) [_, _] underlying56 el3 rfl (by simp [Value.cells]) rfl (by decide) (by decide) ?_
 intro g2_7 w2_7 hg2_7 b2_7 h2_7
 have L4 := L3.trans h2_7
 have b2_7 : Blk w2_7 g2_7 3 (([1125899906842624, 1]).map iv).flatten.toArray := b2_7
 have o2_7 : OVec w2_7 w2_3.heap.size 3 iv 1 (some ⟨g2_7, 0, none⟩) 2 2 ([1125899906842624, 1]) := b2_7.ovec hg2_7 iv_row rfl rfl (by decide)
 refine W.efg rfl rfl rfl (rfl) rfl rfl ?_
 refine Ef.call go6 rfl rfl (new_none w2_7 o2_7.vec (by decide)) ?_
 rintro _ w2_8 ⟨rfl, h2_8⟩
 refine ⟨_, rfl, ?_⟩
 have L5 := L4.trans h2_8
 refine W.g (Any.rd (.dec (.notNilP (by kernel_rfl) rfl) rfl) _) ?_
 refine W.run 2 rfl ?_
 refine W.efg rfl rfl rfl (rfl) rfl rfl ?_
 refine Ef.buildSliceV (len := 1) [_] underlying56 el3 rfl (by simp [Value.cells]) rfl (by decide) (by decide) ?_
 intro g2_12 w2_12 hg2_12 b2_12 h2_12
 have L6 := L5.trans h2_12
 have b2_12 : Blk w2_12 g2_12 3 (([(-1)]).map iv).flatten.toArray := b2_12
 have o2_12 : OVec w2_12 w2_8.heap.size 3 iv 1 (some ⟨g2_12, 0, none⟩) 1 1 ([(-1)]) := b2_12.ovec hg2_12 iv_row rfl rfl (by decide)
 refine W.efg rfl rfl rfl (rfl) rfl rfl ?_
 refine Ef.call go6 rfl rfl (new_none w2_12 o2_12.vec (by decide)) ?_
 rintro _ w2_13 ⟨rfl, h2_13⟩
 refine ⟨_, rfl, ?_⟩
 have L7 := L6.trans h2_13
 refine W.g (Any.rd (.dec (.notNilP (by kernel_rfl) rfl) rfl) _) ?_
 refine W.run 1 rfl (W.nx (WC.condF rfl (WC.sn (WC.sr (W.run 1 rfl ?_)))))
 refine W.a (.buildA (cells := (pairV (⟨0, 1⟩ : Pair)).toArray) underlying48 sz3 z48 rfl rfl) ?_
 refine W.a (.buildA (cells := (pairV (⟨60, 0⟩ : Pair)).toArray) underlying48 sz3 z48 rfl rfl) ?_
 refine W.a (.buildP (seatV (⟨3, 0, 1, 60, 0⟩ : Seat)) pl60 z60 rfl rfl) ?_
 have f8 := (p1_1.le (h2_3.trans (h2_7.trans (h2_8.trans (h2_12.trans h2_13)))))
 refine W.cl go7 rfl rfl ((by have h := open_led (s := s0) (⟨3, 0, 1, 60, 0⟩ : Seat) 5 f8; rw [e1] at h; exact h)) ?_
 rintro _ w4_4 ⟨F4_4, rfl, p4_4, g4_4, h4_4⟩
 have L9 := L7.chP_then h4_4 (fun i hi => Nat.le_trans L1.size (f8.old hi))
 refine W.a (.dec (.eql rfl rfl) (show _ = true from by first | decide | rfl)) ?_
 refine W.run 2 rfl ?_
 refine W.g (Any.rd (.buildA (cells := (pairV (⟨1, 2⟩ : Pair)).toArray) underlying48 sz3 z48 rfl rfl) _) ?_
 refine W.g (Any.rd (.buildP (seatV (⟨3, 1, 2, 0, 0⟩ : Seat)) pl60 z60 rfl rfl) _) ?_
 refine W.efg rfl rfl rfl (rfl) rfl rfl ?_
 refine Ef.call go7 rfl rfl ((by have h := open_led (s := s1) (⟨3, 1, 2, 0, 0⟩ : Seat) 0 p4_4; rw [e2] at h; exact h)) ?_
 rintro _ w4_10 ⟨F4_10, rfl, p4_10, g4_10, h4_10⟩
 refine ⟨_, rfl, ?_⟩
 have L16 := L9.chP_then h4_10 (fun i hi => Nat.le_trans L1.size (p4_4.old hi))
 refine W.g (Any.rd (.dec (.eql rfl rfl) (show _ = true from by first | decide | rfl)) _) ?_
 refine W.run 3 rfl ?_
 refine W.g (Any.rd (.buildA (cells := (pairV (⟨0, 1⟩ : Pair)).toArray) underlying48 sz3 z48 rfl rfl) _) ?_
 refine W.g (Any.rd (.buildA (cells := (pairV (⟨36, 0⟩ : Pair)).toArray) underlying48 sz3 z48 rfl rfl) _) ?_
 refine W.g (Any.rd (.buildP (seatV (⟨4, 0, 1, 36, 0⟩ : Seat)) pl60 z60 rfl rfl) _) ?_
 refine W.efg rfl rfl rfl (rfl) rfl rfl ?_
 refine Ef.call go7 rfl rfl ((by have h := open_led (s := s1) (⟨4, 0, 1, 36, 0⟩ : Seat) 0 p4_10; rw [e3] at h; exact h)) ?_
 rintro _ w4_18 ⟨F4_18, rfl, p4_18, g4_18, h4_18⟩
 refine ⟨_, rfl, ?_⟩
 have L20 := L16.chP_then h4_18 (fun i hi => Nat.le_trans L1.size (p4_10.old hi))
 refine W.g (Any.rd (.dec (.eql rfl rfl) (show _ = true from by first | decide | rfl)) _) ?_
 refine W.run 3 rfl ?_
 refine W.efg rfl rfl rfl (rfl) rfl rfl ?_
 refine Ef.call go21 rfl rfl ((by have h := own_led (s := s1) 0 p4_18; rw [e4] at h; exact h)) ?_
 rintro _ w4_23 ⟨rfl, h4_23⟩
 refine ⟨_, rfl, ?_⟩
 have L24 := L20.trans h4_23
 refine W.g (Any.rd (.dec (.eql rfl rfl) (show _ = true from by first | decide | rfl)) _) ?_
 refine W.run 3 rfl ?_
 have f25 := (p4_18.le h4_23)
 refine W.efg rfl rfl rfl (rfl) rfl rfl ?_
 refine Ef.call go17 rfl rfl ((by have h := worth_led (s := s1) 0 f25; rw [e5] at h; exact h)) ?_
 rintro _ w4_28 ⟨rfl, h4_28⟩
 refine ⟨_, rfl, ?_⟩
 have L26 := L24.trans h4_28
 refine W.g (Any.rd (.dec (.eql rfl rfl) (show _ = true from by first | decide | rfl)) _) ?_
 refine W.run 2 rfl (W.nx (WC.sr (W.run 1 rfl ?_)))
 have f27 := (f25.le h4_28)
 refine W.cl go11 rfl rfl ((by have h := offer_led (s := s1) 3 0 1 40 16 (by omega) f27; rw [e6] at h; exact h)) ?_
 rintro _ w5_1 ⟨F5_1, rfl, p5_1, g5_1, h5_1⟩
 have L28 := L26.chP_then h5_1 (fun i hi => Nat.le_trans L1.size (f27.old hi))
 refine W.a (.dec (.eql rfl rfl) (show _ = true from by first | decide | rfl)) ?_
 refine W.run 2 rfl ?_
 refine W.efg rfl rfl rfl (rfl) rfl rfl ?_
 refine Ef.call go22 rfl rfl ((by have h := held_led (s := s6) 3 0 p5_1; rw [e7] at h; exact h)) ?_
 rintro _ w5_5 ⟨rfl, h5_5⟩
 refine ⟨_, rfl, ?_⟩
 have L35 := L28.trans h5_5
 refine W.g (Any.rd (.dec (.eql rfl rfl) (show _ = true from by first | decide | rfl)) _) ?_
 refine W.run 3 rfl ?_
 have f36 := (p5_1.le h5_5)
 refine W.efg rfl rfl rfl (rfl) rfl rfl ?_
 refine Ef.call go17 rfl rfl ((by have h := worth_led (s := s6) 0 f36; rw [e8] at h; exact h)) ?_
 rintro _ w5_10 ⟨rfl, h5_10⟩
 refine ⟨_, rfl, ?_⟩
 have L37 := L35.trans h5_10
 refine W.g (Any.rd (.dec (.eql rfl rfl) (show _ = true from by first | decide | rfl)) _) ?_
 refine W.run 3 rfl ?_
 refine W.g (Any.rd (.buildA (cells := (pairV (⟨0, 0⟩ : Pair)).toArray) underlying48 sz3 z48 rfl rfl) _) ?_
 have f38 := (f36.le h5_10)
 refine W.efg rfl rfl rfl (rfl) rfl rfl ?_
 refine Ef.call go23 rfl rfl ((by have h := close_led (s := s6) 3 (⟨0, 0⟩ : Pair) f38; rw [e9] at h; exact h)) ?_
 rintro _ w5_16 ⟨F5_16, rfl, p5_16, g5_16, h5_16⟩
 refine ⟨_, rfl, ?_⟩
 have L39 := L37.chP_then h5_16 (fun i hi => Nat.le_trans L1.size (f38.old hi))
 refine W.g (Any.rd (.dec (.eql rfl rfl) (show _ = true from by first | decide | rfl)) _) ?_
 refine W.run 3 rfl ?_
 refine W.efg rfl rfl rfl (rfl) rfl rfl ?_
 refine Ef.call go13 rfl rfl ((by have h := settle_led (s := s6) 3 0 1 3 p5_16; rw [e10] at h; exact h)) ?_
 rintro _ w5_21 ⟨F5_21, rfl, p5_21, g5_21, h5_21⟩
 refine ⟨_, rfl, ?_⟩
 have L46 := L39.chP_then h5_21 (fun i hi => Nat.le_trans L1.size (p5_16.old hi))
 refine W.g (Any.rd (.dec (.eql rfl rfl) (show _ = true from by first | decide | rfl)) _) ?_
 refine W.run 3 rfl ?_
 refine W.efg rfl rfl rfl (rfl) rfl rfl ?_
 refine Ef.call go13 rfl rfl ((by have h := settle_led (s := s6) 3 0 1 2 p5_21; rw [e11] at h; exact h)) ?_
 rintro _ w5_26 ⟨F5_26, rfl, p5_26, g5_26, h5_26⟩
 refine ⟨_, rfl, ?_⟩
 have L50 := L46.chP_then h5_26 (fun i hi => Nat.le_trans L1.size (p5_21.old hi))
 refine W.g (Any.rd (.dec (.eql rfl rfl) (show _ = true from by first | decide | rfl)) _) ?_
 refine W.run 3 rfl ?_
 refine W.efg rfl rfl rfl (rfl) rfl rfl ?_
 refine Ef.call go17 rfl rfl ((by have h := worth_led (s := s11) 1 p5_26; rw [e12] at h; exact h)) ?_
 rintro _ w5_31 ⟨rfl, h5_31⟩
 refine ⟨_, rfl, ?_⟩
 have L54 := L50.trans h5_31
 refine W.g (Any.rd (.dec (.eql rfl rfl) (show _ = true from by first | decide | rfl)) _) ?_
 refine W.run 3 rfl ?_
 have f55 := (p5_26.le h5_31)
 refine W.efg rfl rfl rfl (rfl) rfl rfl ?_
 refine Ef.call go15 rfl rfl ((by have h := fail_led (s := s11) 3 0 1 f55; rw [e13] at h; exact h)) ?_
 rintro _ w5_36 ⟨F5_36, rfl, p5_36, g5_36, h5_36⟩
 refine ⟨_, rfl, ?_⟩
 have L56 := L54.chP_then h5_36 (fun i hi => Nat.le_trans L1.size (f55.old hi))
 refine W.g (Any.rd (.dec (.eql rfl rfl) (show _ = true from by first | decide | rfl)) _) ?_
 refine W.run 2 rfl (W.nx (WC.sr (W.run 1 rfl ?_)))
 refine W.a (.buildA (cells := (pairV (⟨1, 2⟩ : Pair)).toArray) underlying48 sz3 z48 rfl rfl) ?_
 refine W.a (.buildA (cells := (pairV (⟨30, 10⟩ : Pair)).toArray) underlying48 sz3 z48 rfl rfl) ?_
 refine W.a (.buildP (seatV (⟨7, 1, 2, 30, 10⟩ : Seat)) pl60 z60 rfl rfl) ?_
 refine W.cl go7 rfl rfl ((by have h := open_led (s := s11) (⟨7, 1, 2, 30, 10⟩ : Seat) 0 p5_36; rw [e14] at h; exact h)) ?_
 rintro _ w6_4 ⟨F6_4, rfl, p6_4, g6_4, h6_4⟩
 have L63 := L56.chP_then h6_4 (fun i hi => Nat.le_trans L1.size (p5_36.old hi))
 refine W.a (.dec (.eql rfl rfl) (show _ = true from by first | decide | rfl)) ?_
 refine W.run 2 rfl ?_
 refine W.g (Any.rd (.buildP (legV (⟨3, 0, 12⟩ : Leg)) pl85 z85 rfl rfl) _) ?_
 refine W.g (Any.rd (.buildP (legV (⟨7, 0, 11⟩ : Leg)) pl85 z85 rfl rfl) _) ?_
 refine W.efg rfl rfl rfl (rfl) rfl rfl ?_
 refine Ef.buildSliceV (len := 2) [_, _] underlying86 el85 rfl (by simp [Value.cells, legV_row.len]) rfl (by decide) (by decide) ?_
 intro g6_10 w6_10 hg6_10 b6_10 h6_10
 have L67 := L63.trans h6_10
 have b6_10 : Blk w6_10 g6_10 85 (([(⟨3, 0, 12⟩ : Leg), (⟨7, 0, 11⟩ : Leg)]).map legV).flatten.toArray := b6_10
 have o6_10 : OVec w6_10 w6_4.heap.size 85 legV 3 (some ⟨g6_10, 0, none⟩) 2 2 ([(⟨3, 0, 12⟩ : Leg), (⟨7, 0, 11⟩ : Leg)]) := b6_10.ovec hg6_10 legV_row rfl rfl (by decide)
 have f68 := (p6_4.le h6_10)
 refine W.efg rfl rfl rfl (rfl) rfl rfl ?_
 refine Ef.call go24 rfl rfl ((by have h := pay_led (s := s14) (cg := 2) f68 o6_10.vec (by omega) (fun q h0 h1 h2 => (show ∀ g, rowOf (some ⟨g6_10, 0, none⟩) 2 = some g -> ¬ F6_4 g from (fun g hg hF => by have := p6_4.lt hF;  have := (o6_10.row hg).1; omega)) q (rowOf_of h0 (by have := o6_10.cap; omega))); rw [e15] at h; exact h)) ?_
 rintro _ w6_11 ⟨F6_11, rfl, p6_11, g6_11, h6_11⟩
 refine ⟨_, rfl, ?_⟩
 have L69 := L67.chP_then h6_11 (fun i hi => Nat.le_trans L1.size (f68.old hi))
 refine W.g (Any.rd (.dec (.eql rfl rfl) (show _ = true from by first | decide | rfl)) _) ?_
 refine W.run 3 rfl ?_
 refine W.efg rfl rfl rfl (rfl) rfl rfl ?_
 refine Ef.call go17 rfl rfl ((by have h := worth_led (s := s15) 2 p6_11; rw [e16] at h; exact h)) ?_
 rintro _ w6_16 ⟨rfl, h6_16⟩
 refine ⟨_, rfl, ?_⟩
 have L77 := L69.trans h6_16
 refine W.g (Any.rd (.dec (.eql rfl rfl) (show _ = true from by first | decide | rfl)) _) ?_
 refine W.run 3 rfl ?_
 refine W.g (Any.rd (.buildP (legV (⟨3, 0, 1⟩ : Leg)) pl85 z85 rfl rfl) _) ?_
 refine W.g (Any.rd (.buildP (legV (⟨7, 0, 99⟩ : Leg)) pl85 z85 rfl rfl) _) ?_
 refine W.efg rfl rfl rfl (rfl) rfl rfl ?_
 refine Ef.buildSliceV (len := 2) [_, _] underlying86 el85 rfl (by simp [Value.cells, legV_row.len]) rfl (by decide) (by decide) ?_
 intro g6_23 w6_23 hg6_23 b6_23 h6_23
 have L78 := L77.trans h6_23
 have b6_23 : Blk w6_23 g6_23 85 (([(⟨3, 0, 1⟩ : Leg), (⟨7, 0, 99⟩ : Leg)]).map legV).flatten.toArray := b6_23
 have o6_23 : OVec w6_23 w6_16.heap.size 85 legV 3 (some ⟨g6_23, 0, none⟩) 2 2 ([(⟨3, 0, 1⟩ : Leg), (⟨7, 0, 99⟩ : Leg)]) := b6_23.ovec hg6_23 legV_row rfl rfl (by decide)
 have f79 := (p6_11.le (h6_16.trans h6_23))
 refine W.efg rfl rfl rfl (rfl) rfl rfl ?_
 refine Ef.call go24 rfl rfl ((by have h := pay_led (s := s15) (cg := 2) f79 o6_23.vec (by omega) (fun q h0 h1 h2 => (show ∀ g, rowOf (some ⟨g6_23, 0, none⟩) 2 = some g -> ¬ F6_11 g from (fun g hg hF => by have := p6_11.lt hF; have := h6_16.size; have := (o6_23.row hg).1; omega)) q (rowOf_of h0 (by have := o6_23.cap; omega))); rw [e17] at h; exact h)) ?_
 rintro _ w6_24 ⟨F6_24, rfl, p6_24, g6_24, h6_24⟩
 refine ⟨_, rfl, ?_⟩
 have L80 := L78.chP_then h6_24 (fun i hi => Nat.le_trans L1.size (f79.old hi))
 refine W.g (Any.rd (.dec (.eql rfl rfl) (show _ = true from by first | decide | rfl)) _) ?_
 refine W.run 3 rfl ?_
 refine W.efg rfl rfl rfl (rfl) rfl rfl ?_
 refine Ef.call go17 rfl rfl ((by have h := worth_led (s := s15) 0 p6_24; rw [e18] at h; exact h)) ?_
 rintro _ w6_29 ⟨rfl, h6_29⟩
 refine ⟨_, rfl, ?_⟩
 have L90 := L80.trans h6_29
 refine W.g (Any.rd (.dec (.eql rfl rfl) (show _ = true from by first | decide | rfl)) _) ?_
 refine W.run 2 rfl (W.nx (WC.sr (W.run 1 rfl (W.ef rfl rfl rfl ?_))))
 refine Ef.buildSliceV (len := 2) [_, _] underlying56 el3 rfl (by simp [Value.cells]) rfl (by decide) (by decide) ?_
 intro g7_1 w7_1 hg7_1 b7_1 h7_1
 have L91 := L90.trans h7_1
 have b7_1 : Blk w7_1 g7_1 3 (([3, 7]).map iv).flatten.toArray := b7_1
 have o7_1 : OVec w7_1 w6_29.heap.size 3 iv 1 (some ⟨g7_1, 0, none⟩) 2 2 ([3, 7]) := b7_1.ovec hg7_1 iv_row rfl rfl (by decide)
 refine W.a (.buildA (cells := (pairV (⟨0, 2⟩ : Pair)).toArray) underlying48 sz3 z48 rfl rfl) ?_
 refine W.a (.buildA (cells := (pairV (⟨8, 21⟩ : Pair)).toArray) underlying48 sz3 z48 rfl rfl) ?_
 refine W.a (.buildP (seatV (⟨3, 0, 2, 8, 21⟩ : Seat)) pl60 z60 rfl rfl) ?_
 refine W.a (.buildA (cells := (pairV (⟨1, 0⟩ : Pair)).toArray) underlying48 sz3 z48 rfl rfl) ?_
 refine W.a (.buildA (cells := (pairV (⟨70, 0⟩ : Pair)).toArray) underlying48 sz3 z48 rfl rfl) ?_
 refine W.a (.buildP (seatV (⟨9, 1, 0, 70, 0⟩ : Seat)) pl60 z60 rfl rfl) ?_
 refine W.ef rfl rfl rfl ?_
 refine Ef.buildSliceV (len := 2) [_, _] underlying88 el60 rfl (by simp [Value.cells, seatV_row.len]) rfl (by decide) (by decide) ?_
 intro g7_8 w7_8 hg7_8 b7_8 h7_8
 have L92 := L91.trans h7_8
 have b7_8 : Blk w7_8 g7_8 60 (([(⟨3, 0, 2, 8, 21⟩ : Seat), (⟨9, 1, 0, 70, 0⟩ : Seat)]).map seatV).flatten.toArray := b7_8
 have o7_8 : OVec w7_8 w7_1.heap.size 60 seatV 5 (some ⟨g7_8, 0, none⟩) 2 2 ([(⟨3, 0, 2, 8, 21⟩ : Seat), (⟨9, 1, 0, 70, 0⟩ : Seat)]) := b7_8.ovec hg7_8 seatV_row rfl rfl (by decide)
 refine W.ef rfl rfl rfl ?_
 refine Ef.buildSliceV (len := 3) [_, _, _] underlying56 el3 rfl (by simp [Value.cells]) rfl (by decide) (by decide) ?_
 intro g7_9 w7_9 hg7_9 b7_9 h7_9
 have L93 := L92.trans h7_9
 have b7_9 : Blk w7_9 g7_9 3 (([0, 1, 0]).map iv).flatten.toArray := b7_9
 have o7_9 : OVec w7_9 w7_8.heap.size 3 iv 1 (some ⟨g7_9, 0, none⟩) 3 3 ([0, 1, 0]) := b7_9.ovec hg7_9 iv_row rfl rfl (by decide)
 have f94 := (p6_24.le (h6_29.trans (h7_1.trans (h7_8.trans h7_9))))
 have f95 := (o7_1.le (h7_8.trans h7_9))
 have f96 := (o7_8.le h7_9)
 refine W.cl go25 rfl rfl ((by have h := cut_led (s := s15) (co := 2) (cS := 2) (cf := 3) f94 f95.vec f96.vec o7_9.vec (by omega) (by omega) (by omega) (fun q h0 h1 h2 => (show ∀ g, rowOf (some ⟨g7_1, 0, none⟩) 2 = some g -> ¬ F6_24 g from (fun g hg hF => by have := p6_24.lt hF; have := h6_29.size; have := (f95.row hg).1; omega)) q (rowOf_of h0 (by have := f95.cap; omega))) (fun q h0 h1 h2 => (show ∀ g, rowOf (some ⟨g7_8, 0, none⟩) 2 = some g -> ¬ F6_24 g from (fun g hg hF => by have := p6_24.lt hF; have := h6_29.size; have := h7_1.size; have := (f96.row hg).1; omega)) q (rowOf_of h0 (by have := f96.cap; omega))) (fun q h0 h1 h2 => (show ∀ g, rowOf (some ⟨g7_9, 0, none⟩) 3 = some g -> ¬ F6_24 g from (fun g hg hF => by have := p6_24.lt hF; have := h6_29.size; have := h7_1.size; have := h7_8.size; have := (o7_9.row hg).1; omega)) q (rowOf_of h0 (by have := o7_9.cap; omega))); rw [e19] at h; exact h)) ?_
 rintro _ w7_10 ⟨F7_10, rfl, p7_10, g7_10, h7_10⟩
 have L97 := L93.chP_then h7_10 (fun i hi => Nat.le_trans L1.size (f94.old hi))
 refine W.a (.dec (.eql rfl rfl) (show _ = true from by first | decide | rfl)) ?_
 refine W.run 2 rfl ?_
 refine W.g (Any.rd (.buildA (cells := (pairV (⟨(-20), 30⟩ : Pair)).toArray) underlying48 sz3 z48 rfl rfl) _) ?_
 refine W.g (Any.rd (.buildA (cells := (pairV (⟨2, 0⟩ : Pair)).toArray) underlying48 sz3 z48 rfl rfl) _) ?_
 refine W.efg rfl rfl rfl (rfl) rfl rfl ?_
 refine Ef.call go26 rfl rfl ((by have h := splice_led (s := s19) 9 (⟨(-20), 30⟩ : Pair) (⟨2, 0⟩ : Pair) (by intro k hk; have : k = 0 \/ k = 1 := (by omega); rcases this with rfl | rfl <;> simp [Pair.ix]) p7_10; rw [e20] at h; exact h)) ?_
 rintro _ w7_16 ⟨F7_16, rfl, p7_16, g7_16, h7_16⟩
 refine ⟨_, rfl, ?_⟩
 have L111 := L97.chP_then h7_16 (fun i hi => Nat.le_trans L1.size (p7_10.old hi))
 refine W.g (Any.rd (.dec (.eql rfl rfl) (show _ = true from by first | decide | rfl)) _) ?_
 refine W.run 3 rfl ?_
 refine W.efg rfl rfl rfl (rfl) rfl rfl ?_
 refine Ef.call go21 rfl rfl ((by have h := own_led (s := s20) 1 p7_16; rw [e21] at h; exact h)) ?_
 rintro _ w7_21 ⟨rfl, h7_21⟩
 refine ⟨_, rfl, ?_⟩
 have L120 := L111.trans h7_21
 refine W.g (Any.rd (.dec (.eql rfl rfl) (show _ = true from by first | decide | rfl)) _) ?_
 refine W.run 3 rfl ?_
 have f121 := (p7_16.le h7_21)
 refine W.efg rfl rfl rfl (rfl) rfl rfl ?_
 refine Ef.call go21 rfl rfl ((by have h := own_led (s := s20) 0 f121; rw [e22] at h; exact h)) ?_
 rintro _ w7_26 ⟨rfl, h7_26⟩
 refine ⟨_, rfl, ?_⟩
 have L122 := L120.trans h7_26
 refine W.g (Any.rd (.dec (.eql rfl rfl) (show _ = true from by first | decide | rfl)) _) ?_
 refine W.run 2 rfl (W.nx (WC.sr (W.run 1 rfl ?_)))
 have f123 := (f121.le h7_26)
 refine W.cl go16 rfl rfl ((by have h := seat_led (s := s20) 9 f123; rw [smf1, smf2] at h; exact h)) ?_
 rintro _ w8_1 ⟨rfl, h8_1⟩
 have L124 := L122.trans h8_1
 refine W.run 1 rfl ?_
 refine W.a (.extract (v := .agg (seatV (⟨9, 1, 0, 50, 30⟩ : Seat)).toArray) rfl rfl) ?_
 refine W.a (.extract (v := .bool true) rfl rfl) ?_
 refine W.ef rfl rfl rfl ?_
 refine Ef.allocA z60 ?_
 intro g8_5 w8_5 hg8_5 b8_5 h8_5
 have L125 := L124.trans h8_5
 have b8_5 : Blk w8_5 g8_5 60 (seatV noSeat).toArray := b8_5
 refine W.ef0 rfl rfl ?_
 refine Ef.storeAll sz60 (by rfl) rfl rfl b8_5 (by simp only [List.size_toArray, seatV_row.len]) (seatV_row.one (⟨9, 1, 0, 50, 30⟩ : Seat)) ?_
 intro w8_6 b8_6 h8_6
 have b8_6 : Blk w8_6 g8_5 60 (seatV (⟨9, 1, 0, 50, 30⟩ : Seat)).toArray := b8_6
 have L126 := L125.tb h8_6 L124 hg8_5
 refine W.run 1 rfl (W.nx (WC.sr (W.run 14 rfl ?_)))
 refine W.g (Any.rd (.field0 fa60_2 rfl) _) ?_
 refine W.g (.bpart [.int .i64 ((⟨9, 1, 0, 50, 30⟩ : Seat).h0), .int .i64 ((⟨9, 1, 0, 50, 30⟩ : Seat).h1)] ag48 rfl (by decide) rfl b8_6 rfl) ?_
 refine W.g (Any.rd (.buildA (cells := (pairV (⟨50, 30⟩ : Pair)).toArray) underlying48 sz3 z48 rfl rfl) _) ?_
 refine W.g (Any.rd (.dec (.eqA eg48 rfl rfl (eqv_pairV (d := 9998) (⟨(⟨9, 1, 0, 50, 30⟩ : Seat).h0, (⟨9, 1, 0, 50, 30⟩ : Seat).h1⟩ : Pair) (⟨50, 30⟩ : Pair))) (show _ = true from by decide)) _) ?_
 refine W.run 3 rfl ?_
 have f127 := ((f123.le (h8_1.trans h8_5)).ch h8_6 (fun q hqq hF => by cases hqq; have := f123.lt hF; have := h8_1.size; have := hg8_5; omega))
 refine W.efg rfl rfl rfl (rfl) rfl rfl ?_
 refine Ef.call go27 rfl rfl ((by have h := seats_led (s := s20) f127; rw [smf3] at h; exact h)) ?_
 rintro _ w9_21 ⟨A9_21, c9_21, rfl, o9_21, h9_21⟩
 refine ⟨_, rfl, ?_⟩
 have L128 := L126.trans h9_21
 refine W.g (.len underlying88 rfl) ?_
 refine W.g (Any.rd (.dec (.eql rfl rfl) (show _ = true from by first | decide | rfl)) _) ?_
 refine W.run 3 rfl ?_
 have f129 := (f127.le h9_21)
 refine W.efg rfl rfl rfl (rfl) rfl rfl ?_
 refine Ef.call go19 rfl rfl ((by have h := total_led (s := s20) f129; rw [smf4] at h; exact h)) ?_
 rintro _ w9_27 ⟨rfl, h9_27⟩
 refine ⟨_, rfl, ?_⟩
 have L130 := L128.trans h9_27
 refine W.run 1 rfl ?_
 have f131 := (f129.le h9_27)
 refine W.efg rfl rfl rfl (rfl) rfl rfl ?_
 refine Ef.call go28 rfl rfl ((by have h := lost_led (s := s20) f131; rw [smf5] at h; exact h)) ?_
 rintro _ w9_29 ⟨rfl, h9_29⟩
 refine ⟨_, rfl, ?_⟩
 have L132 := L130.trans h9_29
 refine W.g (Any.rd (.add rfl rfl (by omega)) _) ?_
 refine W.g (Any.rd (.dec (.eql rfl rfl) (show _ = true from by decide)) _) ?_
 refine W.run 3 rfl ?_
 have f133 := (f131.le h9_29)
 refine W.efg rfl rfl rfl (rfl) rfl rfl ?_
 refine Ef.call go28 rfl rfl ((by have h := lost_led (s := s20) f133; rw [smf5] at h; exact h)) ?_
 rintro _ w9_35 ⟨rfl, h9_35⟩
 refine ⟨_, rfl, ?_⟩
 have L134 := L132.trans h9_35
 refine W.g (Any.rd (.dec (.eql rfl rfl) (show _ = true from by first | decide | rfl)) _) ?_
 refine W.run 2 rfl (W.nx (WC.ret ?_))
 refine E.retG1 rfl rfl ?_
 exact ⟨rfl, L134⟩
end Go.Proofs.YtgpaekbdbpkogaaGreat

namespace Go.Proofs.YtgpaekbdbpkogaaGreat
open Tryz
open Go Go.Sx Go.Num Go.Gsp Go.Lsp Go.Shp
set_option maxRecDepth 20000
def condV (c : Cnd) : List Value := [.int .i64 c.fr, .int .i64 c.id, .int .i64 c.am, .int .u64 ((c.pt : Nat) : Int), .int .i64 c.ex]
theorem condV_row : RowF condV 5 := ⟨fun _ => rfl, fun x v hv => by simp [condV] at hv; rcases hv with rfl | rfl | rfl | rfl | rfl <;> rfl, by decide⟩
structure Chn where
  am : Int
  op : Int
  p0 : Nat
  p1 : Nat
  p2 : Nat
  p3 : Nat
  p4 : Nat
  p5 : Nat
  p6 : Nat
  p7 : Nat
  p8 : Nat
  p9 : Nat
def chnV (c : Chn) : List Value := List.replicate 32 (.int .u8 0) ++ [.int .i64 0, .int .i64 c.am, .int .u64 ((c.p0 : Nat) : Int), .int .u64 ((c.p1 : Nat) : Int), .int .u64 ((c.p2 : Nat) : Int), .int .u64 ((c.p3 : Nat) : Int), .int .u64 ((c.p4 : Nat) : Int), .int .u64 ((c.p5 : Nat) : Int), .int .u64 ((c.p6 : Nat) : Int), .int .u64 ((c.p7 : Nat) : Int), .int .u64 ((c.p8 : Nat) : Int), .int .u64 ((c.p9 : Nat) : Int), .int .i64 100, .int .i64 200, .int .i64 5, .int .i64 16, .int .i64 1, .int .i64 1125899906842624, .int .i64 100, .int .i64 200, .int .i64 6, .int .i64 16, .int .i64 1, .int .i64 1125899906842624, .int .i64 c.op]
def PtOk (p : Nat) : Prop := right p = true /\ p ≠ 1 /\ p < 18446744073709551616
structure ChnOk (c : Chn) : Prop where
  am : 400 <= c.am /\ c.am <= 1125899906842624
  op : 0 <= c.op /\ c.op <= 1
  pts : PtOk c.p0 /\ PtOk c.p1 /\ PtOk c.p2 /\ PtOk c.p3 /\ PtOk c.p4 /\ PtOk c.p5 /\ PtOk c.p6 /\ PtOk c.p7 /\ PtOk c.p8 /\ PtOk c.p9
def orZ : List Int -> Int
  | [] => 0
  | x :: l => if x ≠ 0 then x else orZ l
theorem orZ_skip : ∀ (l : List Int) (k : Nat), (∀ j, j < k -> l.getD j 0 = 0) -> orZ l = orZ (l.drop k)
  | _, 0, _ => rfl
  | [], k + 1, _ => by simp
  | x :: l, k + 1, h => by
    have h0 : x = 0 := h 0 (by omega)
    rw [orZ, if_neg (by simp [h0]), List.drop_succ_cons]
    exact orZ_skip l k (fun j hj => h (j + 1) (by omega))
def aheadC (a b : Cnd) : Int := orZ [cmpI a.fr b.fr, cmpI a.id b.id]
theorem ahead_lt {a b : Cnd} : aheadC a b < 0 ↔ ltC a b := by
  unfold aheadC ltC cmpI
  simp only [orZ]
  constructor
  · intro h
    repeat' split at h
    all_goals omega
  · intro h
    repeat' split
    all_goals omega
theorem ahead_eq {a b : Cnd} : aheadC a b = 0 ↔ (a.fr = b.fr /\ a.id = b.id) := by
  unfold aheadC cmpI
  simp only [orZ]
  constructor
  · intro h
    repeat' split at h
    all_goals omega
  · intro h
    repeat' split
    all_goals omega
def idxI (pr : Int -> Bool) (xs : List Int) : Int := if xs.any pr then (xs.findIdx pr : Int) else -1
theorem idxI_at {pr : Int -> Bool} {xs : List Int} {k : Nat} (hk : k < xs.length) (hb : ∀ j, j < k -> ¬ pr (xs.getD j 0) = true) (h : pr (xs.getD k 0) = true) : idxI pr xs = (k : Int) := by
  have hx : xs.getD k 0 = xs[k] := by simp [List.getD, hk]
  have : xs.findIdx pr = k := by
    rw [List.findIdx_eq hk]
    exact ⟨by rw [<- hx]; exact h, fun j hj => by have := hb j hj; simpa [List.getD, show j < xs.length by omega] using this⟩
  rw [idxI, if_pos (by rw [List.any_eq_true]; exact ⟨xs[k], List.getElem_mem hk, by rw [<- hx]; exact h⟩), this]
theorem idxI_no {pr : Int -> Bool} {xs : List Int} {k : Nat} (hk : xs.length <= k) (hb : ∀ j, j < k -> j < xs.length -> ¬ pr (xs.getD j 0) = true) : -1 = idxI pr xs := by
  rw [idxI, if_neg]
  rw [List.any_eq_true]
  rintro ⟨y, hy, hp⟩
  obtain ⟨j, hj, rfl⟩ := List.mem_iff_getElem.1 hy
  exact hb j (by omega) hj (by simpa [List.getD, hj] using hp)
theorem idxI_any (pr : Int -> Bool) (xs : List Int) : decide (idxI pr xs ≥ 0) = xs.any pr := by
  unfold idxI; split
  · rename_i h; rw [h]; exact decide_eq_true (by omega)
  · rename_i h; rw [Bool.not_eq_true] at h; rw [h]; rfl
theorem all_not (lo hi : Int) (xs : List Int) : (!xs.any fun n => !inB n lo hi) = xs.all fun n => inB n lo hi := by
  rw [List.all_eq_not_any_not]
theorem getD_inS {α : Type} {l : List α} {z : α} {k : Nat} (h : k < l.length) : l.getD k z ∈ l := by
  have : l.getD k z = l[k] := by simp [List.getD, h]
  rw [this]; exact List.getElem_mem h
theorem mul_b {rt : Int} {k : Nat} (hr : 0 <= rt /\ rt <= 1000) (hk : k <= 16) : 0 <= rt * (68 + 8 * (k : Int)) /\ rt * (68 + 8 * (k : Int)) <= 196000 := by
  have h1 : rt * (68 + 8 * (k : Int)) <= 1000 * 196 := Int.mul_le_mul hr.2 (by omega) (by omega) (by omega)
  exact ⟨Int.mul_nonneg hr.1 (by omega), by omega⟩
theorem inB_t {n lo hi : Int} (h : lo <= n /\ n <= hi) : inB n lo hi = true := by unfold inB; exact decide_eq_true h
theorem fine_lt {c : Cnd} (h : FineC c) : c.pt < 18446744073709551616 := by
  have h2 := ((right_iff _).1 h.2.2.2.2.1).2.1
  have h3 : M < 18446744073709551616 := by decide
  omega
theorem sisNaN_ok (a : Int) (w : World) : Calls prog 116 #[.int .i64 (a)] w fun r w' => r = .returned (.bool false) /\ Le w w' := by
 refine enter func116 rfl rfl ?_
 have L0 := Le.refl w
 refine WC.sr (W.run 1 rfl (W.nx (WC.sr (W.run 4 rfl (W.nx (WC.ret ?_))))))
 refine E.retG1 rfl rfl ?_
 exact ⟨by simp, L0⟩

theorem scompare_ok (a b : Int) (w : World) : Calls prog 99 #[.int .i64 (a), .int .i64 (b)] w fun r w' => r = .returned (.int .i64 (cmpI a b)) /\ Le w w' := by
 refine enter func99 rfl rfl ?_
 have L0 := Le.refl w
 refine WC.sr (W.run 1 rfl (W.nx (WC.sr (W.run 1 rfl ?_))))
 refine W.cl go116 rfl rfl (sisNaN_ok a w) ?_
 rintro _ w1_1 ⟨rfl, h1_1⟩
 have L1 := L0.trans h1_1
 refine W.run 1 rfl (W.nx (WC.sr (W.run 1 rfl ?_)))
 refine W.cl go116 rfl rfl (sisNaN_ok b w1_1) ?_
 rintro _ w2_1 ⟨rfl, h2_1⟩
 have L2 := L1.trans h2_1
 refine W.run 1 rfl (W.nx (WC.seq (WC.sr (W.run 1 rfl (W.nx (WC.condF rfl (WC.sn (WC.seq (WC.sr (W.run 1 rfl (W.nx (WC.condF rfl (WC.sn (WC.seq (WC.sr (W.run 3 rfl (W.nx ?_)))))))))))))))))
 by_cases c3 : a < b
 ·refine WC.condY rfl (decide_eq_true c3) ?_
  refine WC.sr (W.run 1 rfl (W.nx (WC.ret (E.thenR ?_))))
  refine E.retG1 rfl rfl ?_
  exact ⟨(by first | rfl | (simp [cmpI, c3]; done) | (simp [cmpI, c3]; omega) | (simp [cmpI, c3]; split <;> first | (exfalso; omega) | (simp; done) | (simp; omega))), L2⟩
 refine WC.condN rfl (decide_eq_false c3) ?_
 refine WC.sn (WC.seq (WC.sr (W.run 3 rfl (W.nx ?_))))
 by_cases c4 : b < a
 ·refine WC.condY rfl (decide_eq_true c4) ?_
  refine WC.sr (W.run 1 rfl (W.nx (WC.ret (E.thenR ?_))))
  refine E.retG1 rfl rfl ?_
  exact ⟨(by first | rfl | (simp [cmpI, c3, c4]; done) | (simp [cmpI, c3, c4]; omega) | (simp [cmpI, c3, c4]; split <;> first | (exfalso; omega) | (simp; done) | (simp; omega))), L2⟩
 refine WC.condN rfl (decide_eq_false c4) ?_
 refine WC.sn (WC.sr (W.run 1 rfl (W.nx (WC.ret ?_))))
 refine E.retG1 rfl rfl ?_
 exact ⟨(by first | rfl | (simp [cmpI, c3, c4]; done) | (simp [cmpI, c3, c4]; omega) | (simp [cmpI, c3, c4]; split <;> first | (exfalso; omega) | (simp; done) | (simp; omega))), L2⟩

theorem sor2_ok {A : Option Addr} {n c : Nat} {xs : List Int} (w : World) (hV : Vec w iv 1 A n xs) (hn : n <= 1000000) : Calls prog 98 #[.slice A n c] w fun r w' => r = .returned (.int .i64 (orZ xs)) /\ Le w w' := by
 have hl := hV.1
 refine enter func98 rfl rfl ?_
 have L0 := Le.refl w
 refine WC.sr (W.run 1 rfl (W.nx (WC.sr (W.run 1 rfl (W.nx (WC.seq (WC.sr (W.run 1 rfl ?_))))))))
 refine W.r (.len underlying56 rfl) ?_
 refine W.run 1 rfl (W.nx (WC.block ?_))
 refine WC.loop (ι := Nat) (fun k => [(3, .int .i64 (0)), (6, .slice A n c), (7, .int .i64 (((n : Nat) : Int))), (8, .int .i64 (((k : Nat) : Int)))]) (fun k wl0 => (k <= n) /\ (∀ j, j < k -> xs.getD j 0 = 0) /\ Le w wl0 /\ w.heap.size <= wl0.heap.size) (fun k => n - k) 0 ?_ ?_ ?_
 ·exact .cons rfl (.cons rfl (.cons rfl (.cons rfl (.nil _))))
 ·exact ⟨Nat.zero_le _, fun j hj => absurd hj (Nat.not_lt_zero _), L0, Nat.le_refl _⟩
 rintro k wl0 ⟨hk, hz, Ll0, zl0⟩
 refine WC.sr (W.run 1 rfl (W.nx (WC.seq ?_)))
 by_cases c0 : ((k : Nat) : Int) < ((n : Nat) : Int)
 ·refine WC.condY rfl (decide_eq_true c0) ?_
  refine WC.sn (WC.seq (WC.block (WC.sr ?_)))
  refine W.a (.idxS (k) underlying56 sz3 rfl rfl (hV.isSome iv_row (by omega)) (rfl) (by omega)) ?_
  refine W.r (.vone (v := .int .i64 ((xs.getD k 0))) na3 rfl (hV.le Ll0) iv_row (getS xs 0 (by omega)) rfl) ?_
  refine W.run 1 rfl (W.nx (WC.sr (W.run 3 rfl (W.nx ?_))))
  by_cases c1 : (xs.getD k 0) ≠ 0
  ·refine WC.condY rfl (decide_eq_true c1) ?_
   refine WC.sr (W.run 2 rfl (W.nx (WC.ret (E.blkR (E.thenR (E.thenR (E.blkR (E.thenR ?_))))))))
   refine E.retG1 rfl rfl ?_
   exact ⟨by rw [orZ_skip xs k hz, List.drop_eq_getElem_cons (by omega), orZ, if_pos (by simpa [List.getD, show k < xs.length by omega] using c1)]; simp [List.getD, show k < xs.length by omega], Ll0⟩
  refine WC.condN rfl (decide_eq_false c1) ?_
  refine WC.skip (E.blkN (E.thenN (WC.region ?_)))
  refine W.a (.add rfl rfl (by omega)) ?_
  refine W.run 1 rfl (W.nil ?_)
  refine E.again (k + 1) (.cons rfl (.cons rfl (.cons rfl (.cons rfl (.nil _))))) ?_ ?_
  ·exact ⟨by omega, fun j hj => by rcases Nat.lt_or_ge j k with h | h; exact hz j h; rw [show j = k by omega]; exact Decidable.not_not.1 c1, Ll0, by have := zl0; omega⟩
  first | omega | (simp only []; omega)
 refine WC.condN rfl (decide_eq_false c0) ?_
 refine WC.exit (E.thenX (E.thenX (E.blkH (E.thenN (WC.sr (W.run 2 rfl (W.nx (WC.ret ?_))))))))
 refine E.retG1 rfl rfl ?_
 exact ⟨by rw [orZ_skip xs k hz, List.drop_of_length_le (by omega)]; rfl, Ll0⟩

theorem swithin1_ok (n lo hi : Int) {g1 g2 : Nat} (w : World) (hg1 : Blk w g1 3 #[.int .i64 lo]) (hg2 : Blk w g2 3 #[.int .i64 hi]) : Calls prog 81 #[.int .i64 (n), .pointer (some ⟨g1, 0, none⟩), .pointer (some ⟨g2, 0, none⟩)] w fun r w' => r = .returned (.bool (!inB n lo hi)) /\ Le w w' := by
 refine enter func81 rfl rfl ?_
 have L0 := Le.refl w
 refine WC.sr (W.run 1 rfl (W.nx (WC.sr (W.run 1 rfl ?_))))
 refine W.r (.loadB (v := .int .i64 (lo)) na3 rfl (hg1.le L0) rfl) ?_
 refine W.run 1 rfl ?_
 by_cases q1_3 : n < lo
 ·refine W.dt q1_3 rfl rfl (W.run 5 rfl (W.nx (WC.ret ?_)))
  refine E.retG1 rfl rfl ?_
  exact ⟨rB (by rw [Bool.eq_iff_iff]; simp [inB]; omega), L0⟩
 refine W.df q1_3 rfl rfl (W.run 1 rfl ?_)
 refine W.g (.loadB (v := .int .i64 (hi)) na3 rfl (hg2.le L0) rfl) ?_
 refine W.run 3 rfl (W.nx (WC.ret ?_))
 refine E.retG1 rfl rfl ?_
 exact ⟨rB (by rw [Bool.eq_iff_iff]; simp [inB]; omega), L0⟩

theorem sindexi_ok {A : Option Addr} {n c : Nat} {xs : List Int} {F : Nat} {caps : Array Value} (pr : Int -> Bool) (hgo : IsGo prog F) (w : World) (hV : Vec w iv 1 A n xs) (hn : n <= 1000000) (hf : ∀ (i : Int) (w1 : World), Le w w1 -> Calls prog F (#[.int .i64 i] ++ caps) w1 fun r w2 => r = .returned (.bool (pr i)) /\ Le w1 w2) : Calls prog 83 #[.slice A n c, .func (.func F) #[] caps] w fun r w' => r = .returned (.int .i64 (idxI pr xs)) /\ Le w w' := by
 have hl := hV.1
 refine enter func83 rfl rfl ?_
 have L0 := Le.refl w
 refine WC.sr (W.run 1 rfl (W.nx (WC.seq (WC.sr (W.run 1 rfl ?_)))))
 refine W.r (.len underlying56 rfl) ?_
 refine W.run 1 rfl (W.nx (WC.block ?_))
 refine WC.loop (ι := Nat) (fun k => [(0, .slice A n c), (1, .func (.func F) #[] caps), (7, .int .i64 (((n : Nat) : Int))), (8, .int .i64 (((k : Nat) : Int)))]) (fun k wl0 => (k <= n) /\ (∀ j, j < k -> ¬ pr (xs.getD j 0) = true) /\ Le w wl0 /\ w.heap.size <= wl0.heap.size) (fun k => n - k) 0 ?_ ?_ ?_
 ·exact .cons rfl (.cons rfl (.cons rfl (.cons rfl (.nil _))))
 ·exact ⟨Nat.zero_le _, fun j hj => absurd hj (Nat.not_lt_zero _), L0, Nat.le_refl _⟩
 rintro k wl0 ⟨hk, hz, Ll0, zl0⟩
 refine WC.sr (W.run 1 rfl (W.nx (WC.seq ?_)))
 by_cases c0 : ((k : Nat) : Int) < ((n : Nat) : Int)
 ·refine WC.condY rfl (decide_eq_true c0) ?_
  refine WC.sn (WC.seq (WC.block (WC.sr (W.run 2 rfl (W.nx (WC.sr (W.run 3 rfl ?_)))))))
  refine W.a (.idxS (k) underlying56 sz3 rfl rfl (hV.isSome iv_row (by omega)) (rfl) (by omega)) ?_
  refine W.r (.vone (v := .int .i64 ((xs.getD k 0))) na3 rfl (hV.le Ll0) iv_row (getS xs 0 (by omega)) rfl) ?_
  refine W.ef rfl rfl rfl ?_
  refine Ef.callC hgo rfl rfl rfl (hf _ _ Ll0) ?_
  rintro _ w4_5 ⟨rfl, h4_5⟩
  refine ⟨_, rfl, ?_⟩
  have L1 := Ll0.trans h4_5
  refine W.nx ?_
  by_cases c1 : (pr (xs.getD k 0)) = true
  ·refine WC.condY rfl (c1) ?_
   refine WC.sr (W.run 2 rfl (W.nx (WC.ret (E.blkR (E.thenR (E.thenR (E.blkR (E.thenR ?_))))))))
   refine E.retG1 rfl rfl ?_
   exact ⟨by rw [idxI_at (by omega) hz c1], L1⟩
  refine WC.condN rfl ((Bool.eq_false_iff.2 c1)) ?_
  refine WC.skip (E.blkN (E.thenN (WC.region ?_)))
  refine W.a (.add rfl rfl (by omega)) ?_
  refine W.run 1 rfl (W.nil ?_)
  refine E.again (k + 1) (.cons rfl (.cons rfl (.cons rfl (.cons rfl (.nil _))))) ?_ ?_
  ·exact ⟨by omega, fun j hj => by rcases Nat.lt_or_ge j k with h | h; exact hz j h; rw [show j = k by omega]; exact c1, L1, by have := zl0; have := h4_5.size; omega⟩
  first | omega | (simp only []; omega)
 refine WC.condN rfl (decide_eq_false c0) ?_
 refine WC.exit (E.thenX (E.thenX (E.blkH (E.thenN (WC.sr (W.run 1 rfl (W.nx (WC.ret ?_))))))))
 refine E.retG1 rfl rfl ?_
 exact ⟨by rw [idxI_no (k := k) (by omega) (fun j h1 _ => hz j h1)], Ll0⟩

theorem scontains_ok {A : Option Addr} {n c : Nat} {xs : List Int} {F : Nat} {caps : Array Value} (pr : Int -> Bool) (hgo : IsGo prog F) (w : World) (hV : Vec w iv 1 A n xs) (hn : n <= 1000000) (hf : ∀ (i : Int) (w1 : World), Le w w1 -> Calls prog F (#[.int .i64 i] ++ caps) w1 fun r w2 => r = .returned (.bool (pr i)) /\ Le w1 w2) : Calls prog 51 #[.slice A n c, .func (.func F) #[] caps] w fun r w' => r = .returned (.bool (xs.any pr)) /\ Le w w' := by
 have hl := hV.1
 refine enter func51 rfl rfl ?_
 have L0 := Le.refl w
 refine WC.sr (W.run 1 rfl (W.nx (WC.sr (W.run 2 rfl ?_))))
 refine W.cl go83 rfl rfl (sindexi_ok pr hgo w (hV.le L0) hn hf) ?_
 rintro _ w1_2 ⟨rfl, h1_2⟩
 have L1 := L0.trans h1_2
 refine W.run 2 rfl (W.nx (WC.ret ?_))
 refine E.retG1 rfl rfl ?_
 exact ⟨by rw [<- idxI_any], L1⟩

theorem swithin_ok (lo hi : Int) {A : Option Addr} {n c : Nat} {xs : List Int} (w : World) (hV : Vec w iv 1 A n xs) (hn : n <= 1000000) : Calls prog 48 #[.int .i64 (lo), .int .i64 (hi), .slice A n c] w fun r w' => r = .returned (.bool (xs.all fun n => inB n lo hi)) /\ Le w w' := by
 have hl := hV.1
 refine enter func48 rfl rfl ?_
 have L0 := Le.refl w
 refine WC.sr (W.ef rfl rfl rfl ?_)
 refine Ef.box rfl ?_
 intro g0_0 w0_0 hg0_0 b0_0 h0_0
 have L1 := L0.trans h0_0
 have b0_0 : Blk w0_0 g0_0 3 #[.int .i64 (lo)] := b0_0
 refine W.ef rfl rfl rfl ?_
 refine Ef.box rfl ?_
 intro g0_1 w0_1 hg0_1 b0_1 h0_1
 have L2 := L1.trans h0_1
 have b0_1 : Blk w0_1 g0_1 3 #[.int .i64 (hi)] := b0_1
 refine W.run 1 rfl (W.nx (WC.sr (W.run 1 rfl ?_)))
 refine W.a (.makeFunc rfl) ?_
 have f3 := (b0_0.le h0_1)
 refine W.cl go51 rfl rfl (scontains_ok (fun n => !inB n lo hi) go81 w0_1 (hV.le L2) (by omega) (fun n w1 hl => swithin1_ok n lo hi w1 (f3.le hl) (b0_1.le hl))) ?_
 rintro _ w1_2 ⟨rfl, h1_2⟩
 have L4 := L2.trans h1_2
 refine W.run 2 rfl (W.nx (WC.ret ?_))
 refine E.retG1 rfl rfl ?_
 exact ⟨by rw [<- all_not], L4⟩

theorem swithinc1_ok (lo hi : Int) {A : Option Addr} {c : Nat} {a : Int} (w : World) (hV : Vec w iv 1 A 1 [a]) : Calls prog 48 #[.int .i64 lo, .int .i64 hi, .slice A 1 c] w fun r w' => r = .returned (.bool (inB a lo hi)) /\ Le w w' := by
  have := swithin_ok lo hi (c := c) w hV (by decide)
  simpa using this
theorem swithinc2_ok (lo hi : Int) {A : Option Addr} {c : Nat} {a b : Int} (w : World) (hV : Vec w iv 1 A 2 [a, b]) : Calls prog 48 #[.int .i64 lo, .int .i64 hi, .slice A 2 c] w fun r w' => r = .returned (.bool (inB a lo hi && inB b lo hi)) /\ Le w w' := by
  have := swithin_ok lo hi (c := c) w hV (by decide)
  simpa using this

theorem sfine_ok (c : Cnd) (hc : FineC c) (w : World) : Calls prog 40 #[.agg (condV c).toArray] w fun r w' => r = .returned (.bool true) /\ Le w w' := by
 have hclt := fine_lt hc
 have hf := hc; unfold FineC at hf
 have hf5 := hf.2.2.2.2.1
 have hf6 := hf.2.2.2.2.2
 refine enter func40 rfl rfl ?_
 have L0 := Le.refl w
 refine WC.sr (W.ef rfl rfl rfl ?_)
 refine Ef.boxA rfl ?_
 intro g0_0 w0_0 hg0_0 b0_0 h0_0
 have L1 := L0.trans h0_0
 have b0_0 : Blk w0_0 g0_0 66 (condV c).toArray := b0_0
 refine W.run 1 rfl (W.nx (WC.sr ?_))
 refine W.a (.field0 fa66_0 rfl) ?_
 refine W.r (.loadB (v := .int .i64 (c.fr)) na3 rfl b0_0 rfl) ?_
 refine W.ef rfl rfl rfl ?_
 refine Ef.buildSliceV (len := 1) [_] underlying56 el3 rfl (by simp [Value.cells]) rfl (by decide) (by decide) ?_
 intro g1_2 w1_2 hg1_2 b1_2 h1_2
 have L2 := L1.trans h1_2
 have b1_2 : Blk w1_2 g1_2 3 (([c.fr]).map iv).flatten.toArray := b1_2
 have o1_2 : OVec w1_2 w0_0.heap.size 3 iv 1 (some ⟨g1_2, 0, none⟩) 1 1 ([c.fr]) := b1_2.ovec hg1_2 iv_row rfl rfl (by decide)
 refine W.cl go48 rfl rfl ((by have k := swithinc1_ok (c := 1) 0 1 w1_2 o1_2.vec; rw [inB_t (n := c.fr) (lo := 0) (hi := 1) (by omega)] at k; exact k)) ?_
 rintro _ w1_3 ⟨rfl, h1_3⟩
 have L3 := L2.trans h1_3
 refine W.run 1 rfl ?_
 refine W.g (Any.rd (.field0 fa66_1 rfl) _) ?_
 have f4 := (b0_0.le (h1_2.trans h1_3))
 refine W.g (.loadB (v := .int .i64 (c.id)) na3 rfl f4 rfl) ?_
 refine W.efg rfl rfl rfl (rfl) rfl rfl ?_
 refine Ef.buildSliceV (len := 1) [_] underlying56 el3 rfl (by simp [Value.cells]) rfl (by decide) (by decide) ?_
 intro g1_7 w1_7 hg1_7 b1_7 h1_7
 have L5 := L3.trans h1_7
 have b1_7 : Blk w1_7 g1_7 3 (([c.id]).map iv).flatten.toArray := b1_7
 have o1_7 : OVec w1_7 w1_3.heap.size 3 iv 1 (some ⟨g1_7, 0, none⟩) 1 1 ([c.id]) := b1_7.ovec hg1_7 iv_row rfl rfl (by decide)
 refine W.efg rfl rfl rfl (rfl) rfl rfl ?_
 refine Ef.call go48 rfl rfl ((by have k := swithinc1_ok (c := 1) 1 1048576 w1_7 o1_7.vec; rw [inB_t (n := c.id) (lo := 1) (hi := 1048576) (by omega)] at k; exact k)) ?_
 rintro _ w1_8 ⟨rfl, h1_8⟩
 refine ⟨_, rfl, ?_⟩
 have L6 := L5.trans h1_8
 refine W.run 2 rfl ?_
 refine W.g (Any.rd (.field0 fa66_2 rfl) _) ?_
 have f7 := (f4.le (h1_7.trans h1_8))
 refine W.g (.loadB (v := .int .i64 (c.am)) na3 rfl f7 rfl) ?_
 refine W.efg rfl rfl rfl (rfl) rfl rfl ?_
 refine Ef.buildSliceV (len := 1) [_] underlying56 el3 rfl (by simp [Value.cells]) rfl (by decide) (by decide) ?_
 intro g1_13 w1_13 hg1_13 b1_13 h1_13
 have L8 := L6.trans h1_13
 have b1_13 : Blk w1_13 g1_13 3 (([c.am]).map iv).flatten.toArray := b1_13
 have o1_13 : OVec w1_13 w1_8.heap.size 3 iv 1 (some ⟨g1_13, 0, none⟩) 1 1 ([c.am]) := b1_13.ovec hg1_13 iv_row rfl rfl (by decide)
 refine W.efg rfl rfl rfl (rfl) rfl rfl ?_
 refine Ef.call go48 rfl rfl ((by have k := swithinc1_ok (c := 1) 1 1125899906842624 w1_13 o1_13.vec; rw [inB_t (n := c.am) (lo := 1) (hi := 1125899906842624) (by omega)] at k; exact k)) ?_
 rintro _ w1_14 ⟨rfl, h1_14⟩
 refine ⟨_, rfl, ?_⟩
 have L9 := L8.trans h1_14
 refine W.run 2 rfl ?_
 refine W.g (Any.rd (.field0 fa66_4 rfl) _) ?_
 have f10 := (f7.le (h1_13.trans h1_14))
 refine W.g (.loadB (v := .int .i64 (c.ex)) na3 rfl f10 rfl) ?_
 refine W.efg rfl rfl rfl (rfl) rfl rfl ?_
 refine Ef.buildSliceV (len := 1) [_] underlying56 el3 rfl (by simp [Value.cells]) rfl (by decide) (by decide) ?_
 intro g1_19 w1_19 hg1_19 b1_19 h1_19
 have L11 := L9.trans h1_19
 have b1_19 : Blk w1_19 g1_19 3 (([c.ex]).map iv).flatten.toArray := b1_19
 have o1_19 : OVec w1_19 w1_14.heap.size 3 iv 1 (some ⟨g1_19, 0, none⟩) 1 1 ([c.ex]) := b1_19.ovec hg1_19 iv_row rfl rfl (by decide)
 refine W.efg rfl rfl rfl (rfl) rfl rfl ?_
 refine Ef.call go48 rfl rfl ((by have k := swithinc1_ok (c := 1) 1 1048576 w1_19 o1_19.vec; rw [inB_t (n := c.ex) (lo := 1) (hi := 1048576) (by omega)] at k; exact k)) ?_
 rintro _ w1_20 ⟨rfl, h1_20⟩
 refine ⟨_, rfl, ?_⟩
 have L12 := L11.trans h1_20
 refine W.run 2 rfl ?_
 refine W.g (Any.rd (.field0 fa66_3 rfl) _) ?_
 have f13 := (f10.le (h1_19.trans h1_20))
 refine W.g (.loadB (v := .int .u64 (((c.pt : Nat) : Int))) na35 rfl f13 rfl) ?_
 refine W.efg rfl rfl rfl (rfl) rfl rfl ?_
 refine Ef.call go45 rfl rfl ((by have k := pright_ok c.pt (by omega) w1_20; rw [hf5] at k; exact k)) ?_
 rintro _ w1_25 ⟨rfl, h1_25⟩
 refine ⟨_, rfl, ?_⟩
 have L14 := L12.trans h1_25
 refine W.run 2 rfl ?_
 refine W.g (Any.rd (.field0 fa66_3 rfl) _) ?_
 have f15 := (f13.le h1_25)
 refine W.g (.loadB (v := .int .u64 (((c.pt : Nat) : Int))) na35 rfl f15 rfl) ?_
 refine W.run 3 rfl (W.nx (WC.ret ?_))
 refine E.retG1 rfl rfl ?_
 exact ⟨rB (dT (by omega)), L14⟩

theorem sahead_ok (a b : Cnd) (w : World) : Calls prog 72 #[.agg (condV a).toArray, .agg (condV b).toArray] w fun r w' => r = .returned (.int .i64 (aheadC a b)) /\ Le w w' := by
 refine enter func72 rfl rfl ?_
 have L0 := Le.refl w
 refine WC.sr (W.ef rfl rfl rfl ?_)
 refine Ef.boxA rfl ?_
 intro g0_0 w0_0 hg0_0 b0_0 h0_0
 have L1 := L0.trans h0_0
 have b0_0 : Blk w0_0 g0_0 66 (condV a).toArray := b0_0
 refine W.ef rfl rfl rfl ?_
 refine Ef.boxA rfl ?_
 intro g0_1 w0_1 hg0_1 b0_1 h0_1
 have L2 := L1.trans h0_1
 have b0_1 : Blk w0_1 g0_1 66 (condV b).toArray := b0_1
 refine W.run 1 rfl (W.nx (WC.seq ?_))
 refine WC.draw [0, 1, 2, 3, 5, 6, 7, 8, 4, 9, 10, 11, 12] mixed (by kernel_rfl) ?_
 intro w1 d1
 have L3 := L2.trans d1
 refine G.a rfl (.field0 fa66_0 rfl) ?_
 have f4 := (b0_0.le (h0_1.trans d1))
 refine G.r rfl (.loadB (v := .int .i64 (a.fr)) na3 rfl f4 rfl) ?_
 refine G.a rfl (.field0 fa66_0 rfl) ?_
 have f5 := (b0_1.le d1)
 refine G.r rfl (.loadB (v := .int .i64 (b.fr)) na3 rfl f5 rfl) ?_
 refine G.a rfl (.field0 fa66_1 rfl) ?_
 refine G.r rfl (.loadB (v := .int .i64 (a.id)) na3 rfl f4 rfl) ?_
 refine G.a rfl (.field0 fa66_1 rfl) ?_
 refine G.r rfl (.loadB (v := .int .i64 (b.id)) na3 rfl f5 rfl) ?_
 refine G.ef rfl rfl rfl rfl rfl ?_
 refine Ef.call go99 rfl rfl (scompare_ok a.fr b.fr w1) ?_
 rintro _ w1_4 ⟨rfl, h1_4⟩
 refine ⟨_, rfl, ?_⟩
 refine ⟨fun _ => h1_4, ?_⟩
 have L6 := L3.trans h1_4
 refine G.ef rfl rfl rfl rfl rfl ?_
 refine Ef.call go99 rfl rfl (scompare_ok a.id b.id w1_4) ?_
 rintro _ w1_9 ⟨rfl, h1_9⟩
 refine ⟨_, rfl, ?_⟩
 refine ⟨fun _ => h1_9, ?_⟩
 have L7 := L6.trans h1_9
 refine G.ef rfl rfl rfl rfl rfl ?_
 refine Ef.buildSliceV (len := 2) [_, _] underlying56 el3 rfl (by simp [Value.cells]) rfl (by decide) (by decide) ?_
 intro g1_10 w1_10 hg1_10 b1_10 h1_10
 refine ⟨fun _ => h1_10, ?_⟩
 have L8 := L7.trans h1_10
 have b1_10 : Blk w1_10 g1_10 3 (([(cmpI a.fr b.fr), (cmpI a.id b.id)]).map iv).flatten.toArray := b1_10
 have o1_10 : OVec w1_10 w1_9.heap.size 3 iv 1 (some ⟨g1_10, 0, none⟩) 2 2 ([(cmpI a.fr b.fr), (cmpI a.id b.id)]) := b1_10.ovec hg1_10 iv_row rfl rfl (by decide)
 refine G.ef rfl rfl rfl rfl rfl ?_
 refine Ef.call go98 rfl rfl (sor2_ok w1_10 o1_10.vec (by decide)) ?_
 rintro _ w1_11 ⟨rfl, h1_11⟩
 refine ⟨_, rfl, ?_⟩
 refine ⟨fun _ => h1_11, ?_⟩
 have L9 := L8.trans h1_11
 refine G.run 1 rfl (G.nil (E.thenN (WC.ret ?_)))
 refine E.retG1 rfl rfl ?_
 exact ⟨rfl, L9⟩

theorem tin_ok (n lo hi : Int) (w : World) : Calls prog 113 #[.int .i64 (n), .int .i64 (lo), .int .i64 (hi)] w fun r w' => r = .returned (.bool (inB n lo hi)) /\ Le w w' := by
 refine enter func113 rfl rfl ?_
 have L0 := Le.refl w
 refine WC.sr (W.run 1 rfl (W.nx (WC.sr (W.run 3 rfl ?_))))
 by_cases q1_3 : lo <= n
 ·refine W.dt q1_3 rfl rfl (W.run 5 rfl (W.nx (WC.ret ?_)))
  refine E.retG1 rfl rfl ?_
  exact ⟨(by first | rfl | (simp [inB, q1_3]; done) | (simp [inB, q1_3]; omega) | (simp [inB, q1_3]; split <;> first | (exfalso; omega) | (simp; done) | (simp; omega))), L0⟩
 refine W.df q1_3 rfl rfl (W.run 5 rfl (W.nx (WC.ret ?_)))
 refine E.retG1 rfl rfl ?_
 exact ⟨(by first | rfl | (simp [inB, q1_3]; done) | (simp [inB, q1_3]; omega) | (simp [inB, q1_3]; split <;> first | (exfalso; omega) | (simp; done) | (simp; omega))), L0⟩

theorem tright_ok (d r de co le mo : Int) (h : (0 <= d /\ d <= 65536) /\ (d <= r /\ r <= 1125899906842624) /\ (1 <= de /\ de <= 4096) /\ (0 <= co /\ co <= 16) /\ (1 <= le /\ le <= 1125899906842624) /\ 0 <= mo /\ mo <= 1125899906842624) (w : World) : Calls prog 96 #[.agg #[.int .i64 (d), .int .i64 (r), .int .i64 (de), .int .i64 (co), .int .i64 (le), .int .i64 (mo)]] w fun r w' => r = .returned (.bool true) /\ Le w w' := by
 refine enter func96 rfl rfl ?_
 have L0 := Le.refl w
 refine WC.sr (W.ef rfl rfl rfl ?_)
 refine Ef.boxA rfl ?_
 intro g0_0 w0_0 hg0_0 b0_0 h0_0
 have L1 := L0.trans h0_0
 have b0_0 : Blk w0_0 g0_0 40 #[.int .i64 (d), .int .i64 (r), .int .i64 (de), .int .i64 (co), .int .i64 (le), .int .i64 (mo)] := b0_0
 refine W.run 1 rfl (W.nx (WC.sr (W.run 1 rfl (W.nx (WC.sr (W.run 1 rfl ?_))))))
 refine W.a (.field0 fa40_0 rfl) ?_
 refine W.r (.loadB (v := .int .i64 (d)) na3 rfl b0_0 rfl) ?_
 refine W.cl go113 rfl rfl (tin_ok d 0 65536 w0_0) ?_
 rintro _ w2_3 ⟨rfl, h2_3⟩
 have L2 := L1.trans h2_3
 by_cases q2_4 : (inB d 0 65536) = true
 ·refine W.a (.dec (.move rfl) (q2_4)) ?_
  refine W.run 1 rfl ?_
  refine W.g (Any.rd (.field0 fa40_2 rfl) _) ?_
  have f3 := (b0_0.le h2_3)
  refine W.g (.loadB (v := .int .i64 (de)) na3 rfl f3 rfl) ?_
  refine W.efg rfl rfl rfl (rfl) rfl rfl ?_
  refine Ef.call go113 rfl rfl (tin_ok de 1 4096 w2_3) ?_
  rintro _ w2_8 ⟨rfl, h2_8⟩
  refine ⟨_, rfl, ?_⟩
  have L4 := L2.trans h2_8
  refine W.run 1 rfl ?_
  by_cases q2_10 : (inB de 1 4096) = true
  ·refine W.a (.dec (.move rfl) (q2_10)) ?_
   refine W.run 1 rfl ?_
   refine W.g (Any.rd (.field0 fa40_3 rfl) _) ?_
   have f5 := (f3.le h2_8)
   refine W.g (.loadB (v := .int .i64 (co)) na3 rfl f5 rfl) ?_
   refine W.efg rfl rfl rfl (rfl) rfl rfl ?_
   refine Ef.call go113 rfl rfl (tin_ok co 0 16 w2_8) ?_
   rintro _ w2_14 ⟨rfl, h2_14⟩
   refine ⟨_, rfl, ?_⟩
   have L6 := L4.trans h2_14
   refine W.run 2 rfl (W.nx (WC.sr (W.run 1 rfl ?_)))
   by_cases q3_1 : (inB co 0 16) = true
   ·refine W.a (.dec (.move rfl) (q3_1)) ?_
    refine W.run 1 rfl ?_
    refine W.g (Any.rd (.field0 fa40_1 rfl) _) ?_
    have f7 := (f5.le h2_14)
    refine W.g (.loadB (v := .int .i64 (r)) na3 rfl f7 rfl) ?_
    refine W.g (Any.rd (.field0 fa40_0 rfl) _) ?_
    refine W.g (.loadB (v := .int .i64 (d)) na3 rfl f7 rfl) ?_
    refine W.efg rfl rfl rfl (rfl) rfl rfl ?_
    refine Ef.call go113 rfl rfl (tin_ok r d 1125899906842624 w2_14) ?_
    rintro _ w3_7 ⟨rfl, h3_7⟩
    refine ⟨_, rfl, ?_⟩
    have L8 := L6.trans h3_7
    refine W.run 1 rfl ?_
    by_cases q3_9 : (inB r d 1125899906842624) = true
    ·refine W.a (.dec (.move rfl) (q3_9)) ?_
     refine W.run 1 rfl ?_
     refine W.g (Any.rd (.field0 fa40_4 rfl) _) ?_
     have f9 := (f7.le h3_7)
     refine W.g (.loadB (v := .int .i64 (le)) na3 rfl f9 rfl) ?_
     refine W.efg rfl rfl rfl (rfl) rfl rfl ?_
     refine Ef.call go113 rfl rfl (tin_ok le 1 1125899906842624 w3_7) ?_
     rintro _ w3_13 ⟨rfl, h3_13⟩
     refine ⟨_, rfl, ?_⟩
     have L10 := L8.trans h3_13
     refine W.run 1 rfl ?_
     by_cases q3_15 : (inB le 1 1125899906842624) = true
     ·refine W.a (.dec (.move rfl) (q3_15)) ?_
      refine W.run 1 rfl ?_
      refine W.g (Any.rd (.field0 fa40_5 rfl) _) ?_
      have f11 := (f9.le h3_13)
      refine W.g (.loadB (v := .int .i64 (mo)) na3 rfl f11 rfl) ?_
      refine W.efg rfl rfl rfl (rfl) rfl rfl ?_
      refine Ef.call go113 rfl rfl (tin_ok mo 0 1125899906842624 w3_13) ?_
      rintro _ w3_19 ⟨rfl, h3_19⟩
      refine ⟨_, rfl, ?_⟩
      have L12 := L10.trans h3_19
      refine W.run 2 rfl (W.nx (WC.ret ?_))
      refine E.retG1 rfl rfl ?_
      exact ⟨rB (by simp [inB]; omega), L12⟩
     refine W.a (.dec (.move rfl) ((Bool.eq_false_iff.2 q3_15))) ?_
     refine W.run 6 rfl (W.nx (WC.ret ?_))
     refine E.retG1 rfl rfl ?_
     exfalso; simp only [inB, decide_eq_true_eq] at *; omega
    refine W.a (.dec (.move rfl) ((Bool.eq_false_iff.2 q3_9))) ?_
    refine W.run 12 rfl (W.nx (WC.ret ?_))
    refine E.retG1 rfl rfl ?_
    exfalso; simp only [inB, decide_eq_true_eq] at *; omega
   refine W.a (.dec (.move rfl) ((Bool.eq_false_iff.2 q3_1))) ?_
   refine W.run 20 rfl (W.nx (WC.ret ?_))
   refine E.retG1 rfl rfl ?_
   exfalso; simp only [inB, decide_eq_true_eq] at *; omega
  refine W.a (.dec (.move rfl) ((Bool.eq_false_iff.2 q2_10))) ?_
  refine W.run 6 rfl (W.nx (WC.sr (W.run 22 rfl (W.nx (WC.ret ?_)))))
  refine E.retG1 rfl rfl ?_
  exfalso; simp only [inB, decide_eq_true_eq] at *; omega
 refine W.a (.dec (.move rfl) ((Bool.eq_false_iff.2 q2_4))) ?_
 refine W.run 12 rfl (W.nx (WC.sr (W.run 22 rfl (W.nx (WC.ret ?_)))))
 refine E.retG1 rfl rfl ?_
 exfalso; simp only [inB, decide_eq_true_eq] at *; omega

theorem twrong_ok (q : Nat) (hq : PtOk q) (w : World) : Calls prog 114 #[.int .u64 (((q : Nat) : Int))] w fun r w' => r = .returned (.bool false) /\ Le w w' := by
 have hq3 := hq.2.2
 have hq1 := hq.1
 have hq2 := hq.2.1
 refine enter func114 rfl rfl ?_
 have L0 := Le.refl w
 refine WC.sr (W.run 1 rfl (W.nx (WC.sr (W.run 2 rfl ?_))))
 by_cases q1_2 : ((q : Nat) : Int) = 1
 ·refine W.dt q1_2 rfl rfl (W.run 5 rfl (W.nx (WC.ret ?_)))
  refine E.retG1 rfl rfl ?_
  exfalso; omega
 refine W.df q1_2 rfl rfl (W.run 1 rfl ?_)
 refine W.efg rfl rfl rfl (rfl) rfl rfl ?_
 refine Ef.call go45 rfl rfl (pright_ok q (by first | assumption | omega) w) ?_
 rintro _ w1_4 ⟨rfl, h1_4⟩
 refine ⟨_, rfl, ?_⟩
 have L1 := L0.trans h1_4
 refine W.run 3 rfl (W.nx (WC.ret ?_))
 refine E.retG1 rfl rfl ?_
 exact ⟨rB (by rw [hq1]; rfl), L1⟩

theorem sindexp_ok {A : Option Addr} {n c : Nat} {xs : List Nat} {F : Nat} {caps : Array Value} (hgo : IsGo prog F) (w : World) (hV : Vec w pv1 1 A n xs) (hn : n <= 1000000) (hz : ∀ q ∈ xs, PtOk q) (hf : ∀ (q : Nat) (w1 : World), PtOk q -> Le w w1 -> Calls prog F (#[.int .u64 ((q : Nat) : Int)] ++ caps) w1 fun r w2 => r = .returned (.bool false) /\ Le w1 w2) : Calls prog 135 #[.slice A n c, .func (.func F) #[] caps] w fun r w' => r = .returned (.int .i64 (-1)) /\ Le w w' := by
 have hl := hV.1
 refine enter func135 rfl rfl ?_
 have L0 := Le.refl w
 refine WC.sr (W.run 1 rfl (W.nx (WC.seq (WC.sr (W.run 1 rfl ?_)))))
 refine W.r (.len underlying150 rfl) ?_
 refine W.run 1 rfl (W.nx (WC.block ?_))
 refine WC.loop (ι := Nat) (fun k => [(0, .slice A n c), (1, .func (.func F) #[] caps), (7, .int .i64 (((n : Nat) : Int))), (8, .int .i64 (((k : Nat) : Int)))]) (fun k wl0 => (k <= n) /\ Le w wl0 /\ w.heap.size <= wl0.heap.size) (fun k => n - k) 0 ?_ ?_ ?_
 ·exact .cons rfl (.cons rfl (.cons rfl (.cons rfl (.nil _))))
 ·exact ⟨Nat.zero_le _, L0, Nat.le_refl _⟩
 rintro k wl0 ⟨hk, Ll0, zl0⟩
 refine WC.sr (W.run 1 rfl (W.nx (WC.seq ?_)))
 by_cases c0 : ((k : Nat) : Int) < ((n : Nat) : Int)
 ·refine WC.condY rfl (decide_eq_true c0) ?_
  refine WC.sn (WC.seq (WC.block (WC.sr (W.run 2 rfl (W.nx (WC.sr (W.run 3 rfl ?_)))))))
  refine W.a (.idxS (k) underlying150 sz35 rfl rfl (hV.isSome pv1_row (by omega)) (rfl) (by omega)) ?_
  refine W.r (.vone (v := .int .u64 ((((xs.getD k 0) : Nat) : Int))) na35 rfl (hV.le Ll0) pv1_row (getS xs 0 (by omega)) rfl) ?_
  refine W.ef rfl rfl rfl ?_
  refine Ef.callC hgo rfl rfl rfl (hf _ _ (hz _ (getD_inS (z := 0) (by omega))) Ll0) ?_
  rintro _ w4_5 ⟨rfl, h4_5⟩
  refine ⟨_, rfl, ?_⟩
  have L1 := Ll0.trans h4_5
  refine W.nx (WC.condF rfl (WC.skip (E.blkN (E.thenN (WC.region ?_)))))
  refine W.a (.add rfl rfl (by omega)) ?_
  refine W.run 1 rfl (W.nil ?_)
  refine E.again (k + 1) (.cons rfl (.cons rfl (.cons rfl (.cons rfl (.nil _))))) ?_ ?_
  ·exact ⟨by omega, L1, by have := zl0; have := h4_5.size; omega⟩
  first | omega | (simp only []; omega)
 refine WC.condN rfl (decide_eq_false c0) ?_
 refine WC.exit (E.thenX (E.thenX (E.blkH (E.thenN (WC.sr (W.run 1 rfl (W.nx (WC.ret ?_))))))))
 refine E.retG1 rfl rfl ?_
 exact ⟨rfl, Ll0⟩

theorem scontainsp_ok {A : Option Addr} {n c : Nat} {xs : List Nat} {F : Nat} {caps : Array Value} (hgo : IsGo prog F) (w : World) (hV : Vec w pv1 1 A n xs) (hn : n <= 1000000) (hz : ∀ q ∈ xs, PtOk q) (hf : ∀ (q : Nat) (w1 : World), PtOk q -> Le w w1 -> Calls prog F (#[.int .u64 ((q : Nat) : Int)] ++ caps) w1 fun r w2 => r = .returned (.bool false) /\ Le w1 w2) : Calls prog 115 #[.slice A n c, .func (.func F) #[] caps] w fun r w' => r = .returned (.bool false) /\ Le w w' := by
 have hl := hV.1
 refine enter func115 rfl rfl ?_
 have L0 := Le.refl w
 refine WC.sr (W.run 1 rfl (W.nx (WC.sr (W.run 2 rfl ?_))))
 refine W.cl go135 rfl rfl (sindexp_ok hgo w (hV.le L0) hn hz hf) ?_
 rintro _ w1_2 ⟨rfl, h1_2⟩
 have L1 := L0.trans h1_2
 refine W.a (.dec (.geq rfl rfl) (show _ = false from by first | decide | rfl)) ?_
 refine W.run 1 rfl (W.nx (WC.ret ?_))
 refine E.retG1 rfl rfl ?_
 exact ⟨rfl, L1⟩

theorem tpoints_ok (b0 b1 b2 b3 b4 : Nat) (hb : PtOk b0 /\ PtOk b1 /\ PtOk b2 /\ PtOk b3 /\ PtOk b4) (w : World) : Calls prog 97 #[.agg #[.int .u64 (((b0 : Nat) : Int)), .int .u64 (((b1 : Nat) : Int)), .int .u64 (((b2 : Nat) : Int)), .int .u64 (((b3 : Nat) : Int)), .int .u64 (((b4 : Nat) : Int))]] w fun r w' => r = .returned (.bool true) /\ Le w w' := by
 have hall : ∀ q ∈ [b0, b1, b2, b3, b4], PtOk q := fun q hq => by simp only [List.mem_cons, List.not_mem_nil, or_false] at hq; rcases hq with rfl | rfl | rfl | rfl | rfl; exact hb.1; exact hb.2.1; exact hb.2.2.1; exact hb.2.2.2.1; exact hb.2.2.2.2
 refine enter func97 rfl rfl ?_
 have L0 := Le.refl w
 refine WC.sr (W.ef rfl rfl rfl ?_)
 refine Ef.boxA rfl ?_
 intro g0_0 w0_0 hg0_0 b0_0 h0_0
 have L1 := L0.trans h0_0
 have b0_0 : Blk w0_0 g0_0 37 #[.int .u64 (((b0 : Nat) : Int)), .int .u64 (((b1 : Nat) : Int)), .int .u64 (((b2 : Nat) : Int)), .int .u64 (((b3 : Nat) : Int)), .int .u64 (((b4 : Nat) : Int))] := b0_0
 refine W.run 1 rfl (W.nx (WC.sr (W.run 1 rfl (W.nx (WC.sr ?_)))))
 refine W.a (.field0 fa37_0 rfl) ?_
 refine W.r (.loadB (v := .int .u64 (((b0 : Nat) : Int))) na35 rfl b0_0 rfl) ?_
 refine W.a (.field0 fa37_1 rfl) ?_
 refine W.r (.loadB (v := .int .u64 (((b1 : Nat) : Int))) na35 rfl b0_0 rfl) ?_
 refine W.a (.field0 fa37_2 rfl) ?_
 refine W.r (.loadB (v := .int .u64 (((b2 : Nat) : Int))) na35 rfl b0_0 rfl) ?_
 refine W.a (.field0 fa37_3 rfl) ?_
 refine W.r (.loadB (v := .int .u64 (((b3 : Nat) : Int))) na35 rfl b0_0 rfl) ?_
 refine W.a (.field0 fa37_4 rfl) ?_
 refine W.r (.loadB (v := .int .u64 (((b4 : Nat) : Int))) na35 rfl b0_0 rfl) ?_
 refine W.ef rfl rfl rfl ?_
 refine Ef.buildSliceV (len := 5) [_, _, _, _, _] underlying150 el35 rfl (by simp [Value.cells]) rfl (by decide) (by decide) ?_
 intro g2_10 w2_10 hg2_10 b2_10 h2_10
 have L2 := L1.trans h2_10
 have b2_10 : Blk w2_10 g2_10 35 (([b0, b1, b2, b3, b4]).map pv1).flatten.toArray := b2_10
 have o2_10 : OVec w2_10 w0_0.heap.size 35 pv1 1 (some ⟨g2_10, 0, none⟩) 5 5 ([b0, b1, b2, b3, b4]) := b2_10.ovec hg2_10 pv1_row rfl rfl (by decide)
 refine W.run 1 rfl ?_
 refine W.cl go115 rfl rfl (scontainsp_ok go114 w2_10 o2_10.vec (by decide) hall (fun q w1 hq _ => twrong_ok q hq w1)) ?_
 rintro _ w2_12 ⟨rfl, h2_12⟩
 have L3 := L2.trans h2_12
 refine W.run 2 rfl (W.nx (WC.ret ?_))
 refine E.retG1 rfl rfl ?_
 exact ⟨rfl, L3⟩

set_option maxHeartbeats 4000000 in
theorem tfit_ok (c : Chn) (hc : ChnOk c) (w : World) : Calls prog 71 #[.agg (chnV c).toArray] w fun r w' => r = .returned (.int .i64 0) /\ Le w w' := by
 have ham := hc.am; have hop := hc.op; have hpt := hc.pts
 refine enter func71 rfl rfl ?_
 have L0 := Le.refl w
 refine WC.sr (W.ef rfl rfl rfl ?_)
 refine Ef.boxA rfl ?_
 intro g0_0 w0_0 hg0_0 b0_0 h0_0
 have L1 := L0.trans h0_0
 have b0_0 : Blk w0_0 g0_0 43 (chnV c).toArray := b0_0
 refine W.run 1 rfl (W.nx (WC.seq (WC.sr ?_)))
 refine W.a (.field0 fa43_1 rfl) ?_
 refine W.r (.loadB (v := .int .i64 (c.am)) na3 rfl b0_0 rfl) ?_
 refine W.run 1 rfl ?_
 by_cases q1_3 : c.am < 1
 ·refine W.dt q1_3 rfl rfl (W.run 22 rfl (W.nx (WC.condT rfl (WC.sr (W.run 1 rfl (W.nx (WC.ret (E.thenR ?_))))))))
  refine E.retG1 rfl rfl ?_
  exfalso; omega
 refine W.df q1_3 rfl rfl ?_
 refine W.g (Any.rd (.field0 fa43_1 rfl) _) ?_
 refine W.g (.loadB (v := .int .i64 (c.am)) na3 rfl b0_0 rfl) ?_
 refine W.run 2 rfl ?_
 by_cases q1_8 : 1125899906842624 < c.am
 ·refine W.dt q1_8 rfl rfl (W.run 17 rfl (W.nx (WC.condT rfl (WC.sr (W.run 1 rfl (W.nx (WC.ret (E.thenR ?_))))))))
  refine E.retG1 rfl rfl ?_
  exfalso; omega
 refine W.df q1_8 rfl rfl ?_
 refine W.g (Any.rd (.field0 fa43_0 rfl) _) ?_
 refine W.g (Any.rd (.field0 fa33_1 rfl) _) ?_
 refine W.g (.loadB (v := .int .i64 (0)) na3 rfl b0_0 rfl) ?_
 refine W.g (Any.rd (.dec (.lss rfl rfl) (show _ = false from by first | decide | rfl)) _) ?_
 refine W.run 2 rfl ?_
 refine W.g (Any.rd (.field0 fa43_0 rfl) _) ?_
 refine W.g (Any.rd (.field0 fa33_1 rfl) _) ?_
 refine W.g (.loadB (v := .int .i64 (0)) na3 rfl b0_0 rfl) ?_
 refine W.g (Any.rd (.dec (.geq rfl rfl) (show _ = false from by first | decide | rfl)) _) ?_
 refine W.run 2 rfl ?_
 refine W.g (Any.rd (.field0 fa43_4 rfl) _) ?_
 refine W.g (.loadB (v := .int .i64 (c.op)) na3 rfl b0_0 rfl) ?_
 refine W.g (Any.rd (.andNot1 rfl rfl (by omega)) _) ?_
 refine W.g (Any.rd (.dec (.neq rfl rfl) (show _ = false from by first | decide | rfl)) _) ?_
 refine W.run 1 rfl (W.nx (WC.condF rfl (WC.sn (WC.seq (WC.sr ?_)))))
 refine W.a (.field0 fa43_3 rfl) ?_
 refine W.r (.bpart [.int .i64 (100), .int .i64 (200), .int .i64 (5), .int .i64 (16), .int .i64 (1), .int .i64 (1125899906842624), .int .i64 (100), .int .i64 (200), .int .i64 (6), .int .i64 (16), .int .i64 (1), .int .i64 (1125899906842624)] ag41 rfl (by decide) rfl b0_0 rfl) ?_
 refine W.run 1 rfl (W.nx (WC.block ?_))
 refine WC.rounds 3 ?_
 refine RCn.step ?_
 refine WC.sr ?_
 refine W.a (.dec (.lss rfl rfl) (show _ = true from by first | decide | rfl)) ?_
 refine W.nx (WC.seq (WC.condT rfl (WC.sn (WC.seq (WC.block (WC.sr (W.run 1 rfl ?_)))))))
 refine W.a (.indexS (0) [.int .i64 (100), .int .i64 (200), .int .i64 (5), .int .i64 (16), .int .i64 (1), .int .i64 (1125899906842624)] underlying41 sz40 ag40 rfl rfl (rfl) (by omega) rfl) ?_
 refine W.ef rfl rfl rfl ?_
 refine Ef.allocA z40 ?_
 intro g5_2 w5_2 hg5_2 b5_2 h5_2
 have L2 := L1.trans h5_2
 have b5_2 : Blk w5_2 g5_2 40 #[.int .i64 (0), .int .i64 (0), .int .i64 (0), .int .i64 (0), .int .i64 (0), .int .i64 (0)] := b5_2
 refine W.run 1 rfl ?_
 refine W.sA sz40 rfl rfl b5_2 ?_
 intro w5_4 b5_4 h5_4
 have b5_4 : Blk w5_4 g5_2 40 #[.int .i64 (100), .int .i64 (200), .int .i64 (5), .int .i64 (16), .int .i64 (1), .int .i64 (1125899906842624)] := b5_4
 have L3 := L2.tb h5_4 L1 hg5_2
 refine W.nx (WC.sr ?_)
 refine W.r (.loadAll ag40 (by rfl) rfl b5_4) ?_
 refine W.cl go96 rfl rfl (tright_ok 100 200 5 16 1 1125899906842624 (by decide) w5_4) ?_
 rintro _ w6_1 ⟨rfl, h6_1⟩
 have L4 := L3.trans h6_1
 refine W.run 3 rfl ?_
 refine W.g (Any.rd (.field0 fa43_2 rfl) _) ?_
 refine W.g (Any.rd (.idxA (0) underlying38 sz37 rfl rfl (rfl) (by omega)) _) ?_
 have f5 := (((b0_0.le h5_2).ch h5_4 (fun h => (show g5_2 ≠ g0_0 from by have := b0_0.lt; omega) (oI h))).le h6_1)
 refine W.g (.bpart [.int .u64 (((c.p0 : Nat) : Int)), .int .u64 (((c.p1 : Nat) : Int)), .int .u64 (((c.p2 : Nat) : Int)), .int .u64 (((c.p3 : Nat) : Int)), .int .u64 (((c.p4 : Nat) : Int))] ag37 rfl (by decide) rfl f5 rfl) ?_
 refine W.efg rfl rfl rfl (rfl) rfl rfl ?_
 refine Ef.call go97 rfl rfl (tpoints_ok c.p0 c.p1 c.p2 c.p3 c.p4 ⟨hpt.1, hpt.2.1, hpt.2.2.1, hpt.2.2.2.1, hpt.2.2.2.2.1⟩ w6_1) ?_
 rintro _ w6_8 ⟨rfl, h6_8⟩
 refine ⟨_, rfl, ?_⟩
 have L6 := L4.trans h6_8
 refine W.run 2 rfl (W.nx (WC.condF rfl (WC.skip (E.blkN (E.thenN (WC.region ?_))))))
 refine W.a (.as (.add rfl rfl (by decide)) rfl) ?_
 refine W.run 1 rfl (W.nil ?_)
 refine E.round ?_
 refine RCn.step ?_
 refine WC.sr ?_
 refine W.a (.dec (.lss rfl rfl) (show _ = true from by first | decide | rfl)) ?_
 refine W.nx (WC.seq (WC.condT rfl (WC.sn (WC.seq (WC.block (WC.sr (W.run 1 rfl ?_)))))))
 refine W.a (.indexS (1) [.int .i64 (100), .int .i64 (200), .int .i64 (6), .int .i64 (16), .int .i64 (1), .int .i64 (1125899906842624)] underlying41 sz40 ag40 rfl rfl (rfl) (by omega) rfl) ?_
 refine W.ef rfl rfl rfl ?_
 refine Ef.allocA z40 ?_
 intro g5_2_1 w5_2_1 hg5_2_1 b5_2_1 h5_2_1
 have L7 := L6.trans h5_2_1
 have b5_2_1 : Blk w5_2_1 g5_2_1 40 #[.int .i64 (0), .int .i64 (0), .int .i64 (0), .int .i64 (0), .int .i64 (0), .int .i64 (0)] := b5_2_1
 refine W.run 1 rfl ?_
 refine W.sA sz40 rfl rfl b5_2_1 ?_
 intro w5_4_1 b5_4_1 h5_4_1
 have b5_4_1 : Blk w5_4_1 g5_2_1 40 #[.int .i64 (100), .int .i64 (200), .int .i64 (6), .int .i64 (16), .int .i64 (1), .int .i64 (1125899906842624)] := b5_4_1
 have L8 := L7.tb h5_4_1 L6 hg5_2_1
 refine W.nx (WC.sr ?_)
 refine W.r (.loadAll ag40 (by rfl) rfl b5_4_1) ?_
 refine W.cl go96 rfl rfl (tright_ok 100 200 6 16 1 1125899906842624 (by decide) w5_4_1) ?_
 rintro _ w6_1_1 ⟨rfl, h6_1_1⟩
 have L9 := L8.trans h6_1_1
 refine W.run 3 rfl ?_
 refine W.g (Any.rd (.field0 fa43_2 rfl) _) ?_
 refine W.g (Any.rd (.idxA (1) underlying38 sz37 rfl rfl (rfl) (by omega)) _) ?_
 have f10 := (((f5.le (h6_8.trans h5_2_1)).ch h5_4_1 (fun h => (show g5_2_1 ≠ g0_0 from by have := f5.lt; have := h6_8.size; omega) (oI h))).le h6_1_1)
 refine W.g (.bpart [.int .u64 (((c.p5 : Nat) : Int)), .int .u64 (((c.p6 : Nat) : Int)), .int .u64 (((c.p7 : Nat) : Int)), .int .u64 (((c.p8 : Nat) : Int)), .int .u64 (((c.p9 : Nat) : Int))] ag37 rfl (by decide) rfl f10 rfl) ?_
 refine W.efg rfl rfl rfl (rfl) rfl rfl ?_
 refine Ef.call go97 rfl rfl (tpoints_ok c.p5 c.p6 c.p7 c.p8 c.p9 ⟨hpt.2.2.2.2.2.1, hpt.2.2.2.2.2.2.1, hpt.2.2.2.2.2.2.2.1, hpt.2.2.2.2.2.2.2.2.1, hpt.2.2.2.2.2.2.2.2.2⟩ w6_1_1) ?_
 rintro _ w6_8_1 ⟨rfl, h6_8_1⟩
 refine ⟨_, rfl, ?_⟩
 have L11 := L9.trans h6_8_1
 refine W.run 2 rfl (W.nx (WC.condF rfl (WC.skip (E.blkN (E.thenN (WC.region ?_))))))
 refine W.a (.as (.add rfl rfl (by decide)) rfl) ?_
 refine W.run 1 rfl (W.nil ?_)
 refine E.round ?_
 refine RCn.step ?_
 refine WC.sr ?_
 refine W.a (.dec (.lss rfl rfl) (show _ = false from by first | decide | rfl)) ?_
 refine W.nx (WC.seq (WC.condF rfl (WC.exit (E.thenX (E.thenX (E.blkH (E.thenN (WC.seq (WC.sr ?_)))))))))
 refine W.a (.field0 fa43_3 rfl) ?_
 refine W.a (.idxA (0) underlying41 sz40 rfl rfl (rfl) (by omega)) ?_
 refine W.a (.field2 fa40_1 rfl) ?_
 have f12 := (f10.le h6_8_1)
 refine W.r (.loadB (v := .int .i64 (200)) na3 rfl f12 rfl) ?_
 refine W.a (.field0 fa43_3 rfl) ?_
 refine W.a (.idxA (1) underlying41 sz40 rfl rfl (rfl) (by omega)) ?_
 refine W.a (.field2 fa40_1 rfl) ?_
 refine W.r (.loadB (v := .int .i64 (200)) na3 rfl f12 rfl) ?_
 refine W.cl go33 rfl rfl (nadd_ok 200 200 w6_8_1) ?_
 rintro _ w9_8 ⟨rfl, h9_8⟩
 have L13 := L11.trans h9_8
 refine W.run 5 rfl (W.nx (WC.sr (W.run 4 rfl ?_)))
 refine W.g (Any.rd (.field0 fa43_1 rfl) _) ?_
 have f14 := (f12.le h9_8)
 refine W.g (.loadB (v := .int .i64 (c.am)) na3 rfl f14 rfl) ?_
 refine W.run 2 rfl (W.nx ?_)
 by_cases c3 : c.am < 400
 ·refine WC.condY rfl (decide_eq_true c3) ?_
  refine WC.sr (W.run 1 rfl (W.nx (WC.ret (E.thenR ?_))))
  refine E.retG1 rfl rfl ?_
  exfalso; omega
 refine WC.condN rfl (decide_eq_false c3) ?_
 refine WC.sn (WC.sr (W.run 1 rfl (W.nx (WC.ret ?_))))
 refine E.retG1 rfl rfl ?_
 exact ⟨rfl, L13⟩

theorem tweight_ok (k : Nat) (hk : k <= 16) (w : World) : Calls prog 117 #[.int .i64 (((k : Nat) : Int))] w fun r w' => r = .returned (.int .i64 (68 + 8 * ((k : Nat) : Int))) /\ Le w w' := by
 refine enter func117 rfl rfl ?_
 have L0 := Le.refl w
 refine WC.sr (W.run 1 rfl (W.nx (WC.seq (WC.sr (W.run 2 rfl ?_)))))
 by_cases q1_2 : ((k : Nat) : Int) < 0
 ·refine W.dt q1_2 rfl rfl (W.run 3 rfl (W.nx (WC.condT rfl (WC.sr (W.run 1 rfl (W.nx (WC.ret (E.thenR ?_))))))))
  refine E.retG1 rfl rfl ?_
  exfalso; omega
 refine W.df q1_2 rfl rfl (W.run 3 rfl (W.nx ?_))
 by_cases c0 : 16 < ((k : Nat) : Int)
 ·refine WC.condY rfl (decide_eq_true c0) ?_
  refine WC.sr (W.run 1 rfl (W.nx (WC.ret (E.thenR ?_))))
  refine E.retG1 rfl rfl ?_
  exfalso; omega
 refine WC.condN rfl (decide_eq_false c0) ?_
 refine WC.sn (WC.sr (W.run 1 rfl ?_))
 refine W.a (.mul rfl rfl (by omega)) ?_
 refine W.a (.add rfl rfl (by omega)) ?_
 refine W.run 1 rfl (W.nx (WC.ret ?_))
 refine E.retG1 rfl rfl ?_
 exact ⟨congrArg (fun i => Ending.returned (Value.int .i64 i)) (by omega), L0⟩

theorem tfee_ok (rt : Int) (k : Nat) (hr : 0 <= rt /\ rt <= 1000) (hk : k <= 16) (w : World) : Calls prog 100 #[.int .i64 (rt), .int .i64 (((k : Nat) : Int))] w fun r w' => r = .returned (.int .i64 (rt * (68 + 8 * ((k : Nat) : Int)))) /\ Le w w' := by
 have hmul := mul_b hr hk
 refine enter func100 rfl rfl ?_
 have L0 := Le.refl w
 refine WC.sr (W.run 1 rfl (W.nx (WC.seq (WC.sr (W.run 2 rfl ?_)))))
 by_cases q1_2 : rt < 0
 ·refine W.dt q1_2 rfl rfl (W.run 3 rfl (W.nx (WC.condT rfl (WC.sr (W.run 1 rfl (W.nx (WC.ret (E.thenR ?_))))))))
  refine E.retG1 rfl rfl ?_
  exfalso; omega
 refine W.df q1_2 rfl rfl (W.run 3 rfl (W.nx ?_))
 by_cases c0 : 1000 < rt
 ·refine WC.condY rfl (decide_eq_true c0) ?_
  refine WC.sr (W.run 1 rfl (W.nx (WC.ret (E.thenR ?_))))
  refine E.retG1 rfl rfl ?_
  exfalso; omega
 refine WC.condN rfl (decide_eq_false c0) ?_
 refine WC.sn (WC.sr (W.run 2 rfl ?_))
 refine W.cl go117 rfl rfl (tweight_ok k (by omega) w) ?_
 rintro _ w3_2 ⟨rfl, h3_2⟩
 have L1 := L0.trans h3_2
 refine W.a (.mul rfl rfl (by omega)) ?_
 refine W.run 1 rfl (W.nx (WC.ret ?_))
 refine E.retG1 rfl rfl ?_
 exact ⟨rfl, L1⟩
end Go.Proofs.YtgpaekbdbpkogaaGreat

