/- PartsTells: for every input the law answers true and leaves its arguments as they were. -/
import Derived.Test.YtfgakofjkldcjaaPartsTellsK
import Derived.OrdersHeld
import Derived.WalkKit
import Derived.Deep.AppendSrc
import Derived.Deep.MidRow
import Derived.Laws.OwnMore
import Derived.WalkSpells
import Derived.Lib.ConvBytes
import Derived.Lib.AppendZerosOnto
import Derived.Laws.StructEq
import Derived.Maps.RangeRun
import Derived.Laws.Pointers
import Derived.Test.YtfgakofjkldcjaaProg
import Derived.KernelRfl
import Derived.Lib.Mul64
import Derived.Shelf.SlIterI.Nil
import Derived.Shelf.SortM.Plain
import Derived.Shelf.SortM.SortNone
import Derived.Ground.GgzProg
import Derived.Ground.SlgmProg
namespace Go.Proofs.Ytfgakofjkldcjaa
open Go Go.Sx Go.Hsp Go.Num Go.Osp Go.Gsp
set_option maxRecDepth 20000
set_option linter.unusedSimpArgs false
set_option linter.unusedVariables false
theorem sumP_next {l : List Part} {k : Nat} (h : k < l.length) : sumP (l.take (k + 1)) = sumP (l.take k) + (l.getD k noPart).am := by
  rw [List.take_add_one, getS l noPart h]
  exact sumP_snoc _ _
theorem sumP_bound : ∀ (l : List Part), (∀ x ∈ l, 1 ≤ x.am) → ∀ k, 0 ≤ sumP (l.take k) ∧ sumP (l.take k) ≤ sumP l
  | [], _, k => by simp [sumP]
  | x :: l, h, 0 => by
    have h1 := (sumP_bound l (fun y hy => h y (List.mem_cons_of_mem _ hy)) l.length)
    rw [List.take_length] at h1
    have h2 := h x (List.mem_cons_self)
    simp only [List.take_zero, sumP, List.map_nil, List.sum_nil, List.map_cons, List.sum_cons] at *
    omega
  | x :: l, h, k + 1 => by
    have h1 := sumP_bound l (fun y hy => h y (List.mem_cons_of_mem _ hy)) k
    have h2 := h x (List.mem_cons_self)
    simp only [List.take_succ_cons, sumP, List.map_cons, List.sum_cons] at *
    omega
theorem rmay {p : Pay} {hk : Int × Int → Bool} {x : Part} {ht : Int} (ho : PayOk p) (h1 : p.ovr = false) (h2 : ¬ p.by_ ≤ ht) (h3 : 1 ≤ x.am ∧ x.am ≤ 1125899906842624) (h4 : ¬ x.ex < p.lst) (h5 : hk (keyP x) = false) (h6 : opensP p.sec x = true) (h7 : ¬ 8 ≤ p.held.length) :
    mayP p hk x ht = if 1125899906842624 < x.am + sumP p.held then (0, 6) else (x.am + sumP p.held, 0) := by
  have hs := ho.sum h1
  have hb := (sumP_bound p.held ho.low p.held.length).1
  rw [List.take_length] at hb
  unfold mayP
  rw [if_neg (by simp [h1]), if_neg h2, if_neg (by omega), if_neg h4, if_neg (by simp [h5]), if_neg (by simp [h6]), if_neg h7]
  by_cases hbig : 1125899906842624 < x.am + sumP p.held
  · have : (addC p.sum x.am).2 = false := by
      rw [Bool.eq_false_iff]
      intro h
      have := (addC_val h).2.2
      omega
    rw [if_pos this, if_pos hbig]
  · rw [addC_of (by omega) (by omega) (by omega), if_neg (by simp), if_neg hbig, hs, Int.add_comm]
def lateT (ht : Int) (L : List Ent) (i : Nat) : List Ent := (L.take i).map (lateE ht) ++ L.drop i
def restT (ht : Int) (L : List Ent) (i : Nat) : List Ent := (L.take i).map (lateE ht) ++ L.drop (i + 1)
def outR (ht : Int) (L : List Ent) (i : Nat) : List Part := (L.take i).flatMap fun e => if dueP ht e.pay then e.pay.held else []
theorem dropE (L : List Ent) {i : Nat} (h : i < L.length) : L.drop i = L.getD i noEnt :: L.drop (i + 1) := by
  rw [List.drop_eq_getElem_cons h]
  simp [h, List.getD]
theorem takeE (L : List Ent) {i : Nat} (h : i < L.length) : L.take (i + 1) = L.take i ++ [L.getD i noEnt] := by
  have e : L[i]? = some (L.getD i noEnt) := by simp [h, List.getD]
  rw [List.take_add_one, e]
  rfl
theorem outR_next (ht : Int) {L : List Ent} {i : Nat} (h : i < L.length) : outR ht L (i + 1) = outR ht L i ++ if dueP ht (L.getD i noEnt).pay then (L.getD i noEnt).pay.held else [] := by
  unfold outR
  rw [takeE L h, List.flatMap_append, List.flatMap_cons, List.flatMap_nil, List.append_nil]
theorem restT_mem {ht : Int} {L : List Ent} {i : Nat} (hN : (L.map (·.name)).Nodup) (hi : i < L.length) {x : Ent} (h : x ∈ restT ht L i) : ∃ y ∈ L, y.name ≠ (L.getD i noEnt).name ∧ x.name = y.name ∧ ∀ k, x.has k → y.has k := by
  have hsplit : L = L.take i ++ (L.getD i noEnt :: L.drop (i + 1)) := by rw [← dropE L hi]; exact (List.take_append_drop i L).symm
  rw [hsplit, List.map_append, List.map_cons, List.nodup_append] at hN
  rcases List.mem_append.1 h with h | h
  · obtain ⟨y, hy, rfl⟩ := List.mem_map.1 h
    refine ⟨y, List.mem_of_mem_take hy, ?_, lateE_name ht y, fun k hk => lateE_has hk⟩
    exact hN.2.2 y.name (List.mem_map.2 ⟨y, hy, rfl⟩) _ List.mem_cons_self
  · refine ⟨x, List.mem_of_mem_drop h, ?_, rfl, fun k hk => hk⟩
    intro e
    exact (List.nodup_cons.1 hN.2.1).1 (by rw [← e]; exact List.mem_map.2 ⟨x, h, rfl⟩)
theorem rlate_open {w : World} {gp : Nat} {A : Option Addr} {c : Nat} {L : List Ent} {ht : Int} {i : Nat} (hS : RSep gp A c L) (h : RPays w (lateT ht L i)) (hi : i < L.length) :
    RAt w (L.getD i noEnt) ∧ RPays w (restT ht L i) ∧ (∀ x ∈ restT ht L i, ¬ x.has (L.getD i noEnt).g) ∧ gp ≠ (L.getD i noEnt).g ∧ rowOf A c ≠ some (L.getD i noEnt).g ∧ rowOf (L.getD i noEnt).A (L.getD i noEnt).c ≠ some (L.getD i noEnt).g := by
  have hm := memE L hi
  refine ⟨h _ ?_, fun x hx => h x ?_, fun x hx hh => ?_, fun e => hS.p _ hm (.inl e), fun e => hS.a _ hm _ e (.inl rfl), hS.own _ hm⟩
  · unfold lateT
    rw [dropE L hi]
    exact List.mem_append_right _ List.mem_cons_self
  · unfold lateT
    unfold restT at hx
    rw [dropE L hi]
    rcases List.mem_append.1 hx with hx | hx
    · exact List.mem_append_left _ hx
    · exact List.mem_append_right _ (List.mem_cons_of_mem _ hx)
  · obtain ⟨y, hy, hne, _, hk⟩ := restT_mem hS.names hi hx
    exact hS.pw y hy _ hm hne _ (hk _ hh) (.inl rfl)
theorem rlate_close {w : World} {L : List Ent} {ht : Int} {i : Nat} (h : RPays w (restT ht L i)) (hi : i < L.length) (he : RAt w (lateE ht (L.getD i noEnt))) : RPays w (lateT ht L (i + 1)) := by
  intro x hx
  unfold lateT at hx
  rw [takeE L hi, List.map_append] at hx
  rcases List.mem_append.1 hx with hx | hx
  · rcases List.mem_append.1 hx with hx | hx
    · exact h x (List.mem_append_left _ hx)
    · simp only [List.map_cons, List.map_nil, List.mem_singleton] at hx
      subst hx
      exact he
  · exact h x (List.mem_append_right _ hx)
theorem restT_old {w : World} {L : List Ent} {ht : Int} {i : Nat} (h : ∀ e ∈ L, ∀ k, e.has k → k < w.heap.size) : ∀ e ∈ restT ht L i, ∀ k, e.has k → k < w.heap.size := by
  intro e he k hk
  rcases List.mem_append.1 he with he | he
  · obtain ⟨y, hy, rfl⟩ := List.mem_map.1 he
    exact h y (List.mem_of_mem_take hy) k (lateE_has hk)
  · exact h e (List.mem_of_mem_drop he) k hk
theorem rfadd_ok (a b : Nat) (w : World) : Calls Try.prog 68 #[.int .u64 (((a : Nat) : Int)), .int .u64 (((b : Nat) : Int))] w fun r w' => r = .returned (.int .u64 ((addS a b : Nat) : Int)) ∧ Le w w' := by
  have hq : q = 2305843009213688669 := rfl
  have ha := Nat.mod_lt a (show 0 < q by decide)
  have hb := Nat.mod_lt b (show 0 < q by decide)
  refine enter Try.func68 rfl rfl ?_
  have L0 := Le.refl w
  refine WC.seq ?_
  refine WC.region ?_
  refine W.any (.assign rfl) rfl rfl rfl ?_
  refine W.nil ?_
  refine E.thenN ?_
  refine WC.seq ?_
  refine WC.region ?_
  refine W.any (.move rfl) rfl rfl rfl ?_
  refine W.ef rfl rfl rfl ?_
  refine Ef.call go121 rfl rfl (rof_ok a w) ?_
  rintro _ w1_1 ⟨rfl, h1_1⟩
  refine ⟨_, rfl, ?_⟩
  have L1 := L0.trans h1_1
  refine W.any (.move rfl) rfl rfl rfl ?_
  refine W.ef rfl rfl rfl ?_
  refine Ef.call go121 rfl rfl (rof_ok b w1_1) ?_
  rintro _ w1_3 ⟨rfl, h1_3⟩
  refine ⟨_, rfl, ?_⟩
  have L2 := L1.trans h1_3
  refine W.any (.addN (a % q) (b % q) ((a % q) + (b % q)) rfl rfl rfl rfl (by omega)) rfl rfl rfl ?_
  refine W.any (.remN ((a % q) + (b % q)) 2305843009213688669 (addS a b) rfl rfl rfl rfl (by omega) (by unfold addS; rw [← hq, ← Nat.add_mod])) rfl rfl rfl ?_
  refine W.any (.assign rfl) rfl rfl rfl ?_
  refine W.nil ?_
  refine E.thenN ?_
  refine WC.ret ?_
  refine E.retG1 rfl rfl ?_
  exact ⟨rfl, L2⟩

theorem ropens_ok {gq : Nat} (e : Ent) (x : Part) (w : World) (hq : Blk w gq 130 e.rarr) : Calls Try.prog 67 #[.pointer (some ⟨gq, 0, none⟩), .agg (partV x).toArray] w fun r w' => r = .returned (.bool (opensP e.pay.sec x)) ∧ Le w w' := by
  refine enter Try.func67 rfl rfl ?_
  have L0 := Le.refl w
  refine WC.seq ?_
  refine WC.region ?_
  refine W.ef rfl rfl rfl ?_
  refine Ef.boxA rfl ?_
  intro g0_0 w0_0 hg0_0 b0_0 h0_0
  have L1 := L0.trans h0_0
  have b0_0 : Blk w0_0 g0_0 44 (partV x).toArray := b0_0
  refine W.any (.assign rfl) rfl rfl rfl ?_
  refine W.nil ?_
  refine E.thenN ?_
  refine WC.seq ?_
  refine WC.seq ?_
  refine WC.region ?_
  refine W.any (.field0 fa44_5 rfl) rfl rfl rfl ?_
  refine W.rd (.loadB (v := .int .u64 (((x.bl : Nat) : Int))) na30 rfl b0_0 rfl) rfl rfl rfl ?_
  refine W.ef rfl rfl rfl ?_
  refine Ef.call go61 rfl rfl (rfright_ok x.bl w0_0) ?_
  rintro _ w1_2 ⟨rfl, h1_2⟩
  refine ⟨_, rfl, ?_⟩
  have L2 := L1.trans h1_2
  refine W.any (.not rfl) rfl rfl rfl ?_
  refine W.nil ?_
  refine E.thenN ?_
  by_cases c0 : x.bl < q
  · refine WC.condN rfl (congrArg not (decide_eq_true c0)) ?_
    refine WC.skip ?_
    refine E.thenN ?_
    refine WC.seq ?_
    refine WC.draw [0, 1, 2, 3, 4, 5, 8, 9, 6, 7, 10, 11] mixed (by kernel_rfl) ?_
    intro w3 d3
    have L3 := L2.trans d3
    refine G.any rfl rfl (.move rfl) rfl rfl rfl ?_
    refine G.any rfl rfl (.nilCheck rfl) rfl rfl rfl ?_
    refine G.any rfl rfl (.field0 fa130_1 rfl) rfl rfl rfl ?_
    refine G.rd rfl rfl (.loadB (v := .int .u64 (((e.pay.sec : Nat) : Int))) na30 rfl (hq.le L3) rfl) rfl rfl rfl ?_
    refine G.any rfl rfl (.field0 fa44_5 rfl) rfl rfl rfl ?_
    have f4 := (b0_0.le (h1_2.trans d3))
    refine G.rd rfl rfl (.loadB (v := .int .u64 (((x.bl : Nat) : Int))) na30 rfl f4 rfl) rfl rfl rfl ?_
    refine G.any rfl rfl (.field0 fa44_4 rfl) rfl rfl rfl ?_
    refine G.rd rfl rfl (.loadB (v := .int .u64 (((x.pt : Nat) : Int))) na31 rfl f4 rfl) rfl rfl rfl ?_
    refine G.ef rfl rfl rfl rfl rfl ?_
    refine Ef.call go68 rfl rfl (rfadd_ok e.pay.sec x.bl w3) ?_
    rintro _ w3_6 ⟨rfl, h3_6⟩
    refine ⟨_, rfl, ?_⟩
    refine ⟨fun _ => h3_6, ?_⟩
    have L5 := L3.trans h3_6
    refine G.ef rfl rfl rfl rfl rfl ?_
    refine Ef.call go120 rfl rfl (rbase_ok (addS e.pay.sec x.bl) w3_6) ?_
    rintro _ w3_7 ⟨rfl, h3_7⟩
    refine ⟨_, rfl, ?_⟩
    refine ⟨fun _ => h3_7, ?_⟩
    have L6 := L5.trans h3_7
    refine G.any rfl rfl (.eql rfl rfl) rfl rfl rfl ?_
    refine G.any rfl rfl (.assign rfl) rfl rfl rfl ?_
    refine G.nil ?_
    refine E.thenN ?_
    refine WC.ret ?_
    refine E.retG1 rfl rfl ?_
    exact ⟨congrArg (fun b => Ending.returned (Value.bool b)) (by unfold opensP; simp [c0]; try omega), L6⟩
  · refine WC.condY rfl (congrArg not (decide_eq_false c0)) ?_
    refine WC.seq ?_
    refine WC.region ?_
    refine W.any (.assign rfl) rfl rfl rfl ?_
    refine W.nil ?_
    refine E.thenN ?_
    refine WC.ret ?_
    refine E.thenR ?_
    refine E.retG1 rfl rfl ?_
    exact ⟨congrArg (fun b => Ending.returned (Value.bool b)) (by unfold opensP; simp [c0]; try omega), L2⟩

theorem rwant_ok {gp : Nat} {A : Option Addr} {c : Nat} {L : List Ent} (nm : Int) (sc : Nat) (to by_ le : Int) (w : World) (hR : RPoolL w gp A c L) (hl : L.length ≤ 1000) : Calls Try.prog 18 #[.pointer (some ⟨gp, 0, none⟩), .int .i64 (nm), .int .u64 (((sc : Nat) : Int)), .int .i64 (to), .int .i64 (by_), .int .i64 (le)] w fun r w' => ChP w w' (fun k => k = gp) ∧ ((¬ wantOk nm sc to by_ le ∧ r = .returned (.int .i64 1) ∧ Blk w' gp 120 #[.slice A L.length c]) ∨ (wantOk nm sc to by_ le ∧ (∃ p, getP nm (L.map trP) = some p) ∧ r = .returned (.int .i64 4) ∧ Blk w' gp 120 #[.slice A L.length c]) ∨ (wantOk nm sc to by_ le ∧ getP nm (L.map trP) = none ∧ r = .returned (.int .i64 0) ∧ ∃ (A' : Option Addr) (c' g k : Nat), w.heap.size ≤ g ∧ k ≤ L.length ∧ (∀ j, j < k → (L.getD j noEnt).name < nm) ∧ (k < L.length → ¬ (L.getD k noEnt).name < nm) ∧ Blk w' g 130 #[.int .i64 (nm), .int .u64 (((sc : Nat) : Int)), .int .i64 (to), .int .i64 (by_), .int .i64 (le), .slice none 0 0, .bool false, .bool false] ∧ Blk w' gp 120 #[.slice A' (L.length + 1) c'] ∧ OVec w' w.heap.size 131 rpt 1 A' (L.length + 1) c' ((L.map (·.g)).take k ++ [g] ++ (L.map (·.g)).drop k) ∧ rowOf A' c' ≠ some g)) := by
  have hp0 := hR.hp
  have hV0 := hR.hV
  have hV0l := hV0.1
  have hml : (L.map (·.g)).length = L.length := by simp
  refine enter Try.func18 rfl rfl ?_
  have L0 := ChP.refl w (fun k => k = gp)
  refine WC.seq ?_
  refine WC.region ?_
  refine W.any (.assign rfl) rfl rfl rfl ?_
  refine W.nil ?_
  refine E.thenN ?_
  refine WC.seq ?_
  refine WC.region ?_
  refine W.any (.move rfl) rfl rfl rfl ?_
  refine W.ef rfl rfl rfl ?_
  refine Ef.call go61 rfl rfl (rfright_ok sc w) ?_
  rintro _ w1_1 ⟨rfl, h1_1⟩
  refine ⟨_, rfl, ?_⟩
  have L1 := L0.le h1_1
  refine W.any (.assign rfl) rfl rfl rfl ?_
  refine W.nil ?_
  refine E.thenN ?_
  refine WC.seq ?_
  refine WC.seq ?_
  refine WC.region ?_
  refine W.any (.move rfl) rfl rfl rfl ?_
  refine W.any (.lss rfl rfl) rfl rfl rfl ?_
  by_cases q2_2 : nm < 0
  · refine W.any (.dec (.move rfl) (decide_eq_true q2_2)) rfl rfl rfl ?_
    refine W.skip rfl rfl rfl (rfl) rfl rfl ?_
    refine W.skip rfl rfl rfl (rfl) rfl rfl ?_
    refine W.any (.pickT rfl rfl rfl) rfl rfl rfl ?_
    refine W.any (.move rfl) rfl rfl rfl ?_
    refine W.skip rfl rfl rfl (rfl) rfl rfl ?_
    refine W.skip rfl rfl rfl (rfl) rfl rfl ?_
    refine W.any (.pickT rfl rfl rfl) rfl rfl rfl ?_
    refine W.any (.move rfl) rfl rfl rfl ?_
    refine W.skip rfl rfl rfl (rfl) rfl rfl ?_
    refine W.skip rfl rfl rfl (rfl) rfl rfl ?_
    refine W.skip rfl rfl rfl (rfl) rfl rfl ?_
    refine W.any (.pickT rfl rfl rfl) rfl rfl rfl ?_
    refine W.any (.move rfl) rfl rfl rfl ?_
    refine W.skip rfl rfl rfl (rfl) rfl rfl ?_
    refine W.skip rfl rfl rfl (rfl) rfl rfl ?_
    refine W.skip rfl rfl rfl (rfl) rfl rfl ?_
    refine W.any (.pickT rfl rfl rfl) rfl rfl rfl ?_
    refine W.any (.move rfl) rfl rfl rfl ?_
    refine W.skip rfl rfl rfl (rfl) rfl rfl ?_
    refine W.skip rfl rfl rfl (rfl) rfl rfl ?_
    refine W.skip rfl rfl rfl (rfl) rfl rfl ?_
    refine W.any (.pickT rfl rfl rfl) rfl rfl rfl ?_
    refine W.nil ?_
    refine E.thenN ?_
    refine WC.condT rfl ?_
    refine WC.seq ?_
    refine WC.region ?_
    refine W.any (.assign rfl) rfl rfl rfl ?_
    refine W.nil ?_
    refine E.thenN ?_
    refine WC.ret ?_
    refine E.thenR ?_
    have f2 := (hp0.le h1_1)
    refine E.retG1 rfl rfl ?_
    exact ⟨L1, .inl ⟨fun h => by unfold wantOk at h; omega, rfl, f2⟩⟩
  · refine W.any (.dec (.move rfl) (decide_eq_false q2_2)) rfl rfl rfl ?_
    refine W.rdg (Any.rd (.move rfl) _) rfl rfl rfl (rfl) rfl rfl ?_
    refine W.rdg (Any.rd (.not rfl) _) rfl rfl rfl (rfl) rfl rfl ?_
    refine W.any (.pickF rfl rfl rfl) rfl rfl rfl ?_
    by_cases q2_6 : sc < q
    · refine W.any (.dec (.move rfl) (congrArg not (decide_eq_true q2_6))) rfl rfl rfl ?_
      refine W.rdg (Any.rd (.move rfl) _) rfl rfl rfl (rfl) rfl rfl ?_
      refine W.rdg (Any.rd (.eql rfl rfl) _) rfl rfl rfl (rfl) rfl rfl ?_
      refine W.any (.pickF rfl rfl rfl) rfl rfl rfl ?_
      by_cases q2_10 : ((sc : Nat) : Int) = 0
      · refine W.any (.dec (.move rfl) (decide_eq_true q2_10)) rfl rfl rfl ?_
        refine W.skip rfl rfl rfl (rfl) rfl rfl ?_
        refine W.skip rfl rfl rfl (rfl) rfl rfl ?_
        refine W.skip rfl rfl rfl (rfl) rfl rfl ?_
        refine W.any (.pickT rfl rfl rfl) rfl rfl rfl ?_
        refine W.any (.move rfl) rfl rfl rfl ?_
        refine W.skip rfl rfl rfl (rfl) rfl rfl ?_
        refine W.skip rfl rfl rfl (rfl) rfl rfl ?_
        refine W.skip rfl rfl rfl (rfl) rfl rfl ?_
        refine W.any (.pickT rfl rfl rfl) rfl rfl rfl ?_
        refine W.any (.move rfl) rfl rfl rfl ?_
        refine W.skip rfl rfl rfl (rfl) rfl rfl ?_
        refine W.skip rfl rfl rfl (rfl) rfl rfl ?_
        refine W.skip rfl rfl rfl (rfl) rfl rfl ?_
        refine W.any (.pickT rfl rfl rfl) rfl rfl rfl ?_
        refine W.nil ?_
        refine E.thenN ?_
        refine WC.condT rfl ?_
        refine WC.seq ?_
        refine WC.region ?_
        refine W.any (.assign rfl) rfl rfl rfl ?_
        refine W.nil ?_
        refine E.thenN ?_
        refine WC.ret ?_
        refine E.thenR ?_
        have f3 := (hp0.le h1_1)
        refine E.retG1 rfl rfl ?_
        exact ⟨L1, .inl ⟨fun h => by unfold wantOk at h; omega, rfl, f3⟩⟩
      · refine W.any (.dec (.move rfl) (decide_eq_false q2_10)) rfl rfl rfl ?_
        refine W.rdg (Any.rd (.move rfl) _) rfl rfl rfl (rfl) rfl rfl ?_
        refine W.efg rfl rfl rfl (rfl) rfl rfl ?_
        refine Ef.call go62 rfl rfl (rin_ok to 1 1125899906842624 w1_1) ?_
        rintro _ w2_12 ⟨rfl, h2_12⟩
        refine ⟨_, rfl, ?_⟩
        have L4 := L1.le h2_12
        refine W.rdg (Any.rd (.not rfl) _) rfl rfl rfl (rfl) rfl rfl ?_
        refine W.any (.pickF rfl rfl rfl) rfl rfl rfl ?_
        by_cases q2_15 : 1 ≤ to ∧ to ≤ 1125899906842624
        · refine W.any (.dec (.move rfl) (congrArg not (decide_eq_true q2_15))) rfl rfl rfl ?_
          refine W.rdg (Any.rd (.move rfl) _) rfl rfl rfl (rfl) rfl rfl ?_
          refine W.efg rfl rfl rfl (rfl) rfl rfl ?_
          refine Ef.call go62 rfl rfl (rin_ok by_ 0 1048576 w2_12) ?_
          rintro _ w2_17 ⟨rfl, h2_17⟩
          refine ⟨_, rfl, ?_⟩
          have L5 := L4.le h2_17
          refine W.rdg (Any.rd (.not rfl) _) rfl rfl rfl (rfl) rfl rfl ?_
          refine W.any (.pickF rfl rfl rfl) rfl rfl rfl ?_
          by_cases q2_20 : 0 ≤ by_ ∧ by_ ≤ 1048576
          · refine W.any (.dec (.move rfl) (congrArg not (decide_eq_true q2_20))) rfl rfl rfl ?_
            refine W.rdg (Any.rd (.move rfl) _) rfl rfl rfl (rfl) rfl rfl ?_
            refine W.efg rfl rfl rfl (rfl) rfl rfl ?_
            refine Ef.call go62 rfl rfl (rin_ok le 0 1048576 w2_17) ?_
            rintro _ w2_22 ⟨rfl, h2_22⟩
            refine ⟨_, rfl, ?_⟩
            have L6 := L5.le h2_22
            refine W.rdg (Any.rd (.not rfl) _) rfl rfl rfl (rfl) rfl rfl ?_
            refine W.any (.pickF rfl rfl rfl) rfl rfl rfl ?_
            refine W.nil ?_
            refine E.thenN ?_
            by_cases c0 : 0 ≤ le ∧ le ≤ 1048576
            · refine WC.condN rfl (congrArg not (decide_eq_true c0)) ?_
              refine WC.skip ?_
              refine E.thenN ?_
              refine WC.seq ?_
              refine WC.seq ?_
              refine WC.region ?_
              refine W.any (.move rfl) rfl rfl rfl ?_
              refine W.any (.move rfl) rfl rfl rfl ?_
              have f7 := (hR.le (h1_1.trans (h2_12.trans (h2_17.trans h2_22))))
              refine W.ef rfl rfl rfl ?_
              refine Ef.call go63 rfl rfl (rfind_ok nm w2_22 f7 hl) ?_
              rintro _ w4_2 ⟨z4_2, rfl, hz4_2, h4_2⟩
              refine ⟨_, rfl, ?_⟩
              have L8 := L6.le h4_2
              refine W.any (.geq rfl rfl) rfl rfl rfl ?_
              refine W.nil ?_
              refine E.thenN ?_
              by_cases c1 : 0 ≤ z4_2
              · refine WC.condY rfl (decide_eq_true c1) ?_
                refine WC.seq ?_
                refine WC.region ?_
                refine W.any (.assign rfl) rfl rfl rfl ?_
                refine W.nil ?_
                refine E.thenN ?_
                refine WC.ret ?_
                refine E.thenR ?_
                have f9 := (hp0.le (h1_1.trans (h2_12.trans (h2_17.trans (h2_22.trans h4_2)))))
                refine E.retG1 rfl rfl ?_
                exact ⟨L8, .inr (.inl ⟨⟨by omega, by omega, by omega, by omega, by omega, by omega, by omega, by omega, by omega⟩, ⟨_, find_some hR.hS.names (hz4_2.pos (by omega)).2.1 (hz4_2.pos (by omega)).2.2⟩, rfl, f9⟩)⟩
              · refine WC.condN rfl (decide_eq_false c1) ?_
                refine WC.skip ?_
                refine E.thenN ?_
                refine WC.seq ?_
                refine WC.region ?_
                refine W.any (.assign rfl) rfl rfl rfl ?_
                refine W.nil ?_
                refine E.thenN ?_
                refine WC.seq ?_
                refine WC.block ?_
                have f10 := (hp0.le (h1_1.trans (h2_12.trans (h2_17.trans (h2_22.trans h4_2)))))
                have f11 := (hV0.le (h1_1.trans (h2_12.trans (h2_17.trans (h2_22.trans h4_2)))))
                have f12 := (f7.le h4_2)
                refine WC.loop (ι := Nat) (fun k => [(0, .pointer (some ⟨gp, 0, none⟩)), (1, .int .i64 (nm)), (2, .int .u64 (((sc : Nat) : Int))), (3, .int .i64 (to)), (4, .int .i64 (by_)), (5, .int .i64 (le)), (14, .int .i64 (((k : Nat) : Int)))]) (fun k wl0 => (k ≤ L.length) ∧ (∀ j, j < k → (L.getD j noEnt).name < nm) ∧ ChP w wl0 (fun k => k = gp) ∧ w4_2.heap.size ≤ wl0.heap.size ∧ Blk wl0 gp 120 #[.slice A L.length c] ∧ OVec wl0 0 131 rpt 1 A L.length c (L.map (·.g)) ∧ RPoolL wl0 gp A c L) (fun k => L.length - k) 0 ?_ ?_ ?_
                · exact .cons rfl (.cons rfl (.cons rfl (.cons rfl (.cons rfl (.cons rfl (.cons rfl (.nil _)))))))
                · exact ⟨Nat.zero_le _, fun j hj => by omega, L8, Nat.le_refl _, f10, f11, f12⟩
                · rintro k wl0 ⟨hk, hlt, Ll0, sz0, f0_0, f0_1, f0_2⟩
                  refine WC.seq ?_
                  refine WC.seq ?_
                  refine WC.region ?_
                  refine W.any (.move rfl) rfl rfl rfl ?_
                  refine W.any (.move rfl) rfl rfl rfl ?_
                  refine W.any (.nilCheck rfl) rfl rfl rfl ?_
                  refine W.any (.field0 fa120_0 rfl) rfl rfl rfl ?_
                  refine W.rd (.loadB (v := .slice A L.length c) na118 rfl f0_0 rfl) rfl rfl rfl ?_
                  refine W.rd (.len Try.underlying118 rfl) rfl rfl rfl ?_
                  refine W.any (.lss rfl rfl) rfl rfl rfl ?_
                  by_cases q7_7 : ((k : Nat) : Int) < ((L.length : Nat) : Int)
                  · refine W.any (.dec (.move rfl) (decide_eq_true q7_7)) rfl rfl rfl ?_
                    refine W.rdg (Any.rd (.move rfl) _) rfl rfl rfl (rfl) rfl rfl ?_
                    refine W.rdg (Any.rd (.nilCheck rfl) _) rfl rfl rfl (rfl) rfl rfl ?_
                    refine W.rdg (Any.rd (.field0 fa120_0 rfl) _) rfl rfl rfl (rfl) rfl rfl ?_
                    refine W.rdg (.loadB (v := .slice A L.length c) na118 rfl f0_0 rfl) rfl rfl rfl (rfl) rfl rfl ?_
                    refine W.rdg (Any.rd (.move rfl) _) rfl rfl rfl (rfl) rfl rfl ?_
                    refine W.rdg (Any.rd (.idxS (k) Try.underlying118 sz131 rfl rfl (hV0.vec.isSome rpt_row (by omega)) (rfl) (by omega)) _) rfl rfl rfl (rfl) rfl rfl ?_
                    refine W.rdg (.vone (v := .pointer (some ⟨(L.getD k noEnt).g, 0, none⟩)) na131 rfl f0_1.vec rpt_row (getM L (i := k) (by omega)) rfl) rfl rfl rfl (rfl) rfl rfl ?_
                    have eE13 := f0_2.hP _ (memE L (i := k) (by omega))
                    have eE13b := eE13.1
                    refine W.rdg (Any.rd (.nilCheck rfl) _) rfl rfl rfl (rfl) rfl rfl ?_
                    refine W.rdg (Any.rd (.field0 fa130_0 rfl) _) rfl rfl rfl (rfl) rfl rfl ?_
                    refine W.rdg (.loadB (v := .int .i64 ((L.getD k noEnt).name)) na3 rfl eE13b rfl) rfl rfl rfl (rfl) rfl rfl ?_
                    refine W.rdg (Any.rd (.move rfl) _) rfl rfl rfl (rfl) rfl rfl ?_
                    refine W.rdg (Any.rd (.lss rfl rfl) _) rfl rfl rfl (rfl) rfl rfl ?_
                    refine W.any (.pickT rfl rfl rfl) rfl rfl rfl ?_
                    refine W.nil ?_
                    refine E.thenN ?_
                    by_cases c2 : ((L.getD k noEnt).name) < nm
                    · refine WC.condY rfl (decide_eq_true c2) ?_
                      refine WC.skip ?_
                      refine E.thenN ?_
                      refine WC.block ?_
                      refine WC.region ?_
                      refine W.any (.move rfl) rfl rfl rfl ?_
                      refine W.any (.add rfl rfl (by omega)) rfl rfl rfl ?_
                      refine W.any (.assign rfl) rfl rfl rfl ?_
                      refine W.nil ?_
                      refine E.blkN ?_
                      refine E.again (k + 1) (.cons rfl (.cons rfl (.cons rfl (.cons rfl (.cons rfl (.cons rfl (.cons rfl (.nil _)))))))) ?_ ?_
                      · exact ⟨by omega, fun j hj => (Nat.lt_succ_iff_lt_or_eq.1 hj).elim (hlt j) (fun hh => by subst hh; exact c2), Ll0, by have := sz0; omega, f0_0, f0_1, f0_2⟩
                      · first | omega | (simp only []; omega)
                    · refine WC.condN rfl (decide_eq_false c2) ?_
                      refine WC.exit ?_
                      refine E.thenX ?_
                      refine E.thenX ?_
                      refine E.blkH ?_
                      refine E.thenN ?_
                      refine WC.seq ?_
                      refine WC.region ?_
                      refine W.any (.assign rfl) rfl rfl rfl ?_
                      refine W.nil ?_
                      refine E.thenN ?_
                      refine WC.seq ?_
                      refine WC.region ?_
                      refine W.any (.move rfl) rfl rfl rfl ?_
                      refine W.any (.move rfl) rfl rfl rfl ?_
                      refine W.any (.nilCheck rfl) rfl rfl rfl ?_
                      refine W.any (.field0 fa120_0 rfl) rfl rfl rfl ?_
                      refine W.rd (.loadB (v := .slice A L.length c) na118 rfl f0_0 rfl) rfl rfl rfl ?_
                      refine W.any (.move rfl) rfl rfl rfl ?_
                      have cp14 := f0_1.cap
                      have v15 := f0_1.vec.cutH k (by omega) rpt_row
                      have v15l := v15.1
                      refine W.any (.cutH (k) Try.underlying118 sz131 rfl rfl (rfl) (by have := hV0.cap; omega)) rfl rfl rfl ?_
                      refine W.ef rfl rfl rfl ?_
                      refine Ef.vcat Try.underlying118 el131 Try.underlying118 rpt_row rfl (OVec.nil wl0 wl0.heap.size 131 rpt 1 none) rfl v15 (by omega) (by unfold maxLen; omega) (Nat.le_refl _) ?_
                      intro A10_7 c10_7 w10_7 o10_7 h10_7 at10_7
                      have L16 : ChP w w10_7 (fun k => k = gp) := Ll0.ch h10_7 (fun i hi hlt => absurd hlt (by have := ((OVec.nil wl0 wl0.heap.size 131 rpt 1 none).row hi).1; have := Ll0.size; omega))
                      refine W.any (.assign rfl) rfl rfl rfl ?_
                      refine W.nil ?_
                      refine E.thenN ?_
                      refine WC.seq ?_
                      refine WC.region ?_
                      refine W.any (.move rfl) rfl rfl rfl ?_
                      refine W.any (.move rfl) rfl rfl rfl ?_
                      refine W.any (.move rfl) rfl rfl rfl ?_
                      refine W.any (.move rfl) rfl rfl rfl ?_
                      refine W.any (.move rfl) rfl rfl rfl ?_
                      refine W.any (.move rfl) rfl rfl rfl ?_
                      refine W.any (.buildP [.int .i64 (nm), .int .u64 (((sc : Nat) : Int)), .int .i64 (to), .int .i64 (by_), .int .i64 (le), .slice none 0 0, .bool false, .bool false] pl130 z130 rfl rfl) rfl rfl rfl ?_
                      refine W.ef rfl rfl rfl ?_
                      refine Ef.boxA rfl ?_
                      intro g11_7 w11_7 hg11_7 b11_7 h11_7
                      have L17 := L16.le h11_7
                      have b11_7 : Blk w11_7 g11_7 130 #[.int .i64 (nm), .int .u64 (((sc : Nat) : Int)), .int .i64 (to), .int .i64 (by_), .int .i64 (le), .slice none 0 0, .bool false, .bool false] := b11_7
                      refine W.ef rfl rfl rfl ?_
                      refine Ef.buildSliceV (len := 1) [_] Try.underlying118 el131 rfl (by simp [Value.cells]) rfl (by decide) (by decide) ?_
                      intro g11_8 w11_8 hg11_8 b11_8 h11_8
                      have L18 := L17.le h11_8
                      have b11_8 : Blk w11_8 g11_8 131 (([g11_7]).map rpt).flatten.toArray := b11_8
                      have o11_8 : OVec w11_8 w11_7.heap.size 131 rpt 1 (some ⟨g11_8, 0, none⟩) 1 1 ([g11_7]) := b11_8.ovec hg11_8 rpt_row rfl rfl (by decide)
                      have f19 := (o10_7.le (h11_7.trans h11_8))
                      refine W.ef rfl rfl rfl ?_
                      refine Ef.vpush (a := g11_7) Try.underlying118 el131 Try.underlying118 rpt_row rfl f19 rfl b11_8 (by omega) (by unfold maxLen; omega) (by have := h10_7.size; have := h11_7.size; have := h11_8.size; omega) ?_
                      intro A11_9 c11_9 w11_9 o11_9 h11_9 at11_9
                      have L20 : ChP w w11_9 (fun k => k = gp) := L18.ch h11_9 (fun i hi hlt => absurd hlt (by have := (f19.row hi).1; have := Ll0.size; omega))
                      refine W.any (.assign rfl) rfl rfl rfl ?_
                      refine W.nil ?_
                      refine E.thenN ?_
                      refine WC.seq ?_
                      refine WC.region ?_
                      refine W.any (.move rfl) rfl rfl rfl ?_
                      refine W.any (.move rfl) rfl rfl rfl ?_
                      refine W.any (.nilCheck rfl) rfl rfl rfl ?_
                      refine W.any (.field0 fa120_0 rfl) rfl rfl rfl ?_
                      have f21 := (((f0_0.ch h10_7 (fun he => by have := ((OVec.nil wl0 wl0.heap.size 131 rpt 1 none).row he).1; have := f0_0.lt; omega)).le (h11_7.trans h11_8)).ch h11_9 (fun he => by have := (f19.row he).1; have := f0_0.lt; omega))
                      refine W.rd (.loadB (v := .slice A L.length c) na118 rfl f21 rfl) rfl rfl rfl ?_
                      refine W.any (.move rfl) rfl rfl rfl ?_
                      have f22 := (((f0_1.ch h10_7 ((Apart.symm (fun q h1 h2 => by have := (f0_1.row h1).2; have := ((OVec.nil wl0 wl0.heap.size 131 rpt 1 none).row h2).1; omega)))).le (h11_7.trans h11_8)).ch h11_9 ((Apart.symm (fun q h1 h2 => by have := (f0_1.row h1).2; have := (f19.row h2).1; omega))))
                      have cp23 := f22.cap
                      have v24 := f22.vec.cutL c k (by omega) (by have := hV0.cap; omega) rpt_row
                      have v24l := v24.1
                      refine W.any (.cutL (k) Try.underlying118 sz131 rfl rfl (rfl) (by omega) (by have := hV0.cap; omega)) rfl rfl rfl ?_
                      refine W.ef rfl rfl rfl ?_
                      refine Ef.vcat Try.underlying118 el131 Try.underlying118 rpt_row rfl o11_9 rfl v24 (by omega) (by unfold maxLen; omega) (by have := h10_7.size; have := h11_7.size; have := h11_8.size; have := h11_9.size; omega) ?_
                      intro A12_7 c12_7 w12_7 o12_7 h12_7 at12_7
                      have L25 : ChP w w12_7 (fun k => k = gp) := L20.ch h12_7 (fun i hi hlt => absurd hlt (by have := (o11_9.row hi).1; have := Ll0.size; omega))
                      have o26 := o12_7.cast (m' := (L.length + 1)) (ys := ((L.map (·.g)).take k ++ [g11_7] ++ (L.map (·.g)).drop k)) (by omega) (by simp)
                      refine W.any (.assign rfl) rfl rfl rfl ?_
                      refine W.nil ?_
                      refine E.thenN ?_
                      refine WC.seq ?_
                      refine WC.region ?_
                      refine W.any (.move rfl) rfl rfl rfl ?_
                      refine W.any (.move rfl) rfl rfl rfl ?_
                      refine W.any (.nilCheck rfl) rfl rfl rfl ?_
                      refine W.any (.field0 fa120_0 rfl) rfl rfl rfl ?_
                      have f27 := (f21.ch h12_7 (fun he => by have := (o11_9.row he).1; have := f0_0.lt; omega))
                      refine W.ef0 rfl rfl ?_
                      refine Ef.store sz118 rfl rfl f27 (by first | decide | (simp; done)) (rfl) ?_
                      intro w13_4 b13_4 h13_4
                      have b13_4 : Blk w13_4 gp 120 #[.slice A12_7 (((0 + k) + 1) + (L.length - k)) c12_7] := b13_4
                      have L28 : ChP w w13_4 (fun k => k = gp) := L25.ch h13_4 (fun i hi _ => by cases hi; exact rfl)
                      refine W.nil ?_
                      refine E.thenN ?_
                      refine WC.seq ?_
                      refine WC.region ?_
                      refine W.any (.assign rfl) rfl rfl rfl ?_
                      refine W.nil ?_
                      refine E.thenN ?_
                      refine WC.ret ?_
                      have f29 := ((((b11_7.le h11_8).ch h11_9 (fun he => by have := (o10_7.row he).2; omega)).ch h12_7 (at11_9.off (by have := b11_7.lt; have := h11_8.size; omega) (fun he => by have := (o10_7.row he).2; omega))).ch h13_4 (fun h => (show gp ≠ g11_7 from by have := f0_0.lt; have := h10_7.size; omega) (Option.some.inj h)))
                      have f30 := (o26.ch h13_4 (fun q hq => by cases hq; exact (fun he => by have := (o26.row he).1; have := f0_0.lt; omega)))
                      refine E.retG1 rfl rfl ?_
                      exact ⟨L28, .inr (.inr ⟨⟨by omega, by omega, by omega, by omega, by omega, by omega, by omega, by omega, by omega⟩, hz4_2.neg (by omega), rfl, _, _, g11_7, k, (by have := hg11_7; have := L16.size; omega), hk, hlt, (fun h => by first | (exact absurd h (by omega)) | exact c2), f29, (by have hh := b13_4; rw [show 0 + k + 1 + (L.length - k) = L.length + 1 by omega] at hh; exact hh), (f30.mono Ll0.size), (at12_7.off (by have := b11_7.lt; have := h11_8.size; have := h11_9.size; omega) (at11_9.off (by have := b11_7.lt; have := h11_8.size; omega) (fun he => by have := (o10_7.row he).2; omega)))⟩)⟩
                  · refine W.any (.dec (.move rfl) (decide_eq_false q7_7)) rfl rfl rfl ?_
                    refine W.skip rfl rfl rfl (rfl) rfl rfl ?_
                    refine W.skip rfl rfl rfl (rfl) rfl rfl ?_
                    refine W.skip rfl rfl rfl (rfl) rfl rfl ?_
                    refine W.skip rfl rfl rfl (rfl) rfl rfl ?_
                    refine W.skip rfl rfl rfl (rfl) rfl rfl ?_
                    refine W.skip rfl rfl rfl (rfl) rfl rfl ?_
                    refine W.skip rfl rfl rfl (rfl) rfl rfl ?_
                    refine W.skip rfl rfl rfl (rfl) rfl rfl ?_
                    refine W.skip rfl rfl rfl (rfl) rfl rfl ?_
                    refine W.skip rfl rfl rfl (rfl) rfl rfl ?_
                    refine W.skip rfl rfl rfl (rfl) rfl rfl ?_
                    refine W.skip rfl rfl rfl (rfl) rfl rfl ?_
                    refine W.any (.pickF rfl rfl rfl) rfl rfl rfl ?_
                    refine W.nil ?_
                    refine E.thenN ?_
                    refine WC.condF rfl ?_
                    refine WC.exit ?_
                    refine E.thenX ?_
                    refine E.thenX ?_
                    refine E.blkH ?_
                    refine E.thenN ?_
                    refine WC.seq ?_
                    refine WC.region ?_
                    refine W.any (.assign rfl) rfl rfl rfl ?_
                    refine W.nil ?_
                    refine E.thenN ?_
                    refine WC.seq ?_
                    refine WC.region ?_
                    refine W.any (.move rfl) rfl rfl rfl ?_
                    refine W.any (.move rfl) rfl rfl rfl ?_
                    refine W.any (.nilCheck rfl) rfl rfl rfl ?_
                    refine W.any (.field0 fa120_0 rfl) rfl rfl rfl ?_
                    refine W.rd (.loadB (v := .slice A L.length c) na118 rfl f0_0 rfl) rfl rfl rfl ?_
                    refine W.any (.move rfl) rfl rfl rfl ?_
                    have cp31 := f0_1.cap
                    have v32 := f0_1.vec.cutH k (by omega) rpt_row
                    have v32l := v32.1
                    refine W.any (.cutH (k) Try.underlying118 sz131 rfl rfl (rfl) (by have := hV0.cap; omega)) rfl rfl rfl ?_
                    refine W.ef rfl rfl rfl ?_
                    refine Ef.vcat Try.underlying118 el131 Try.underlying118 rpt_row rfl (OVec.nil wl0 wl0.heap.size 131 rpt 1 none) rfl v32 (by omega) (by unfold maxLen; omega) (Nat.le_refl _) ?_
                    intro A10_7_1 c10_7_1 w10_7_1 o10_7_1 h10_7_1 at10_7_1
                    have L33 : ChP w w10_7_1 (fun k => k = gp) := Ll0.ch h10_7_1 (fun i hi hlt => absurd hlt (by have := ((OVec.nil wl0 wl0.heap.size 131 rpt 1 none).row hi).1; have := Ll0.size; omega))
                    refine W.any (.assign rfl) rfl rfl rfl ?_
                    refine W.nil ?_
                    refine E.thenN ?_
                    refine WC.seq ?_
                    refine WC.region ?_
                    refine W.any (.move rfl) rfl rfl rfl ?_
                    refine W.any (.move rfl) rfl rfl rfl ?_
                    refine W.any (.move rfl) rfl rfl rfl ?_
                    refine W.any (.move rfl) rfl rfl rfl ?_
                    refine W.any (.move rfl) rfl rfl rfl ?_
                    refine W.any (.move rfl) rfl rfl rfl ?_
                    refine W.any (.buildP [.int .i64 (nm), .int .u64 (((sc : Nat) : Int)), .int .i64 (to), .int .i64 (by_), .int .i64 (le), .slice none 0 0, .bool false, .bool false] pl130 z130 rfl rfl) rfl rfl rfl ?_
                    refine W.ef rfl rfl rfl ?_
                    refine Ef.boxA rfl ?_
                    intro g11_7_1 w11_7_1 hg11_7_1 b11_7_1 h11_7_1
                    have L34 := L33.le h11_7_1
                    have b11_7_1 : Blk w11_7_1 g11_7_1 130 #[.int .i64 (nm), .int .u64 (((sc : Nat) : Int)), .int .i64 (to), .int .i64 (by_), .int .i64 (le), .slice none 0 0, .bool false, .bool false] := b11_7_1
                    refine W.ef rfl rfl rfl ?_
                    refine Ef.buildSliceV (len := 1) [_] Try.underlying118 el131 rfl (by simp [Value.cells]) rfl (by decide) (by decide) ?_
                    intro g11_8_1 w11_8_1 hg11_8_1 b11_8_1 h11_8_1
                    have L35 := L34.le h11_8_1
                    have b11_8_1 : Blk w11_8_1 g11_8_1 131 (([g11_7_1]).map rpt).flatten.toArray := b11_8_1
                    have o11_8_1 : OVec w11_8_1 w11_7_1.heap.size 131 rpt 1 (some ⟨g11_8_1, 0, none⟩) 1 1 ([g11_7_1]) := b11_8_1.ovec hg11_8_1 rpt_row rfl rfl (by decide)
                    have f36 := (o10_7_1.le (h11_7_1.trans h11_8_1))
                    refine W.ef rfl rfl rfl ?_
                    refine Ef.vpush (a := g11_7_1) Try.underlying118 el131 Try.underlying118 rpt_row rfl f36 rfl b11_8_1 (by omega) (by unfold maxLen; omega) (by have := h10_7_1.size; have := h11_7_1.size; have := h11_8_1.size; omega) ?_
                    intro A11_9_1 c11_9_1 w11_9_1 o11_9_1 h11_9_1 at11_9_1
                    have L37 : ChP w w11_9_1 (fun k => k = gp) := L35.ch h11_9_1 (fun i hi hlt => absurd hlt (by have := (f36.row hi).1; have := Ll0.size; omega))
                    refine W.any (.assign rfl) rfl rfl rfl ?_
                    refine W.nil ?_
                    refine E.thenN ?_
                    refine WC.seq ?_
                    refine WC.region ?_
                    refine W.any (.move rfl) rfl rfl rfl ?_
                    refine W.any (.move rfl) rfl rfl rfl ?_
                    refine W.any (.nilCheck rfl) rfl rfl rfl ?_
                    refine W.any (.field0 fa120_0 rfl) rfl rfl rfl ?_
                    have f38 := (((f0_0.ch h10_7_1 (fun he => by have := ((OVec.nil wl0 wl0.heap.size 131 rpt 1 none).row he).1; have := f0_0.lt; omega)).le (h11_7_1.trans h11_8_1)).ch h11_9_1 (fun he => by have := (f36.row he).1; have := f0_0.lt; omega))
                    refine W.rd (.loadB (v := .slice A L.length c) na118 rfl f38 rfl) rfl rfl rfl ?_
                    refine W.any (.move rfl) rfl rfl rfl ?_
                    have f39 := (((f0_1.ch h10_7_1 ((Apart.symm (fun q h1 h2 => by have := (f0_1.row h1).2; have := ((OVec.nil wl0 wl0.heap.size 131 rpt 1 none).row h2).1; omega)))).le (h11_7_1.trans h11_8_1)).ch h11_9_1 ((Apart.symm (fun q h1 h2 => by have := (f0_1.row h1).2; have := (f36.row h2).1; omega))))
                    have cp40 := f39.cap
                    have v41 := f39.vec.cutL c k (by omega) (by have := hV0.cap; omega) rpt_row
                    have v41l := v41.1
                    refine W.any (.cutL (k) Try.underlying118 sz131 rfl rfl (rfl) (by omega) (by have := hV0.cap; omega)) rfl rfl rfl ?_
                    refine W.ef rfl rfl rfl ?_
                    refine Ef.vcat Try.underlying118 el131 Try.underlying118 rpt_row rfl o11_9_1 rfl v41 (by omega) (by unfold maxLen; omega) (by have := h10_7_1.size; have := h11_7_1.size; have := h11_8_1.size; have := h11_9_1.size; omega) ?_
                    intro A12_7_1 c12_7_1 w12_7_1 o12_7_1 h12_7_1 at12_7_1
                    have L42 : ChP w w12_7_1 (fun k => k = gp) := L37.ch h12_7_1 (fun i hi hlt => absurd hlt (by have := (o11_9_1.row hi).1; have := Ll0.size; omega))
                    have o43 := o12_7_1.cast (m' := (L.length + 1)) (ys := ((L.map (·.g)).take k ++ [g11_7_1] ++ (L.map (·.g)).drop k)) (by omega) (by simp)
                    refine W.any (.assign rfl) rfl rfl rfl ?_
                    refine W.nil ?_
                    refine E.thenN ?_
                    refine WC.seq ?_
                    refine WC.region ?_
                    refine W.any (.move rfl) rfl rfl rfl ?_
                    refine W.any (.move rfl) rfl rfl rfl ?_
                    refine W.any (.nilCheck rfl) rfl rfl rfl ?_
                    refine W.any (.field0 fa120_0 rfl) rfl rfl rfl ?_
                    have f44 := (f38.ch h12_7_1 (fun he => by have := (o11_9_1.row he).1; have := f0_0.lt; omega))
                    refine W.ef0 rfl rfl ?_
                    refine Ef.store sz118 rfl rfl f44 (by first | decide | (simp; done)) (rfl) ?_
                    intro w13_4_1 b13_4_1 h13_4_1
                    have b13_4_1 : Blk w13_4_1 gp 120 #[.slice A12_7_1 (((0 + k) + 1) + (L.length - k)) c12_7_1] := b13_4_1
                    have L45 : ChP w w13_4_1 (fun k => k = gp) := L42.ch h13_4_1 (fun i hi _ => by cases hi; exact rfl)
                    refine W.nil ?_
                    refine E.thenN ?_
                    refine WC.seq ?_
                    refine WC.region ?_
                    refine W.any (.assign rfl) rfl rfl rfl ?_
                    refine W.nil ?_
                    refine E.thenN ?_
                    refine WC.ret ?_
                    have f46 := ((((b11_7_1.le h11_8_1).ch h11_9_1 (fun he => by have := (o10_7_1.row he).2; omega)).ch h12_7_1 (at11_9_1.off (by have := b11_7_1.lt; have := h11_8_1.size; omega) (fun he => by have := (o10_7_1.row he).2; omega))).ch h13_4_1 (fun h => (show gp ≠ g11_7_1 from by have := f0_0.lt; have := h10_7_1.size; omega) (Option.some.inj h)))
                    have f47 := (o43.ch h13_4_1 (fun q hq => by cases hq; exact (fun he => by have := (o43.row he).1; have := f0_0.lt; omega)))
                    refine E.retG1 rfl rfl ?_
                    exact ⟨L45, .inr (.inr ⟨⟨by omega, by omega, by omega, by omega, by omega, by omega, by omega, by omega, by omega⟩, hz4_2.neg (by omega), rfl, _, _, g11_7_1, k, (by have := hg11_7_1; have := L33.size; omega), hk, hlt, (fun h => by first | (exact absurd h (by omega)) | exact c2), f46, (by have hh := b13_4_1; rw [show 0 + k + 1 + (L.length - k) = L.length + 1 by omega] at hh; exact hh), (f47.mono Ll0.size), (at12_7_1.off (by have := b11_7_1.lt; have := h11_8_1.size; have := h11_9_1.size; omega) (at11_9_1.off (by have := b11_7_1.lt; have := h11_8_1.size; omega) (fun he => by have := (o10_7_1.row he).2; omega)))⟩)⟩
            · refine WC.condY rfl (congrArg not (decide_eq_false c0)) ?_
              refine WC.seq ?_
              refine WC.region ?_
              refine W.any (.assign rfl) rfl rfl rfl ?_
              refine W.nil ?_
              refine E.thenN ?_
              refine WC.ret ?_
              refine E.thenR ?_
              have f48 := (hp0.le (h1_1.trans (h2_12.trans (h2_17.trans h2_22))))
              refine E.retG1 rfl rfl ?_
              exact ⟨L6, .inl ⟨fun h => by unfold wantOk at h; omega, rfl, f48⟩⟩
          · refine W.any (.dec (.move rfl) (congrArg not (decide_eq_false q2_20))) rfl rfl rfl ?_
            refine W.skip rfl rfl rfl (rfl) rfl rfl ?_
            refine W.skip rfl rfl rfl (rfl) rfl rfl ?_
            refine W.skip rfl rfl rfl (rfl) rfl rfl ?_
            refine W.any (.pickT rfl rfl rfl) rfl rfl rfl ?_
            refine W.nil ?_
            refine E.thenN ?_
            refine WC.condT rfl ?_
            refine WC.seq ?_
            refine WC.region ?_
            refine W.any (.assign rfl) rfl rfl rfl ?_
            refine W.nil ?_
            refine E.thenN ?_
            refine WC.ret ?_
            refine E.thenR ?_
            have f49 := (hp0.le (h1_1.trans (h2_12.trans h2_17)))
            refine E.retG1 rfl rfl ?_
            exact ⟨L5, .inl ⟨fun h => by unfold wantOk at h; omega, rfl, f49⟩⟩
        · refine W.any (.dec (.move rfl) (congrArg not (decide_eq_false q2_15))) rfl rfl rfl ?_
          refine W.skip rfl rfl rfl (rfl) rfl rfl ?_
          refine W.skip rfl rfl rfl (rfl) rfl rfl ?_
          refine W.skip rfl rfl rfl (rfl) rfl rfl ?_
          refine W.any (.pickT rfl rfl rfl) rfl rfl rfl ?_
          refine W.any (.move rfl) rfl rfl rfl ?_
          refine W.skip rfl rfl rfl (rfl) rfl rfl ?_
          refine W.skip rfl rfl rfl (rfl) rfl rfl ?_
          refine W.skip rfl rfl rfl (rfl) rfl rfl ?_
          refine W.any (.pickT rfl rfl rfl) rfl rfl rfl ?_
          refine W.nil ?_
          refine E.thenN ?_
          refine WC.condT rfl ?_
          refine WC.seq ?_
          refine WC.region ?_
          refine W.any (.assign rfl) rfl rfl rfl ?_
          refine W.nil ?_
          refine E.thenN ?_
          refine WC.ret ?_
          refine E.thenR ?_
          have f50 := (hp0.le (h1_1.trans h2_12))
          refine E.retG1 rfl rfl ?_
          exact ⟨L4, .inl ⟨fun h => by unfold wantOk at h; omega, rfl, f50⟩⟩
    · refine W.any (.dec (.move rfl) (congrArg not (decide_eq_false q2_6))) rfl rfl rfl ?_
      refine W.skip rfl rfl rfl (rfl) rfl rfl ?_
      refine W.skip rfl rfl rfl (rfl) rfl rfl ?_
      refine W.any (.pickT rfl rfl rfl) rfl rfl rfl ?_
      refine W.any (.move rfl) rfl rfl rfl ?_
      refine W.skip rfl rfl rfl (rfl) rfl rfl ?_
      refine W.skip rfl rfl rfl (rfl) rfl rfl ?_
      refine W.skip rfl rfl rfl (rfl) rfl rfl ?_
      refine W.any (.pickT rfl rfl rfl) rfl rfl rfl ?_
      refine W.any (.move rfl) rfl rfl rfl ?_
      refine W.skip rfl rfl rfl (rfl) rfl rfl ?_
      refine W.skip rfl rfl rfl (rfl) rfl rfl ?_
      refine W.skip rfl rfl rfl (rfl) rfl rfl ?_
      refine W.any (.pickT rfl rfl rfl) rfl rfl rfl ?_
      refine W.any (.move rfl) rfl rfl rfl ?_
      refine W.skip rfl rfl rfl (rfl) rfl rfl ?_
      refine W.skip rfl rfl rfl (rfl) rfl rfl ?_
      refine W.skip rfl rfl rfl (rfl) rfl rfl ?_
      refine W.any (.pickT rfl rfl rfl) rfl rfl rfl ?_
      refine W.nil ?_
      refine E.thenN ?_
      refine WC.condT rfl ?_
      refine WC.seq ?_
      refine WC.region ?_
      refine W.any (.assign rfl) rfl rfl rfl ?_
      refine W.nil ?_
      refine E.thenN ?_
      refine WC.ret ?_
      refine E.thenR ?_
      have f51 := (hp0.le h1_1)
      refine E.retG1 rfl rfl ?_
      exact ⟨L1, .inl ⟨fun h => by unfold wantOk at h; omega, rfl, f51⟩⟩

theorem radd_none {gp : Nat} {A : Option Addr} {c : Nat} {L : List Ent} (nm : Int) (y : Part) (ht : Int) (w : World) (hR : RPoolL w gp A c L) (hl : L.length ≤ 1000) (hg : getP nm (L.map trP) = none) : Calls Try.prog 20 #[.pointer (some ⟨gp, 0, none⟩), .int .i64 (nm), .agg (partV y).toArray, .int .i64 (ht)] w fun r w' => r = .returned (.tuple #[.slice none 0 0, .int .i64 5]) ∧ Le w w' := by
  have hp0 := hR.hp
  refine enter Try.func20 rfl rfl ?_
  have L0 := Le.refl w
  refine WC.seq ?_
  refine WC.region ?_
  refine W.ef rfl rfl rfl ?_
  refine Ef.boxA rfl ?_
  intro g0_0 w0_0 hg0_0 b0_0 h0_0
  have L1 := L0.trans h0_0
  have b0_0 : Blk w0_0 g0_0 44 (partV y).toArray := b0_0
  refine W.any (.assign rfl) rfl rfl rfl ?_
  refine W.any (.assign rfl) rfl rfl rfl ?_
  refine W.nil ?_
  refine E.thenN ?_
  refine WC.seq ?_
  refine WC.region ?_
  refine W.any (.move rfl) rfl rfl rfl ?_
  refine W.any (.move rfl) rfl rfl rfl ?_
  have f2 := (hR.le h0_0)
  refine W.ef rfl rfl rfl ?_
  refine Ef.call go63 rfl rfl (rfind_ok nm w0_0 f2 hl) ?_
  rintro _ w1_2 ⟨z1_2, rfl, hz1_2, h1_2⟩
  refine ⟨_, rfl, ?_⟩
  have L3 := L1.trans h1_2
  refine W.any (.assign rfl) rfl rfl rfl ?_
  refine W.nil ?_
  refine E.thenN ?_
  refine WC.seq ?_
  refine WC.seq ?_
  refine WC.region ?_
  refine W.any (.move rfl) rfl rfl rfl ?_
  refine W.any (.lss rfl rfl) rfl rfl rfl ?_
  refine W.nil ?_
  refine E.thenN ?_
  refine WC.condY rfl (decide_eq_true ((by rcases hz1_2 with hh | hh; omega; have := find_some hR.hS.names hh.2.1 hh.2.2; rw [hg] at this; cases this))) ?_
  refine WC.seq ?_
  refine WC.region ?_
  refine W.any (.assign rfl) rfl rfl rfl ?_
  refine W.any (.assign rfl) rfl rfl rfl ?_
  refine W.nil ?_
  refine E.thenN ?_
  refine WC.ret ?_
  refine E.thenR ?_
  refine E.retG2 rfl rfl rfl ?_
  exact ⟨rfl, L3⟩

theorem radd_some {gp : Nat} {A : Option Addr} {c : Nat} {L : List Ent} {e : Ent} (nm : Int) (y : Part) (ht : Int) (w : World) (hR : RPoolL w gp A c L) (hl : L.length ≤ 1000) (hhl : ∀ e ∈ L, e.pay.held.length ≤ 1000) (he : e ∈ L) (hen : e.name = nm) : Calls Try.prog 20 #[.pointer (some ⟨gp, 0, none⟩), .int .i64 (nm), .agg (partV y).toArray, .int .i64 (ht)] w fun r w' => ChP w w' (fun k => k = e.g ∨ rowOf e.A e.c = some k) ∧ (((mayP e.pay (hkS (L.map trP)) y ht).2 ≠ 0 ∧ r = .returned (.tuple #[.slice none 0 0, .int .i64 (mayP e.pay (hkS (L.map trP)) y ht).2]) ∧ RAt w' e) ∨ ((mayP e.pay (hkS (L.map trP)) y ht).2 = 0 ∧ (mayP e.pay (hkS (L.map trP)) y ht).1 < e.pay.tot ∧ r = .returned (.tuple #[.slice none 0 0, .int .i64 0]) ∧ ∃ A' c', At w e.A e.c A' c' ∧ RAt w' { e with A := A', c := c', pay := { e.pay with held := e.pay.held ++ [y], sum := (mayP e.pay (hkS (L.map trP)) y ht).1 } }) ∨ ((mayP e.pay (hkS (L.map trP)) y ht).2 = 0 ∧ ¬ (mayP e.pay (hkS (L.map trP)) y ht).1 < e.pay.tot ∧ ∃ A' c', r = .returned (.tuple #[.slice A' (e.pay.held.length + 1) c', .int .i64 0]) ∧ OVec w' w.heap.size 139 paidV 3 A' (e.pay.held.length + 1) c' ((e.pay.held ++ [y]).map (paidOf e.pay.sec)) ∧ RAt w' { e with A := none, c := 0, pay := { e.pay with held := [], sum := (mayP e.pay (hkS (L.map trP)) y ht).1, ovr := true, paid := true } })) := by
  have hp0 := hR.hp
  have hV0 := hR.hV
  have hq := (hR.hP e he).1
  have hO := (hR.hP e he).2
  have hok : PayOk e.pay := hR.good.pay _ (List.mem_map.2 ⟨e, he, rfl⟩)
  have h8 := hok.few
  have n1 : gp ≠ e.g := fun h => hR.hS.p e he (.inl h)
  have n2 : rowOf A c ≠ some e.g := fun h => hR.hS.a e he _ h (.inl rfl)
  have n3 : rowOf e.A e.c ≠ some gp := fun h => hR.hS.p e he (.inr h)
  have n4 : rowOf e.A e.c ≠ some e.g := hR.hS.own e he
  have hsb := sumP_bound e.pay.held hok.low
  refine enter Try.func20 rfl rfl ?_
  have L0 := ChP.refl w (fun k => k = e.g ∨ rowOf e.A e.c = some k)
  refine WC.seq ?_
  refine WC.region ?_
  refine W.ef rfl rfl rfl ?_
  refine Ef.boxA rfl ?_
  intro g0_0 w0_0 hg0_0 b0_0 h0_0
  have L1 := L0.le h0_0
  have b0_0 : Blk w0_0 g0_0 44 (partV y).toArray := b0_0
  refine W.any (.assign rfl) rfl rfl rfl ?_
  refine W.any (.assign rfl) rfl rfl rfl ?_
  refine W.nil ?_
  refine E.thenN ?_
  refine WC.seq ?_
  refine WC.region ?_
  refine W.any (.move rfl) rfl rfl rfl ?_
  refine W.any (.move rfl) rfl rfl rfl ?_
  have f2 := (hR.le h0_0)
  refine W.ef rfl rfl rfl ?_
  refine Ef.call go63 rfl rfl (rfind_ok nm w0_0 f2 hl) ?_
  rintro _ w1_2 ⟨z1_2, rfl, hz1_2, h1_2⟩
  refine ⟨_, rfl, ?_⟩
  have L3 := L1.le h1_2
  refine W.any (.assign rfl) rfl rfl rfl ?_
  refine W.nil ?_
  refine E.thenN ?_
  refine WC.seq ?_
  refine WC.seq ?_
  refine WC.region ?_
  refine W.any (.move rfl) rfl rfl rfl ?_
  refine W.any (.lss rfl rfl) rfl rfl rfl ?_
  refine W.nil ?_
  refine E.thenN ?_
  by_cases c0 : z1_2 < 0
  · refine WC.condY rfl (decide_eq_true c0) ?_
    exact absurd ((hz1_2.neg c0).symm.trans (getP_of (by rw [List.map_map]; exact hR.hS.names) (List.mem_map.2 ⟨e, he, by rw [← hen]; rfl⟩))) (by simp)
  · refine WC.condN rfl (decide_eq_false c0) ?_
    obtain ⟨h0, hi, hnm⟩ := hz1_2.pos c0
    have hee : L.getD z1_2.toNat noEnt = e := nodup_name hR.hS.names (memE L hi) he (hnm.trans hen.symm)
    refine WC.skip ?_
    refine E.thenN ?_
    refine WC.seq ?_
    refine WC.region ?_
    refine W.any (.move rfl) rfl rfl rfl ?_
    refine W.any (.nilCheck rfl) rfl rfl rfl ?_
    refine W.any (.field0 fa120_0 rfl) rfl rfl rfl ?_
    have f4 := (hp0.le (h0_0.trans h1_2))
    refine W.rd (.loadB (v := .slice A L.length c) na118 rfl f4 rfl) rfl rfl rfl ?_
    refine W.any (.move rfl) rfl rfl rfl ?_
    refine W.any (.idxS ((z1_2).toNat) Try.underlying118 sz131 rfl rfl (hV0.vec.isSome rpt_row (by omega)) (by omega) (by omega)) rfl rfl rfl ?_
    have f5 := (hV0.le (h0_0.trans h1_2))
    refine W.rd (.vone (v := .pointer (some ⟨e.g, 0, none⟩)) na131 rfl f5.vec rpt_row ((by rw [getM L hi, hee])) rfl) rfl rfl rfl ?_
    refine W.any (.assign rfl) rfl rfl rfl ?_
    refine W.nil ?_
    refine E.thenN ?_
    refine WC.seq ?_
    refine WC.seq ?_
    refine WC.region ?_
    refine W.any (.move rfl) rfl rfl rfl ?_
    refine W.any (.nilCheck rfl) rfl rfl rfl ?_
    refine W.any (.field0 fa130_6 rfl) rfl rfl rfl ?_
    have f6 := (hq.le (h0_0.trans h1_2))
    refine W.rd (.loadB (v := .bool (e.pay.ovr)) na4 rfl f6 rfl) rfl rfl rfl ?_
    refine W.nil ?_
    refine E.thenN ?_
    by_cases c1 : e.pay.ovr = true
    · refine WC.condY rfl (c1) ?_
      refine WC.seq ?_
      refine WC.region ?_
      refine W.any (.assign rfl) rfl rfl rfl ?_
      refine W.any (.assign rfl) rfl rfl rfl ?_
      refine W.nil ?_
      refine E.thenN ?_
      refine WC.ret ?_
      refine E.thenR ?_
      have f7 := (hO.le (h0_0.trans h1_2))
      refine E.retG2 rfl rfl rfl ?_
      have hM : mayP e.pay (hkS (L.map trP)) y ht = (0, 14) := (by unfold mayP; rw [if_pos c1]); exact ⟨L3, .inl ⟨by rw [hM]; simp, by rw [hM], f6, f7⟩⟩
    · refine WC.condN rfl ((Bool.eq_false_iff.2 c1)) ?_
      refine WC.skip ?_
      refine E.thenN ?_
      refine WC.seq ?_
      refine WC.seq ?_
      refine WC.region ?_
      refine W.any (.move rfl) rfl rfl rfl ?_
      refine W.any (.move rfl) rfl rfl rfl ?_
      refine W.any (.nilCheck rfl) rfl rfl rfl ?_
      refine W.any (.field0 fa130_3 rfl) rfl rfl rfl ?_
      refine W.rd (.loadB (v := .int .i64 (e.pay.by_)) na3 rfl f6 rfl) rfl rfl rfl ?_
      refine W.any (.geq rfl rfl) rfl rfl rfl ?_
      refine W.nil ?_
      refine E.thenN ?_
      by_cases c2 : e.pay.by_ ≤ ht
      · refine WC.condY rfl (decide_eq_true c2) ?_
        refine WC.seq ?_
        refine WC.region ?_
        refine W.any (.assign rfl) rfl rfl rfl ?_
        refine W.any (.assign rfl) rfl rfl rfl ?_
        refine W.nil ?_
        refine E.thenN ?_
        refine WC.ret ?_
        refine E.thenR ?_
        have f8 := (hO.le (h0_0.trans h1_2))
        refine E.retG2 rfl rfl rfl ?_
        have hM : mayP e.pay (hkS (L.map trP)) y ht = (0, 16) := (by unfold mayP; rw [if_neg c1, if_pos c2]); exact ⟨L3, .inl ⟨by rw [hM]; simp, by rw [hM], f6, f8⟩⟩
      · refine WC.condN rfl (decide_eq_false c2) ?_
        refine WC.skip ?_
        refine E.thenN ?_
        refine WC.seq ?_
        refine WC.seq ?_
        refine WC.region ?_
        refine W.any (.field0 fa44_2 rfl) rfl rfl rfl ?_
        have f9 := (b0_0.le h1_2)
        refine W.rd (.loadB (v := .int .i64 (y.am)) na3 rfl f9 rfl) rfl rfl rfl ?_
        refine W.ef rfl rfl rfl ?_
        refine Ef.call go62 rfl rfl (rin_ok y.am 1 1125899906842624 w1_2) ?_
        rintro _ w9_2 ⟨rfl, h9_2⟩
        refine ⟨_, rfl, ?_⟩
        have L10 := L3.le h9_2
        refine W.any (.not rfl) rfl rfl rfl ?_
        refine W.nil ?_
        refine E.thenN ?_
        by_cases c3 : 1 ≤ y.am ∧ y.am ≤ 1125899906842624
        · refine WC.condN rfl (congrArg not (decide_eq_true c3)) ?_
          refine WC.skip ?_
          refine E.thenN ?_
          refine WC.seq ?_
          refine WC.seq ?_
          refine WC.draw [0, 1, 2, 3, 4, 5, 6] mixed (by kernel_rfl) ?_
          intro w11 d11
          have L11 := L10.le d11
          refine G.any rfl rfl (.field0 fa44_3 rfl) rfl rfl rfl ?_
          have f12 := (f9.le (h9_2.trans d11))
          refine G.rd rfl rfl (.loadB (v := .int .i64 (y.ex)) na3 rfl f12 rfl) rfl rfl rfl ?_
          refine G.any rfl rfl (.move rfl) rfl rfl rfl ?_
          refine G.any rfl rfl (.nilCheck rfl) rfl rfl rfl ?_
          refine G.any rfl rfl (.field0 fa130_4 rfl) rfl rfl rfl ?_
          have f13 := (f6.le (h9_2.trans d11))
          refine G.rd rfl rfl (.loadB (v := .int .i64 (e.pay.lst)) na3 rfl f13 rfl) rfl rfl rfl ?_
          refine G.any rfl rfl (.lss rfl rfl) rfl rfl rfl ?_
          refine G.nil ?_
          refine E.thenN ?_
          by_cases c4 : y.ex < e.pay.lst
          · refine WC.condY rfl (decide_eq_true c4) ?_
            refine WC.seq ?_
            refine WC.region ?_
            refine W.any (.assign rfl) rfl rfl rfl ?_
            refine W.any (.assign rfl) rfl rfl rfl ?_
            refine W.nil ?_
            refine E.thenN ?_
            refine WC.ret ?_
            refine E.thenR ?_
            have f14 := (hO.le (h0_0.trans (h1_2.trans (h9_2.trans d11))))
            refine E.retG2 rfl rfl rfl ?_
            have hM : mayP e.pay (hkS (L.map trP)) y ht = (0, 16) := (by unfold mayP; rw [if_neg c1, if_neg c2, if_neg (by omega), if_pos c4]); exact ⟨L11, .inl ⟨by rw [hM]; simp, by rw [hM], f13, f14⟩⟩
          · refine WC.condN rfl (decide_eq_false c4) ?_
            refine WC.skip ?_
            refine E.thenN ?_
            refine WC.seq ?_
            refine WC.seq ?_
            refine WC.region ?_
            refine W.any (.move rfl) rfl rfl rfl ?_
            refine W.rd (.loadAll ag44 (by rfl) rfl f12) rfl rfl rfl ?_
            have f15 := (f2.le (h1_2.trans (h9_2.trans d11)))
            refine W.ef rfl rfl rfl ?_
            refine Ef.call go66 rfl rfl (rholds_ok y w11 f15 hl hhl) ?_
            rintro _ w13_2 ⟨rfl, h13_2⟩
            refine ⟨_, rfl, ?_⟩
            have L16 := L11.le h13_2
            refine W.nil ?_
            refine E.thenN ?_
            by_cases c5 : (hkS (L.map trP) (keyP y)) = true
            · refine WC.condY rfl (c5) ?_
              refine WC.seq ?_
              refine WC.region ?_
              refine W.any (.assign rfl) rfl rfl rfl ?_
              refine W.any (.assign rfl) rfl rfl rfl ?_
              refine W.nil ?_
              refine E.thenN ?_
              refine WC.ret ?_
              refine E.thenR ?_
              have f17 := (hO.le (h0_0.trans (h1_2.trans (h9_2.trans (d11.trans h13_2)))))
              have f18 := (f13.le h13_2)
              refine E.retG2 rfl rfl rfl ?_
              have hM : mayP e.pay (hkS (L.map trP)) y ht = (0, 4) := (by unfold mayP; rw [if_neg c1, if_neg c2, if_neg (by omega), if_neg c4, if_pos c5]); exact ⟨L16, .inl ⟨by rw [hM]; simp, by rw [hM], f18, f17⟩⟩
            · refine WC.condN rfl ((Bool.eq_false_iff.2 c5)) ?_
              refine WC.skip ?_
              refine E.thenN ?_
              refine WC.seq ?_
              refine WC.seq ?_
              refine WC.region ?_
              refine W.any (.move rfl) rfl rfl rfl ?_
              have f19 := (f12.le h13_2)
              refine W.rd (.loadAll ag44 (by rfl) rfl f19) rfl rfl rfl ?_
              have f20 := (f13.le h13_2)
              refine W.ef rfl rfl rfl ?_
              refine Ef.call go67 rfl rfl (ropens_ok e y w13_2 f20) ?_
              rintro _ w15_2 ⟨rfl, h15_2⟩
              refine ⟨_, rfl, ?_⟩
              have L21 := L16.le h15_2
              refine W.any (.not rfl) rfl rfl rfl ?_
              refine W.nil ?_
              refine E.thenN ?_
              by_cases c6 : (opensP e.pay.sec y) = true
              · refine WC.condN rfl (congrArg not (c6)) ?_
                refine WC.skip ?_
                refine E.thenN ?_
                refine WC.seq ?_
                refine WC.seq ?_
                refine WC.region ?_
                refine W.any (.move rfl) rfl rfl rfl ?_
                refine W.any (.nilCheck rfl) rfl rfl rfl ?_
                refine W.any (.field0 fa130_5 rfl) rfl rfl rfl ?_
                have f22 := (f20.le h15_2)
                refine W.rd (.loadB (v := .slice e.A e.pay.held.length e.c) na49 rfl f22 rfl) rfl rfl rfl ?_
                refine W.rd (.len Try.underlying49 rfl) rfl rfl rfl ?_
                refine W.any (.geq rfl rfl) rfl rfl rfl ?_
                refine W.nil ?_
                refine E.thenN ?_
                by_cases c7 : 8 ≤ ((e.pay.held.length : Nat) : Int)
                · refine WC.condY rfl (decide_eq_true c7) ?_
                  refine WC.seq ?_
                  refine WC.region ?_
                  refine W.any (.assign rfl) rfl rfl rfl ?_
                  refine W.any (.assign rfl) rfl rfl rfl ?_
                  refine W.nil ?_
                  refine E.thenN ?_
                  refine WC.ret ?_
                  refine E.thenR ?_
                  have f23 := (hO.le (h0_0.trans (h1_2.trans (h9_2.trans (d11.trans (h13_2.trans h15_2))))))
                  refine E.retG2 rfl rfl rfl ?_
                  have hM : mayP e.pay (hkS (L.map trP)) y ht = (0, 3) := (by unfold mayP; rw [if_neg c1, if_neg c2, if_neg (by omega), if_neg c4, if_neg c5, if_neg (by simp [c6]), if_pos (by omega)]); exact ⟨L21, .inl ⟨by rw [hM]; simp, by rw [hM], f22, f23⟩⟩
                · refine WC.condN rfl (decide_eq_false c7) ?_
                  refine WC.skip ?_
                  refine E.thenN ?_
                  refine WC.seq ?_
                  refine WC.region ?_
                  refine W.any (.field0 fa44_2 rfl) rfl rfl rfl ?_
                  have f24 := (f19.le h15_2)
                  refine W.rd (.loadB (v := .int .i64 (y.am)) na3 rfl f24 rfl) rfl rfl rfl ?_
                  refine W.any (.assign rfl) rfl rfl rfl ?_
                  refine W.nil ?_
                  refine E.thenN ?_
                  refine WC.seq ?_
                  refine WC.seq ?_
                  refine WC.region ?_
                  refine W.any (.assign rfl) rfl rfl rfl ?_
                  refine W.nil ?_
                  refine E.thenN ?_
                  refine WC.block ?_
                  have f25 := (hO.le (h0_0.trans (h1_2.trans (h9_2.trans (d11.trans (h13_2.trans h15_2))))))
                  refine WC.loop (ι := Nat) (fun k => [(6, .pointer (some ⟨g0_0, 0, none⟩)), (11, .pointer (some ⟨e.g, 0, none⟩)), (12, .int .i64 ((y.am + sumP (e.pay.held.take k)))), (13, .int .i64 (((k : Nat) : Int)))]) (fun k wl0 => (k ≤ e.pay.held.length) ∧ ChP w wl0 (fun k => k = e.g ∨ rowOf e.A e.c = some k) ∧ w15_2.heap.size ≤ wl0.heap.size ∧ Blk wl0 g0_0 44 (partV y).toArray ∧ Blk wl0 e.g 130 #[.int .i64 (e.name), .int .u64 (((e.pay.sec : Nat) : Int)), .int .i64 (e.pay.tot), .int .i64 (e.pay.by_), .int .i64 (e.pay.lst), .slice e.A e.pay.held.length e.c, .bool (e.pay.ovr), .bool (e.pay.paid)] ∧ OVec wl0 0 44 partV 6 e.A e.pay.held.length e.c e.pay.held) (fun k => e.pay.held.length - k) 0 ?_ ?_ ?_
                  · exact .cons rfl (.cons rfl (.cons' rfl (int_eq (by simp [sumP])) (.cons rfl (.nil _))))
                  · exact ⟨Nat.zero_le _, L21, Nat.le_refl _, f24, f22, f25⟩
                  · rintro k wl0 ⟨hk, Ll0, sz0, f0_0, f0_1, f0_2⟩
                    have hsk := hsb k
                    have hsl := hok.top (Bool.eq_false_iff.2 c1)
                    refine WC.seq ?_
                    refine WC.seq ?_
                    refine WC.region ?_
                    refine W.any (.move rfl) rfl rfl rfl ?_
                    refine W.any (.move rfl) rfl rfl rfl ?_
                    refine W.any (.nilCheck rfl) rfl rfl rfl ?_
                    refine W.any (.field0 fa130_5 rfl) rfl rfl rfl ?_
                    refine W.rd (.loadB (v := .slice e.A e.pay.held.length e.c) na49 rfl f0_1 rfl) rfl rfl rfl ?_
                    refine W.rd (.len Try.underlying49 rfl) rfl rfl rfl ?_
                    refine W.any (.lss rfl rfl) rfl rfl rfl ?_
                    refine W.nil ?_
                    refine E.thenN ?_
                    by_cases c8 : ((k : Nat) : Int) < ((e.pay.held.length : Nat) : Int)
                    · refine WC.condY rfl (decide_eq_true c8) ?_
                      refine WC.skip ?_
                      refine E.thenN ?_
                      refine WC.seq ?_
                      refine WC.block ?_
                      refine WC.region ?_
                      refine W.any (.move rfl) rfl rfl rfl ?_
                      refine W.any (.move rfl) rfl rfl rfl ?_
                      refine W.any (.nilCheck rfl) rfl rfl rfl ?_
                      refine W.any (.field0 fa130_5 rfl) rfl rfl rfl ?_
                      refine W.rd (.loadB (v := .slice e.A e.pay.held.length e.c) na49 rfl f0_1 rfl) rfl rfl rfl ?_
                      refine W.any (.move rfl) rfl rfl rfl ?_
                      refine W.any (.idxS (k) Try.underlying49 sz44 rfl rfl (hO.vec.isSome partV_row (by omega)) (rfl) (by omega)) rfl rfl rfl ?_
                      refine W.any (.vfield fa44_2 (hO.vec.isSome partV_row (by omega)) rfl) rfl rfl rfl ?_
                      refine W.rd (.vcell (j := k) (o := 2) (v := .int .i64 ((e.pay.held.getD k noPart).am)) na3 rfl f0_2.vec partV_row (getS e.pay.held noPart (by first | omega | (simp only [List.length_cons, List.length_nil]; omega))) rfl) rfl rfl rfl ?_
                      refine W.any (.add rfl rfl (by have := hsb (k + 1); rw [sumP_next (by omega)] at this; omega)) rfl rfl rfl ?_
                      refine W.any (.assign rfl) rfl rfl rfl ?_
                      refine W.nil ?_
                      refine E.blkN ?_
                      refine E.thenN ?_
                      refine WC.region ?_
                      refine W.any (.move rfl) rfl rfl rfl ?_
                      refine W.any (.add rfl rfl (by omega)) rfl rfl rfl ?_
                      refine W.any (.assign rfl) rfl rfl rfl ?_
                      refine W.nil ?_
                      refine E.again (k + 1) (.cons rfl (.cons rfl (.cons' rfl (int_eq (by rw [sumP_next (by omega)]; omega)) (.cons rfl (.nil _))))) ?_ ?_
                      · exact ⟨by omega, Ll0, by have := sz0; omega, f0_0, f0_1, f0_2⟩
                      · first | omega | (simp only []; omega)
                    · refine WC.condN rfl (decide_eq_false c8) ?_
                      have hkk : e.pay.held.take k = e.pay.held := List.take_of_length_le (by omega)
                      refine WC.exit ?_
                      refine E.thenX ?_
                      refine E.thenX ?_
                      refine E.blkH ?_
                      refine E.thenN ?_
                      refine WC.seq ?_
                      refine WC.seq ?_
                      refine WC.region ?_
                      refine W.any (.move rfl) rfl rfl rfl ?_
                      refine W.any (.gtr rfl rfl) rfl rfl rfl ?_
                      refine W.nil ?_
                      refine E.thenN ?_
                      by_cases c9 : 1125899906842624 < (y.am + sumP (e.pay.held.take k))
                      · refine WC.condY rfl (decide_eq_true c9) ?_
                        rw [hkk] at c9
                        refine WC.seq ?_
                        refine WC.region ?_
                        refine W.any (.assign rfl) rfl rfl rfl ?_
                        refine W.any (.assign rfl) rfl rfl rfl ?_
                        refine W.nil ?_
                        refine E.thenN ?_
                        refine WC.ret ?_
                        refine E.thenR ?_
                        refine E.retG2 rfl rfl rfl ?_
                        have hM := rmay (hk := hkS (L.map trP)) (x := y) (ht := ht) hok (Bool.eq_false_iff.2 c1) c2 c3 c4 (Bool.eq_false_iff.2 c5) c6 (by omega); rw [if_pos c9] at hM; exact ⟨Ll0, .inl ⟨by rw [hM]; simp, by rw [hM], f0_1, f0_2⟩⟩
                      · refine WC.condN rfl (decide_eq_false c9) ?_
                        rw [hkk] at c9
                        refine WC.skip ?_
                        refine E.thenN ?_
                        refine WC.seq ?_
                        refine WC.draw [0, 1, 2, 3, 4, 5, 6, 7, 8, 9, 10] mixed (by kernel_rfl) ?_
                        intro w26 d26
                        have L26 := Ll0.le d26
                        refine G.any rfl rfl (.move rfl) rfl rfl rfl ?_
                        refine G.any rfl rfl (.move rfl) rfl rfl rfl ?_
                        refine G.any rfl rfl (.nilCheck rfl) rfl rfl rfl ?_
                        refine G.any rfl rfl (.field0 fa130_5 rfl) rfl rfl rfl ?_
                        have f27 := (f0_1.le d26)
                        refine G.rd rfl rfl (.loadB (v := .slice e.A e.pay.held.length e.c) na49 rfl f27 rfl) rfl rfl rfl ?_
                        have f28 := (f0_0.le d26)
                        refine G.rd rfl rfl (.loadAll ag44 (by rfl) rfl f28) rfl rfl rfl ?_
                        refine G.ef rfl rfl rfl rfl rfl ?_
                        refine Ef.buildSliceV (len := 1) [_] Try.underlying49 el44 rfl (by simp [Value.cells, partV_row.len]) rfl (by decide) (by decide) ?_
                        intro g26_6 w26_6 hg26_6 b26_6 h26_6
                        refine ⟨fun _ => h26_6, ?_⟩
                        have L29 := L26.le h26_6
                        have b26_6 : Blk w26_6 g26_6 44 (([y]).map partV).flatten.toArray := b26_6
                        have o26_6 : OVec w26_6 w26.heap.size 44 partV 6 (some ⟨g26_6, 0, none⟩) 1 1 ([y]) := b26_6.ovec hg26_6 partV_row rfl rfl (by decide)
                        have f30 := (f0_2.le (d26.trans h26_6))
                        refine G.ef rfl rfl rfl rfl rfl ?_
                        refine Ef.vpush (a := y) Try.underlying49 el44 Try.underlying49 partV_row rfl f30 rfl b26_6 (by omega) (by unfold maxLen; omega) (Nat.zero_le _) ?_
                        intro A26_7 c26_7 w26_7 o26_7 h26_7 at26_7
                        refine ⟨fun h => absurd h (ne_true_of_eq_false (by kernel_rfl)), ?_⟩
                        have L31 : ChP w w26_7 (fun k => k = e.g ∨ rowOf e.A e.c = some k) := L29.ch h26_7 (fun i hi _ => (fun i hi => Or.inr hi) i hi)
                        refine G.any rfl rfl (.nilCheck rfl) rfl rfl rfl ?_
                        refine G.any rfl rfl (.field0 fa130_5 rfl) rfl rfl rfl ?_
                        have f32 := ((f27.le h26_6).ch h26_7 n4)
                        refine G.ef0 rfl rfl rfl rfl ?_
                        refine Ef.store sz49 rfl rfl f32 (by first | decide | (simp; done)) (rfl) ?_
                        intro w26_10 b26_10 h26_10
                        refine ⟨fun h => absurd h (ne_true_of_eq_false (by kernel_rfl)), ?_⟩
                        have b26_10 : Blk w26_10 e.g 130 #[.int .i64 (e.name), .int .u64 (((e.pay.sec : Nat) : Int)), .int .i64 (e.pay.tot), .int .i64 (e.pay.by_), .int .i64 (e.pay.lst), .slice A26_7 (e.pay.held.length + 1) c26_7, .bool (e.pay.ovr), .bool (e.pay.paid)] := b26_10
                        have L33 : ChP w w26_10 (fun k => k = e.g ∨ rowOf e.A e.c = some k) := L31.ch h26_10 (fun i hi _ => by cases hi; exact Or.inl rfl)
                        refine G.nil ?_
                        refine E.thenN ?_
                        refine WC.seq ?_
                        refine WC.seq ?_
                        refine WC.region ?_
                        refine W.any (.move rfl) rfl rfl rfl ?_
                        refine W.any (.move rfl) rfl rfl rfl ?_
                        refine W.any (.nilCheck rfl) rfl rfl rfl ?_
                        refine W.any (.field0 fa130_2 rfl) rfl rfl rfl ?_
                        refine W.rd (.loadB (v := .int .i64 (e.pay.tot)) na3 rfl b26_10 rfl) rfl rfl rfl ?_
                        refine W.any (.lss rfl rfl) rfl rfl rfl ?_
                        refine W.nil ?_
                        refine E.thenN ?_
                        by_cases c10 : (y.am + sumP (e.pay.held.take k)) < e.pay.tot
                        · refine WC.condY rfl (decide_eq_true c10) ?_
                          rw [hkk] at c10
                          refine WC.seq ?_
                          refine WC.region ?_
                          refine W.any (.assign rfl) rfl rfl rfl ?_
                          refine W.any (.assign rfl) rfl rfl rfl ?_
                          refine W.nil ?_
                          refine E.thenN ?_
                          refine WC.ret ?_
                          refine E.thenR ?_
                          have f34 := (o26_7.ch h26_10 (fun q hq => by cases hq; exact (at26_7.off (by have := f27.lt; have := h26_6.size; omega) n4)))
                          refine E.retG2 rfl rfl rfl ?_
                          have hM := rmay (hk := hkS (L.map trP)) (x := y) (ht := ht) hok (Bool.eq_false_iff.2 c1) c2 c3 c4 (Bool.eq_false_iff.2 c5) c6 (by omega); rw [if_neg c9] at hM; exact ⟨L33, .inr (.inl ⟨by rw [hM], by rw [hM]; exact c10, rfl, _, _, (fun g h => (at26_7 g h).imp_right (fun z => Nat.le_trans L29.size z)), (by rw [hM]; exact ⟨(by unfold Ent.rarr; simp only [List.length_append, List.length_cons, List.length_nil]; exact b26_10), (by simp only [List.length_append, List.length_cons, List.length_nil]; exact f34)⟩)⟩)⟩
                        · refine WC.condN rfl (decide_eq_false c10) ?_
                          rw [hkk] at c10
                          refine WC.skip ?_
                          refine E.thenN ?_
                          refine WC.seq ?_
                          refine WC.region ?_
                          refine W.any (.assign rfl) rfl rfl rfl ?_
                          refine W.nil ?_
                          refine E.thenN ?_
                          refine WC.seq ?_
                          refine WC.seq ?_
                          refine WC.region ?_
                          refine W.any (.assign rfl) rfl rfl rfl ?_
                          refine W.nil ?_
                          refine E.thenN ?_
                          refine WC.block ?_
                          have f35 := (o26_7.ch h26_10 (fun q hq => by cases hq; exact (at26_7.off (by have := f27.lt; have := h26_6.size; omega) n4)))
                          refine WC.loop (ι := Nat × (Option Addr) × Nat) (fun ⟨k2, Ab, cb⟩ => [(11, .pointer (some ⟨e.g, 0, none⟩)), (14, .slice Ab k2 cb), (15, .int .i64 (((k2 : Nat) : Int)))]) (fun ⟨k2, Ab, cb⟩ wl1 => (k2 ≤ e.pay.held.length + 1) ∧ ChP w wl1 (fun k => k = e.g ∨ rowOf e.A e.c = some k) ∧ w26_10.heap.size ≤ wl1.heap.size ∧ Blk wl1 e.g 130 #[.int .i64 (e.name), .int .u64 (((e.pay.sec : Nat) : Int)), .int .i64 (e.pay.tot), .int .i64 (e.pay.by_), .int .i64 (e.pay.lst), .slice A26_7 (e.pay.held.length + 1) c26_7, .bool (e.pay.ovr), .bool (e.pay.paid)] ∧ OVec wl1 0 44 partV 6 A26_7 (e.pay.held.length + 1) c26_7 (e.pay.held ++ [y]) ∧ OVec wl1 w26_10.heap.size 139 paidV 3 Ab k2 cb (((e.pay.held ++ [y]).take k2).map (paidOf e.pay.sec))) (fun ⟨k2, Ab, cb⟩ => e.pay.held.length + 1 - k2) (0, none, 0) ?_ ?_ ?_
                          · exact .cons rfl (.cons rfl (.cons rfl (.nil _)))
                          · exact ⟨Nat.zero_le _, L33, Nat.le_refl _, b26_10, f35, (OVec.nil w26_10 w26_10.heap.size 139 paidV 3 none)⟩
                          · rintro ⟨k2, Ab, cb⟩ wl1 ⟨hk2, Ll1, sz1, f1_0, f1_1, f1_2⟩
                            have lb1_9 : w26_10.heap.size ≤ wl1.heap.size := by omega
                            have hln : (e.pay.held ++ [y]).length = e.pay.held.length + 1 := by simp
                            refine WC.seq ?_
                            refine WC.seq ?_
                            refine WC.region ?_
                            refine W.any (.move rfl) rfl rfl rfl ?_
                            refine W.any (.move rfl) rfl rfl rfl ?_
                            refine W.any (.nilCheck rfl) rfl rfl rfl ?_
                            refine W.any (.field0 fa130_5 rfl) rfl rfl rfl ?_
                            refine W.rd (.loadB (v := .slice A26_7 (e.pay.held.length + 1) c26_7) na49 rfl f1_0 rfl) rfl rfl rfl ?_
                            refine W.rd (.len Try.underlying49 rfl) rfl rfl rfl ?_
                            refine W.any (.lss rfl rfl) rfl rfl rfl ?_
                            refine W.nil ?_
                            refine E.thenN ?_
                            by_cases c11 : ((k2 : Nat) : Int) < (((e.pay.held.length + 1) : Nat) : Int)
                            · refine WC.condY rfl (decide_eq_true c11) ?_
                              refine WC.skip ?_
                              refine E.thenN ?_
                              refine WC.seq ?_
                              refine WC.block ?_
                              refine WC.seq ?_
                              refine WC.region ?_
                              refine W.any (.move rfl) rfl rfl rfl ?_
                              refine W.any (.nilCheck rfl) rfl rfl rfl ?_
                              refine W.any (.field0 fa130_5 rfl) rfl rfl rfl ?_
                              refine W.rd (.loadB (v := .slice A26_7 (e.pay.held.length + 1) c26_7) na49 rfl f1_0 rfl) rfl rfl rfl ?_
                              refine W.any (.move rfl) rfl rfl rfl ?_
                              refine W.any (.idxS (k2) Try.underlying49 sz44 rfl rfl (o26_7.vec.isSome partV_row (by omega)) (rfl) (by omega)) rfl rfl rfl ?_
                              refine W.rd (.vload ag44 rfl f1_1.vec partV_row (getS (e.pay.held ++ [y]) noPart (by first | omega | (simp only [List.length_cons, List.length_nil]; omega)))) rfl rfl rfl ?_
                              refine W.ef rfl rfl rfl ?_
                              refine Ef.allocA z44 ?_
                              intro g33_7 w33_7 hg33_7 b33_7 h33_7
                              have L36 := Ll1.le h33_7
                              have b33_7 : Blk w33_7 g33_7 44 (partV noPart).toArray := b33_7
                              refine W.ef0 rfl rfl ?_
                              refine Ef.storeAll sz44 (by rfl) rfl rfl b33_7 (by rfl) (partV_row.one ((e.pay.held ++ [y]).getD k2 noPart)) ?_
                              intro w33_8 b33_8 h33_8
                              have b33_8 : Blk w33_8 g33_7 44 (partV ((e.pay.held ++ [y]).getD k2 noPart)).toArray := b33_8
                              have L37 : ChP w w33_8 (fun k => k = e.g ∨ rowOf e.A e.c = some k) := L36.ch h33_8 (fun i hi hlt => by cases hi; exact absurd hlt (by have := Ll1.size; have := hg33_7; omega))
                              refine W.nil ?_
                              refine E.thenN ?_
                              refine WC.draw [0, 1, 2, 3, 4, 5, 6, 7, 8, 9, 10, 11, 12, 13, 14, 15] mixed (by kernel_rfl) ?_
                              intro w34 d34
                              have L38 := L37.le d34
                              refine G.any rfl rfl (.move rfl) rfl rfl rfl ?_
                              refine G.any rfl rfl (.field0 fa44_0 rfl) rfl rfl rfl ?_
                              have f39 := (b33_8.le d34)
                              refine G.rd rfl rfl (.loadB (v := .int .i64 (((e.pay.held ++ [y]).getD k2 noPart).ch)) na3 rfl f39 rfl) rfl rfl rfl ?_
                              refine G.any rfl rfl (.field0 fa44_1 rfl) rfl rfl rfl ?_
                              refine G.rd rfl rfl (.loadB (v := .int .i64 (((e.pay.held ++ [y]).getD k2 noPart).id)) na3 rfl f39 rfl) rfl rfl rfl ?_
                              refine G.any rfl rfl (.move rfl) rfl rfl rfl ?_
                              refine G.any rfl rfl (.nilCheck rfl) rfl rfl rfl ?_
                              refine G.any rfl rfl (.field0 fa130_1 rfl) rfl rfl rfl ?_
                              have f40 := (((f1_0.le h33_7).ch h33_8 (fun h => (show g33_7 ≠ e.g from by have := f1_0.lt; omega) (Option.some.inj h))).le d34)
                              refine G.rd rfl rfl (.loadB (v := .int .u64 (((e.pay.sec : Nat) : Int))) na30 rfl f40 rfl) rfl rfl rfl ?_
                              refine G.any rfl rfl (.field0 fa44_5 rfl) rfl rfl rfl ?_
                              refine G.rd rfl rfl (.loadB (v := .int .u64 (((((e.pay.held ++ [y]).getD k2 noPart).bl : Nat) : Int))) na30 rfl f39 rfl) rfl rfl rfl ?_
                              refine G.ef rfl rfl rfl rfl rfl ?_
                              refine Ef.call go68 rfl rfl (rfadd_ok e.pay.sec (((e.pay.held ++ [y]).getD k2 noPart).bl) w34) ?_
                              rintro _ w34_11 ⟨rfl, h34_11⟩
                              refine ⟨_, rfl, ?_⟩
                              refine ⟨fun _ => h34_11, ?_⟩
                              have L41 := L38.le h34_11
                              refine G.any rfl rfl (.buildP (paidV (⟨((e.pay.held ++ [y]).getD k2 noPart).ch, ((e.pay.held ++ [y]).getD k2 noPart).id, addS e.pay.sec (((e.pay.held ++ [y]).getD k2 noPart).bl)⟩ : Paid)) pl139 z139 rfl rfl) rfl rfl rfl ?_
                              refine G.ef rfl rfl rfl rfl rfl ?_
                              refine Ef.buildSliceV (len := 1) [_] Try.underlying41 el139 rfl (by simp [Value.cells, paidV_row.len]) rfl (by decide) (by decide) ?_
                              intro g34_13 w34_13 hg34_13 b34_13 h34_13
                              refine ⟨fun _ => h34_13, ?_⟩
                              have L42 := L41.le h34_13
                              have b34_13 : Blk w34_13 g34_13 139 (([(⟨((e.pay.held ++ [y]).getD k2 noPart).ch, ((e.pay.held ++ [y]).getD k2 noPart).id, addS e.pay.sec (((e.pay.held ++ [y]).getD k2 noPart).bl)⟩ : Paid)]).map paidV).flatten.toArray := b34_13
                              have o34_13 : OVec w34_13 w34_11.heap.size 139 paidV 3 (some ⟨g34_13, 0, none⟩) 1 1 ([(⟨((e.pay.held ++ [y]).getD k2 noPart).ch, ((e.pay.held ++ [y]).getD k2 noPart).id, addS e.pay.sec (((e.pay.held ++ [y]).getD k2 noPart).bl)⟩ : Paid)]) := b34_13.ovec hg34_13 paidV_row rfl rfl (by decide)
                              have f43 := (((f1_2.le h33_7).ch h33_8 (fun q hq => by cases hq; exact (fun he => by have := (f1_2.row he).2; omega))).le (d34.trans (h34_11.trans h34_13)))
                              refine G.ef rfl rfl rfl rfl rfl ?_
                              refine Ef.vpush (a := (⟨((e.pay.held ++ [y]).getD k2 noPart).ch, ((e.pay.held ++ [y]).getD k2 noPart).id, addS e.pay.sec (((e.pay.held ++ [y]).getD k2 noPart).bl)⟩ : Paid)) Try.underlying41 el139 Try.underlying41 paidV_row rfl f43 rfl b34_13 (by omega) (by unfold maxLen; omega) (by have := lb1_9; have := h33_7.size; have := h33_8.size; have := d34.size; have := h34_11.size; have := h34_13.size; omega) ?_
                              intro A34_14 c34_14 w34_14 o34_14 h34_14 at34_14
                              refine ⟨fun h => absurd h (ne_true_of_eq_false (by kernel_rfl)), ?_⟩
                              have L44 : ChP w w34_14 (fun k => k = e.g ∨ rowOf e.A e.c = some k) := L42.ch h34_14 (fun i hi hlt => absurd hlt (by have := (f43.row hi).1; have := L33.size; omega))
                              refine G.any rfl rfl (.assign rfl) rfl rfl rfl ?_
                              refine G.nil ?_
                              refine E.blkN ?_
                              refine E.thenN ?_
                              refine WC.region ?_
                              refine W.any (.move rfl) rfl rfl rfl ?_
                              refine W.any (.add rfl rfl (by omega)) rfl rfl rfl ?_
                              refine W.any (.assign rfl) rfl rfl rfl ?_
                              refine W.nil ?_
                              have f45 := ((f40.le (h34_11.trans h34_13)).ch h34_14 (fun he => by have := (f43.row he).1; have := b26_10.lt; omega))
                              have f46 := ((((f1_1.le h33_7).ch h33_8 (fun q hq => by cases hq; exact (fun he => by have := (f1_1.row he).2; omega))).le (d34.trans (h34_11.trans h34_13))).ch h34_14 ((Apart.symm (fun q h1 h2 => by have := (f35.row h1).2; have := (f43.row h2).1; omega))))
                              refine E.again (k2 + 1, A34_14, c34_14) (.cons rfl (.cons rfl (.cons rfl (.nil _)))) ?_ ?_
                              · exact ⟨by omega, L44, by have := sz1; have := h33_7.size; have := h33_8.size; have := d34.size; have := h34_11.size; have := h34_13.size; have := h34_14.size; omega, f45, f46, (o34_14.cast rfl (paid_snoc e.pay.sec (e.pay.held ++ [y]) k2 (by omega)))⟩
                              · first | omega | (simp only []; omega)
                            · refine WC.condN rfl (decide_eq_false c11) ?_
                              refine WC.exit ?_
                              refine E.thenX ?_
                              refine E.thenX ?_
                              refine E.blkH ?_
                              refine E.thenN ?_
                              refine WC.seq ?_
                              refine WC.region ?_
                              refine W.any (.move rfl) rfl rfl rfl ?_
                              refine W.any (.nilCheck rfl) rfl rfl rfl ?_
                              refine W.any (.field0 fa130_5 rfl) rfl rfl rfl ?_
                              refine W.ef0 rfl rfl ?_
                              refine Ef.store sz49 rfl rfl f1_0 (by first | decide | (simp; done)) (rfl) ?_
                              intro w35_3 b35_3 h35_3
                              have b35_3 : Blk w35_3 e.g 130 #[.int .i64 (e.name), .int .u64 (((e.pay.sec : Nat) : Int)), .int .i64 (e.pay.tot), .int .i64 (e.pay.by_), .int .i64 (e.pay.lst), .slice none 0 0, .bool (e.pay.ovr), .bool (e.pay.paid)] := b35_3
                              have L47 : ChP w w35_3 (fun k => k = e.g ∨ rowOf e.A e.c = some k) := Ll1.ch h35_3 (fun i hi _ => by cases hi; exact Or.inl rfl)
                              refine W.nil ?_
                              refine E.thenN ?_
                              refine WC.seq ?_
                              refine WC.region ?_
                              refine W.any (.move rfl) rfl rfl rfl ?_
                              refine W.any (.nilCheck rfl) rfl rfl rfl ?_
                              refine W.any (.field0 fa130_6 rfl) rfl rfl rfl ?_
                              refine W.ef0 rfl rfl ?_
                              refine Ef.store sz4 rfl rfl b35_3 (by first | decide | (simp; done)) (rfl) ?_
                              intro w36_3 b36_3 h36_3
                              have b36_3 : Blk w36_3 e.g 130 #[.int .i64 (e.name), .int .u64 (((e.pay.sec : Nat) : Int)), .int .i64 (e.pay.tot), .int .i64 (e.pay.by_), .int .i64 (e.pay.lst), .slice none 0 0, .bool true, .bool (e.pay.paid)] := b36_3
                              have L48 : ChP w w36_3 (fun k => k = e.g ∨ rowOf e.A e.c = some k) := L47.ch h36_3 (fun i hi _ => by cases hi; exact Or.inl rfl)
                              refine W.nil ?_
                              refine E.thenN ?_
                              refine WC.seq ?_
                              refine WC.region ?_
                              refine W.any (.move rfl) rfl rfl rfl ?_
                              refine W.any (.nilCheck rfl) rfl rfl rfl ?_
                              refine W.any (.field0 fa130_7 rfl) rfl rfl rfl ?_
                              refine W.ef0 rfl rfl ?_
                              refine Ef.store sz4 rfl rfl b36_3 (by first | decide | (simp; done)) (rfl) ?_
                              intro w37_3 b37_3 h37_3
                              have b37_3 : Blk w37_3 e.g 130 #[.int .i64 (e.name), .int .u64 (((e.pay.sec : Nat) : Int)), .int .i64 (e.pay.tot), .int .i64 (e.pay.by_), .int .i64 (e.pay.lst), .slice none 0 0, .bool true, .bool true] := b37_3
                              have L49 : ChP w w37_3 (fun k => k = e.g ∨ rowOf e.A e.c = some k) := L48.ch h37_3 (fun i hi _ => by cases hi; exact Or.inl rfl)
                              refine W.nil ?_
                              refine E.thenN ?_
                              refine WC.seq ?_
                              refine WC.region ?_
                              refine W.any (.move rfl) rfl rfl rfl ?_
                              refine W.any (.assign rfl) rfl rfl rfl ?_
                              refine W.any (.assign rfl) rfl rfl rfl ?_
                              refine W.nil ?_
                              refine E.thenN ?_
                              refine WC.ret ?_
                              have f50 := (((f1_2.ch h35_3 (fun q hq => by cases hq; exact (fun he => by have := (f1_2.row he).1; have := b26_10.lt; omega))).ch h36_3 (fun q hq => by cases hq; exact (fun he => by have := (f1_2.row he).1; have := b26_10.lt; omega))).ch h37_3 (fun q hq => by cases hq; exact (fun he => by have := (f1_2.row he).1; have := b26_10.lt; omega)))
                              refine E.retG2 rfl rfl rfl ?_
                              have hM := rmay (hk := hkS (L.map trP)) (x := y) (ht := ht) hok (Bool.eq_false_iff.2 c1) c2 c3 c4 (Bool.eq_false_iff.2 c5) c6 (by omega); rw [if_neg c9] at hM; obtain rfl : k2 = e.pay.held.length + 1 := (by omega); exact ⟨L49, .inr (.inr ⟨by rw [hM], by rw [hM]; exact c10, _, _, rfl, (by have e5 := (f50.mono L33.size); rw [List.take_of_length_le (by omega)] at e5; exact e5), (by rw [hM]; exact ⟨b37_3, OVec.nil _ _ _ _ _ _⟩)⟩)⟩
              · refine WC.condY rfl (congrArg not ((Bool.eq_false_iff.2 c6))) ?_
                refine WC.seq ?_
                refine WC.region ?_
                refine W.any (.assign rfl) rfl rfl rfl ?_
                refine W.any (.assign rfl) rfl rfl rfl ?_
                refine W.nil ?_
                refine E.thenN ?_
                refine WC.ret ?_
                refine E.thenR ?_
                have f51 := (hO.le (h0_0.trans (h1_2.trans (h9_2.trans (d11.trans (h13_2.trans h15_2))))))
                have f52 := (f20.le h15_2)
                refine E.retG2 rfl rfl rfl ?_
                have hM : mayP e.pay (hkS (L.map trP)) y ht = (0, 23) := (by unfold mayP; rw [if_neg c1, if_neg c2, if_neg (by omega), if_neg c4, if_neg c5, if_pos (by simpa using c6)]); exact ⟨L21, .inl ⟨by rw [hM]; simp, by rw [hM], f52, f51⟩⟩
        · refine WC.condY rfl (congrArg not (decide_eq_false c3)) ?_
          refine WC.seq ?_
          refine WC.region ?_
          refine W.any (.assign rfl) rfl rfl rfl ?_
          refine W.any (.assign rfl) rfl rfl rfl ?_
          refine W.nil ?_
          refine E.thenN ?_
          refine WC.ret ?_
          refine E.thenR ?_
          have f53 := (hO.le (h0_0.trans (h1_2.trans h9_2)))
          have f54 := (f6.le h9_2)
          refine E.retG2 rfl rfl rfl ?_
          have hM : mayP e.pay (hkS (L.map trP)) y ht = (0, 1) := (by unfold mayP; rw [if_neg c1, if_neg c2, if_pos (by omega)]); exact ⟨L10, .inl ⟨by rw [hM]; simp, by rw [hM], f54, f53⟩⟩

theorem rlate_ok {gp : Nat} {A : Option Addr} {c : Nat} {L : List Ent} (ht : Int) (w : World) (hR : RPoolL w gp A c L) (hl : L.length ≤ 1000) (hhl : ∀ e ∈ L, e.pay.held.length ≤ 1000) : Calls Try.prog 24 #[.pointer (some ⟨gp, 0, none⟩), .int .i64 (ht)] w fun r w' => ∃ (m : Nat) (A' : Option Addr) (c' : Nat), r = .returned (.slice A' m c') ∧ OVec w' w.heap.size 44 partV 6 A' m c' (outR ht L L.length) ∧ RPays w' (L.map (lateE ht)) ∧ ChP w w' (fun k => ∃ e ∈ L, k = e.g) := by
  have hp0 := hR.hp
  have hV0 := hR.hV
  have hP := hR.hP
  have hS := hR.hS
  have hold : ∀ e ∈ L, ∀ k, e.has k → k < w.heap.size := fun e he k hk => hP.lt he hk
  refine enter Try.func24 rfl rfl ?_
  have L0 := ChP.refl w (fun k => ∃ e ∈ L, k = e.g)
  refine WC.seq ?_
  refine WC.region ?_
  refine W.any (.assign rfl) rfl rfl rfl ?_
  refine W.nil ?_
  refine E.thenN ?_
  refine WC.seq ?_
  refine WC.region ?_
  refine W.any (.assign rfl) rfl rfl rfl ?_
  refine W.nil ?_
  refine E.thenN ?_
  refine WC.seq ?_
  refine WC.seq ?_
  refine WC.region ?_
  refine W.any (.assign rfl) rfl rfl rfl ?_
  refine W.nil ?_
  refine E.thenN ?_
  refine WC.block ?_
  refine WC.loop (ι := Nat × Nat × (Option Addr) × Nat) (fun ⟨i, m, Ab, cb⟩ => [(0, .pointer (some ⟨gp, 0, none⟩)), (1, .int .i64 (ht)), (5, .slice Ab m cb), (6, .int .i64 (((i : Nat) : Int)))]) (fun ⟨i, m, Ab, cb⟩ wl0 => (i ≤ L.length) ∧ (m ≤ i * 1000) ∧ ChP w wl0 (fun k => ∃ e ∈ L, k = e.g) ∧ w.heap.size ≤ wl0.heap.size ∧ Blk wl0 gp 120 #[.slice A L.length c] ∧ OVec wl0 0 131 rpt 1 A L.length c (L.map (·.g)) ∧ OVec wl0 w.heap.size 44 partV 6 Ab m cb (outR ht L i) ∧ RPays wl0 (lateT ht L i)) (fun ⟨i, m, Ab, cb⟩ => L.length - i) (0, 0, none, 0) ?_ ?_ ?_
  · exact .cons rfl (.cons rfl (.cons rfl (.cons rfl (.nil _))))
  · exact ⟨Nat.zero_le _, by omega, L0, Nat.le_refl _, hp0, hV0, (OVec.nil w w.heap.size 44 partV 6 none), (by show RPays _ (lateT ht L 0); unfold lateT; simpa using hP)⟩
  · rintro ⟨i, m, Ab, cb⟩ wl0 ⟨hi, hm, Ll0, sz0, f0_0, f0_1, f0_2, f0_3⟩
    have lb0_4 : w.heap.size ≤ wl0.heap.size := by omega
    refine WC.seq ?_
    refine WC.seq ?_
    refine WC.region ?_
    refine W.any (.move rfl) rfl rfl rfl ?_
    refine W.any (.move rfl) rfl rfl rfl ?_
    refine W.any (.nilCheck rfl) rfl rfl rfl ?_
    refine W.any (.field0 fa120_0 rfl) rfl rfl rfl ?_
    refine W.rd (.loadB (v := .slice A L.length c) na118 rfl f0_0 rfl) rfl rfl rfl ?_
    refine W.rd (.len Try.underlying118 rfl) rfl rfl rfl ?_
    refine W.any (.lss rfl rfl) rfl rfl rfl ?_
    refine W.nil ?_
    refine E.thenN ?_
    by_cases c0 : ((i : Nat) : Int) < ((L.length : Nat) : Int)
    · refine WC.condY rfl (decide_eq_true c0) ?_
      refine WC.skip ?_
      refine E.thenN ?_
      refine WC.seq ?_
      refine WC.block ?_
      refine WC.seq ?_
      refine WC.region ?_
      refine W.any (.move rfl) rfl rfl rfl ?_
      refine W.any (.nilCheck rfl) rfl rfl rfl ?_
      refine W.any (.field0 fa120_0 rfl) rfl rfl rfl ?_
      refine W.rd (.loadB (v := .slice A L.length c) na118 rfl f0_0 rfl) rfl rfl rfl ?_
      refine W.any (.move rfl) rfl rfl rfl ?_
      refine W.any (.idxS (i) Try.underlying118 sz131 rfl rfl (hV0.vec.isSome rpt_row (by omega)) (rfl) (by omega)) rfl rfl rfl ?_
      have hil : i < L.length := by omega
      obtain ⟨hQ, hRs, m1, m2, m3, m4⟩ := rlate_open hS f0_3 hil
      have hq : Blk wl0 (L.getD i noEnt).g 130 #[.int .i64 ((L.getD i noEnt).name), .int .u64 ((((L.getD i noEnt).pay.sec : Nat) : Int)), .int .i64 ((L.getD i noEnt).pay.tot), .int .i64 ((L.getD i noEnt).pay.by_), .int .i64 ((L.getD i noEnt).pay.lst), .slice ((L.getD i noEnt).A) ((L.getD i noEnt).pay.held.length) ((L.getD i noEnt).c), .bool ((L.getD i noEnt).pay.ovr), .bool ((L.getD i noEnt).pay.paid)] := hQ.1
      have hO := hQ.2
      have heL := memE L hil
      have hgq : (L.getD i noEnt).g < w.heap.size := hold _ heL _ (.inl rfl)
      have hpl := hhl _ heL
      refine W.rd (.vone (v := .pointer (some ⟨(L.getD i noEnt).g, 0, none⟩)) na131 rfl f0_1.vec rpt_row (getM L (by omega)) rfl) rfl rfl rfl ?_
      refine W.any (.assign rfl) rfl rfl rfl ?_
      refine W.nil ?_
      refine E.thenN ?_
      refine WC.seq ?_
      refine WC.seq ?_
      refine WC.region ?_
      refine W.any (.move rfl) rfl rfl rfl ?_
      refine W.any (.nilCheck rfl) rfl rfl rfl ?_
      refine W.any (.field0 fa130_6 rfl) rfl rfl rfl ?_
      refine W.rd (.loadB (v := .bool ((L.getD i noEnt).pay.ovr)) na4 rfl hq rfl) rfl rfl rfl ?_
      by_cases q6_4 : ((L.getD i noEnt).pay.ovr) = true
      · refine W.any (.dec (.move rfl) (q6_4)) rfl rfl rfl ?_
        refine W.skip rfl rfl rfl (rfl) rfl rfl ?_
        refine W.skip rfl rfl rfl (rfl) rfl rfl ?_
        refine W.skip rfl rfl rfl (rfl) rfl rfl ?_
        refine W.skip rfl rfl rfl (rfl) rfl rfl ?_
        refine W.skip rfl rfl rfl (rfl) rfl rfl ?_
        refine W.skip rfl rfl rfl (rfl) rfl rfl ?_
        refine W.any (.pickT rfl rfl rfl) rfl rfl rfl ?_
        refine W.nil ?_
        refine E.thenN ?_
        refine WC.condT rfl ?_
        refine WC.exit ?_
        refine E.thenX ?_
        refine E.blkH ?_
        refine E.thenN ?_
        refine WC.region ?_
        refine W.any (.move rfl) rfl rfl rfl ?_
        refine W.any (.add rfl rfl (by omega)) rfl rfl rfl ?_
        refine W.any (.assign rfl) rfl rfl rfl ?_
        refine W.nil ?_
        have hdu : dueP ht (L.getD i noEnt).pay = false := by unfold dueP; simp [-List.getD_eq_getElem?_getD, c0, q6_4]; try omega
        have hno : outR ht L (i + 1) = outR ht L i := by rw [outR_next ht hil]; simp [hdu, -List.getD_eq_getElem?_getD]
        refine E.again (i + 1, m, Ab, cb) (.cons rfl (.cons rfl (.cons rfl (.cons rfl (.nil _))))) ?_ ?_
        · exact ⟨by omega, by omega, Ll0, by have := sz0; omega, f0_0, f0_1, (f0_2.cast rfl hno.symm), (rlate_close hRs hil (by unfold lateE; simp only [hdu]; exact ⟨hq, hO⟩))⟩
        · first | omega | (simp only []; omega)
      · refine W.any (.dec (.move rfl) ((Bool.eq_false_iff.2 q6_4))) rfl rfl rfl ?_
        refine W.rdg (Any.rd (.move rfl) _) rfl rfl rfl (rfl) rfl rfl ?_
        refine W.rdg (Any.rd (.nilCheck rfl) _) rfl rfl rfl (rfl) rfl rfl ?_
        refine W.rdg (Any.rd (.field0 fa130_3 rfl) _) rfl rfl rfl (rfl) rfl rfl ?_
        refine W.rdg (.loadB (v := .int .i64 ((L.getD i noEnt).pay.by_)) na3 rfl hq rfl) rfl rfl rfl (rfl) rfl rfl ?_
        refine W.rdg (Any.rd (.move rfl) _) rfl rfl rfl (rfl) rfl rfl ?_
        refine W.rdg (Any.rd (.gtr rfl rfl) _) rfl rfl rfl (rfl) rfl rfl ?_
        refine W.any (.pickF rfl rfl rfl) rfl rfl rfl ?_
        refine W.nil ?_
        refine E.thenN ?_
        by_cases c1 : ht < ((L.getD i noEnt).pay.by_)
        · refine WC.condY rfl (decide_eq_true c1) ?_
          refine WC.exit ?_
          refine E.thenX ?_
          refine E.blkH ?_
          refine E.thenN ?_
          refine WC.region ?_
          refine W.any (.move rfl) rfl rfl rfl ?_
          refine W.any (.add rfl rfl (by omega)) rfl rfl rfl ?_
          refine W.any (.assign rfl) rfl rfl rfl ?_
          refine W.nil ?_
          have hdu : dueP ht (L.getD i noEnt).pay = false := by unfold dueP; simp [-List.getD_eq_getElem?_getD, c0, q6_4, c1]; try omega
          have hno : outR ht L (i + 1) = outR ht L i := by rw [outR_next ht hil]; simp [hdu, -List.getD_eq_getElem?_getD]
          refine E.again (i + 1, m, Ab, cb) (.cons rfl (.cons rfl (.cons rfl (.cons rfl (.nil _))))) ?_ ?_
          · exact ⟨by omega, by omega, Ll0, by have := sz0; omega, f0_0, f0_1, (f0_2.cast rfl hno.symm), (rlate_close hRs hil (by unfold lateE; simp only [hdu]; exact ⟨hq, hO⟩))⟩
          · first | omega | (simp only []; omega)
        · refine WC.condN rfl (decide_eq_false c1) ?_
          refine WC.skip ?_
          refine E.thenN ?_
          refine WC.seq ?_
          refine WC.region ?_
          refine W.any (.move rfl) rfl rfl rfl ?_
          refine W.any (.move rfl) rfl rfl rfl ?_
          refine W.any (.nilCheck rfl) rfl rfl rfl ?_
          refine W.any (.field0 fa130_5 rfl) rfl rfl rfl ?_
          refine W.rd (.loadB (v := .slice ((L.getD i noEnt).A) ((L.getD i noEnt).pay.held.length) ((L.getD i noEnt).c)) na49 rfl hq rfl) rfl rfl rfl ?_
          refine W.ef rfl rfl rfl ?_
          refine Ef.vcat Try.underlying49 el44 Try.underlying49 partV_row rfl f0_2 rfl hO.vec (by omega) (by unfold maxLen; omega) (by have := lb0_4; omega) ?_
          intro A7_5 c7_5 w7_5 o7_5 h7_5 at7_5
          have L1 : ChP w w7_5 (fun k => ∃ e ∈ L, k = e.g) := Ll0.ch h7_5 (fun i hi hlt => absurd hlt (by have := (f0_2.row hi).1; have := L0.size; omega))
          refine W.any (.assign rfl) rfl rfl rfl ?_
          refine W.nil ?_
          refine E.thenN ?_
          refine WC.seq ?_
          refine WC.region ?_
          refine W.any (.move rfl) rfl rfl rfl ?_
          refine W.any (.nilCheck rfl) rfl rfl rfl ?_
          refine W.any (.field0 fa130_5 rfl) rfl rfl rfl ?_
          have f2 := (hq.ch h7_5 (fun he => by have := (f0_2.row he).1; have := hgq; have := L0.size; omega))
          refine W.ef0 rfl rfl ?_
          refine Ef.store sz49 rfl rfl f2 (by first | decide | (simp; done)) (rfl) ?_
          intro w8_3 b8_3 h8_3
          have b8_3 : Blk w8_3 (L.getD i noEnt).g 130 #[.int .i64 ((L.getD i noEnt).name), .int .u64 ((((L.getD i noEnt).pay.sec : Nat) : Int)), .int .i64 ((L.getD i noEnt).pay.tot), .int .i64 ((L.getD i noEnt).pay.by_), .int .i64 ((L.getD i noEnt).pay.lst), .slice none 0 0, .bool ((L.getD i noEnt).pay.ovr), .bool ((L.getD i noEnt).pay.paid)] := b8_3
          have L3 : ChP w w8_3 (fun k => ∃ e ∈ L, k = e.g) := L1.ch h8_3 (fun i hi _ => by cases hi; exact ⟨_, heL, rfl⟩)
          refine W.nil ?_
          refine E.thenN ?_
          refine WC.region ?_
          refine W.any (.move rfl) rfl rfl rfl ?_
          refine W.any (.nilCheck rfl) rfl rfl rfl ?_
          refine W.any (.field0 fa130_6 rfl) rfl rfl rfl ?_
          refine W.ef0 rfl rfl ?_
          refine Ef.store sz4 rfl rfl b8_3 (by first | decide | (simp; done)) (rfl) ?_
          intro w9_3 b9_3 h9_3
          have b9_3 : Blk w9_3 (L.getD i noEnt).g 130 #[.int .i64 ((L.getD i noEnt).name), .int .u64 ((((L.getD i noEnt).pay.sec : Nat) : Int)), .int .i64 ((L.getD i noEnt).pay.tot), .int .i64 ((L.getD i noEnt).pay.by_), .int .i64 ((L.getD i noEnt).pay.lst), .slice none 0 0, .bool true, .bool ((L.getD i noEnt).pay.paid)] := b9_3
          have L4 : ChP w w9_3 (fun k => ∃ e ∈ L, k = e.g) := L3.ch h9_3 (fun i hi _ => by cases hi; exact ⟨_, heL, rfl⟩)
          refine W.nil ?_
          refine E.blkN ?_
          refine E.thenN ?_
          refine WC.region ?_
          refine W.any (.move rfl) rfl rfl rfl ?_
          refine W.any (.add rfl rfl (by omega)) rfl rfl rfl ?_
          refine W.any (.assign rfl) rfl rfl rfl ?_
          refine W.nil ?_
          have hdu : dueP ht (L.getD i noEnt).pay = true := by unfold dueP; simp [-List.getD_eq_getElem?_getD, c0, q6_4, c1]; try omega
          have hno : outR ht L (i + 1) = outR ht L i ++ (L.getD i noEnt).pay.held := by rw [outR_next ht hil]; simp only [hdu, if_true]
          have f5 := (((f0_0.ch h7_5 (fun he => by have := (f0_2.row he).1; have := hp0.lt; omega)).ch h8_3 (fun h => (Ne.symm m2) (Option.some.inj h))).ch h9_3 (fun h => (Ne.symm m2) (Option.some.inj h)))
          have f6 := (((f0_1.ch h7_5 ((fun z h1 h2 => by have := (f0_2.row h1).1; have := (hV0.row h2).2; have := L0.size; omega))).ch h8_3 (fun q hq => by cases hq; exact m3)).ch h9_3 (fun q hq => by cases hq; exact m3))
          have f7 := ((o7_5.ch h8_3 (fun q hq => by cases hq; exact (at7_5.off (by have := hq.lt; omega) (fun he => by have := (f0_2.row he).1; have := hgq; have := L0.size; omega)))).ch h9_3 (fun q hq => by cases hq; exact (at7_5.off (by have := hq.lt; omega) (fun he => by have := (f0_2.row he).1; have := hgq; have := L0.size; omega))))
          have f8 := (((hRs.ch h7_5 (fun q hqq ee he hh => by have := (f0_2.row hqq).1; have := (restT_old hold) ee he _ hh; have := L0.size; omega)).ch h8_3 (fun q hqq => by cases hqq; exact m1)).ch h9_3 (fun q hqq => by cases hqq; exact m1))
          refine E.again (i + 1, m + (L.getD i noEnt).pay.held.length, A7_5, c7_5) (.cons rfl (.cons rfl (.cons rfl (.cons rfl (.nil _))))) ?_ ?_
          · exact ⟨by omega, by omega, L4, by have := sz0; have := h7_5.size; have := h8_3.size; have := h9_3.size; omega, f5, f6, (f7.cast rfl hno.symm), (rlate_close f8 hil (by unfold lateE; simp only [hdu, if_true]; exact ⟨b9_3, OVec.nil _ _ _ _ _ _⟩))⟩
          · first | omega | (simp only []; omega)
    · refine WC.condN rfl (decide_eq_false c0) ?_
      refine WC.exit ?_
      refine E.thenX ?_
      refine E.thenX ?_
      refine E.blkH ?_
      refine E.thenN ?_
      refine WC.seq ?_
      refine WC.region ?_
      refine W.any (.move rfl) rfl rfl rfl ?_
      refine W.any (.assign rfl) rfl rfl rfl ?_
      refine W.nil ?_
      refine E.thenN ?_
      refine WC.ret ?_
      refine E.retG1 rfl rfl ?_
      have ei : i = L.length := (by omega); subst ei; exact ⟨m, _, _, rfl, (f0_2.mono L0.size), (by have hh := f0_3; unfold lateT at hh; simpa using hh), Ll0⟩

theorem rnew_ok (w : World) : Calls Try.prog 16 #[] w fun r w' => ∃ g, r = .returned (.pointer (some ⟨g, 0, none⟩)) ∧ w.heap.size ≤ g ∧ Blk w' g 120 #[.slice none 0 0] ∧ Le w w' := by
  refine enter Try.func16 rfl rfl ?_
  have L0 := Le.refl w
  refine WC.seq ?_
  refine WC.region ?_
  refine W.any (.assign rfl) rfl rfl rfl ?_
  refine W.nil ?_
  refine E.thenN ?_
  refine WC.seq ?_
  refine WC.region ?_
  refine W.any (.buildP [.slice none 0 0] pl120 z120 rfl rfl) rfl rfl rfl ?_
  refine W.ef rfl rfl rfl ?_
  refine Ef.boxA rfl ?_
  intro g1_1 w1_1 hg1_1 b1_1 h1_1
  have L1 := L0.trans h1_1
  have b1_1 : Blk w1_1 g1_1 120 #[.slice none 0 0] := b1_1
  refine W.any (.assign rfl) rfl rfl rfl ?_
  refine W.nil ?_
  refine E.thenN ?_
  refine WC.ret ?_
  refine E.retG1 rfl rfl ?_
  exact ⟨_, rfl, (by have := hg1_1; omega), b1_1, L1⟩
end Go.Proofs.Ytfgakofjkldcjaa

namespace Go.Proofs.Ytfgakofjkldcjaa
open Go Go.Sx Go.Hsp Go.Num Go.Osp Go.Gsp
set_option maxRecDepth 20000
set_option linter.unusedSimpArgs false
set_option linter.unusedVariables false
/-- A pool of a state, in the blocks F, all of them new behind 'base'. -/
def RPool (w : World) (base gp : Nat) (F : Nat → Prop) (s : PSt) : Prop := ∃ A c L, RPoolL w gp A c L ∧ s = L.map trP ∧ (∀ k, F k ↔ RF gp A c L k) ∧ ∀ k, F k → base ≤ k
section
variable {w w' : World} {gp : Nat} {F : Nat → Prop} {s : PSt} {base : Nat}
theorem RPool.chP {F' : Nat → Prop} (h : RPool w base gp F s) (hc : ChP w w' F') (hne : ∀ k, F k → ¬ F' k) : RPool w' base gp F s := by
  obtain ⟨A, c, L, h1, h2, h3, h4⟩ := h
  exact ⟨A, c, L, h1.chP hc (fun k hk => hne k ((h3 k).2 hk)), h2, h3, h4⟩
theorem RPool.ch {r : Option Nat} (h : RPool w base gp F s) (hc : Ch w w' r) (hne : ∀ k, r = some k → ¬ F k) : RPool w' base gp F s := h.chP (hc.chP (F := fun k => r = some k) (fun i hi => hi)) (fun k hk hr => hne k hr hk)
theorem RPool.le (h : RPool w base gp F s) (hl : Le w w') : RPool w' base gp F s := h.chP (hl.chP (fun _ => False)) (fun _ _ hf => hf)
theorem RPool.lt (h : RPool w base gp F s) {k : Nat} (hk : F k) : k < w.heap.size := by
  obtain ⟨A, c, L, h1, h2, h3, h4⟩ := h
  exact h1.lt ((h3 k).1 hk)
theorem RPool.good (h : RPool w base gp F s) : GoodP s := by
  obtain ⟨A, c, L, h1, rfl, h3, h4⟩ := h
  exact h1.good
theorem RPool.old (h : RPool w base gp F s) {k : Nat} (hk : F k) : base ≤ k := by
  obtain ⟨A, c, L, h1, h2, h3, h4⟩ := h
  exact h4 k hk
theorem RPool.size (h : RPool w base gp F s) : base ≤ w.heap.size := by
  obtain ⟨A, c, L, h1, h2, h3, h4⟩ := h
  have := h4 gp ((h3 gp).2 (.inl rfl))
  have := h1.hp.lt
  omega
end
theorem good_len {L : List Ent} (h : GoodP (L.map trP)) : ∀ e ∈ L, e.pay.held.length ≤ 1000 := fun e he => by
  have := (h.pay _ (List.mem_map.2 ⟨e, he, rfl⟩)).few
  simp only [trP] at this
  omega
theorem rover_pool {w : World} {base gp : Nat} {F : Nat → Prop} {s : PSt} (nm : Int) (h : RPool w base gp F s) (hl : s.length ≤ 1000) : Calls Try.prog 26 #[.pointer (some ⟨gp, 0, none⟩), .int .i64 nm] w fun r w' => r = .returned (.tuple #[.bool (overP s nm).1, .bool (overP s nm).2]) ∧ Le w w' := by
  obtain ⟨A, c, L, h1, rfl, h3, h4⟩ := h
  exact rover_ok nm w h1 (by simpa using hl)
theorem rheld_pool {w : World} {base gp : Nat} {F : Nat → Prop} {s : PSt} (nm : Int) (h : RPool w base gp F s) (hl : s.length ≤ 1000) : Calls Try.prog 30 #[.pointer (some ⟨gp, 0, none⟩), .int .i64 nm] w fun r w' => ∃ (A : Option Addr) (c : Nat), r = .returned (.slice A (heldP s nm).length c) ∧ Vec w' partV 6 A (heldP s nm).length (heldP s nm) ∧ Le w w' := by
  obtain ⟨A, c, L, h1, rfl, h3, h4⟩ := h
  exact rheld_ok nm w h1 (by simpa using hl)
theorem rnames_pool {w : World} {base gp : Nat} {F : Nat → Prop} {s : PSt} (h : RPool w base gp F s) (hl : s.length ≤ 1000) : Calls Try.prog 28 #[.pointer (some ⟨gp, 0, none⟩)] w fun r w' => ∃ (A : Option Addr) (c : Nat), r = .returned (.slice A s.length c) ∧ OVec w' w.heap.size 3 iv 1 A s.length c (s.map (·.1)) ∧ Le w w' := by
  obtain ⟨A, c, L, h1, rfl, h3, h4⟩ := h
  have := rnames_ok w h1 (by simpa using hl)
  simpa using this
theorem RPool.mk' {w w' : World} {base gp : Nat} {F : Nat → Prop} {A A' : Option Addr} {c c' : Nat} {L L' : List Ent} {s' : PSt} (h : RPoolL w' gp A' c' L') (hs : s' = L'.map trP) (hF : ∀ k, F k ↔ RF gp A c L k) (hb : ∀ k, F k → base ≤ k) (hbw : base ≤ w.heap.size) (hg : ∀ k, RF gp A' c' L' k → RF gp A c L k ∨ w.heap.size ≤ k) :
    ∃ F', RPool w' base gp F' s' ∧ Grown w F F' ∧ ∀ k, F' k → RF gp A' c' L' k := by
  refine ⟨RF gp A' c' L', ⟨A', c', L', h, hs, fun _ => Iff.rfl, fun k hk => ?_⟩, fun k hk => ?_, fun k hk => hk⟩
  · rcases hg k hk with h1 | h1
    · exact hb k ((hF k).2 h1)
    · omega
  · rcases hg k hk with h1 | h1
    · exact .inl ((hF k).2 h1)
    · exact .inr h1
theorem rnew_pool (w : World) : Calls Try.prog 16 #[] w fun r w' => ∃ (gp : Nat) (F : Nat → Prop), r = .returned (.pointer (some ⟨gp, 0, none⟩)) ∧ RPool w' w.heap.size gp F [] ∧ Le w w' := by
  refine Calls.mono (rnew_ok w) ?_
  rintro r w' ⟨g, rfl, hg, hB, hL⟩
  refine ⟨g, RF g none 0 [], rfl, ⟨none, 0, [], ⟨hB, OVec.nil _ _ _ _ _ _, fun _ h => (by cases h), ⟨by simp, by simp, by simp, by simp, by simp, by simp [rowOf]⟩, GoodP.nil⟩, rfl, fun _ => Iff.rfl, ?_⟩, hL⟩
  rintro k (rfl | h | ⟨e, he, _⟩)
  · exact hg
  · simp [rowOf] at h
  · cases he
theorem ins_at (x : Int × Pay) : ∀ (s : PSt) (k : Nat), k ≤ s.length → (∀ j (h : j < s.length), j < k → s[j].1 < x.1) → (∀ h : k < s.length, ¬ s[k].1 < x.1) → insP x s = s.take k ++ x :: s.drop k
  | [], k, hk, _, _ => by
    have : k = 0 := by simpa using hk
    subst this
    rfl
  | y :: s, 0, _, _, h2 => by
    have := h2 (by simp)
    simp only [List.getElem_cons_zero] at this
    unfold insP
    rw [if_neg this]
    rfl
  | y :: s, k + 1, hk, h1, h2 => by
    have := h1 0 (by simp) (by omega)
    simp only [List.getElem_cons_zero] at this
    unfold insP
    rw [if_pos this, ins_at x s k (by simpa using hk) (fun j h hj => by have := h1 (j + 1) (by simpa using h) (by omega); simpa using this) (fun h => by have := h2 (by simpa using h); simpa using this)]
    rfl
theorem getE (L : List Ent) {i : Nat} (h : i < L.length) : L.getD i noEnt = L[i] := by simp [h, List.getD]
theorem rwant_pool {w : World} {base gp : Nat} {F : Nat → Prop} {s : PSt} (nm : Int) (sc : Nat) (to by_ le : Int) (hnm : nm ≤ 9223372036854775807) (h : RPool w base gp F s) (hl : s.length ≤ 1000) : Calls Try.prog 18 #[.pointer (some ⟨gp, 0, none⟩), .int .i64 nm, .int .u64 ((sc : Nat) : Int), .int .i64 to, .int .i64 by_, .int .i64 le] w fun r w' =>
    ∃ (F' : Nat → Prop), r = .returned (.int .i64 (wantS s nm sc to by_ le).2) ∧ RPool w' base gp F' (wantS s nm sc to by_ le).1 ∧ Grown w F F' ∧ ChP w w' F := by
  have hbw := h.size
  have hgood := h.good.want nm sc to by_ le hnm
  obtain ⟨A, c, L, h1, rfl, h3, h4⟩ := h
  have hS := h1.hS
  refine Calls.mono (rwant_ok nm sc to by_ le w h1 (by simpa using hl)) ?_
  rintro r w' ⟨hc, hr⟩
  have hcF : ChP w w' F := hc.mono (fun k hk _ => (h3 k).2 (.inl hk))
  have bP : RPays w' L := h1.hP.chP hc (fun k hk hh => by subst hh; obtain ⟨e, he, hh⟩ := hk; exact hS.p e he hh)
  have bV := h1.hV.chP hc (fun k hk hh => hS.pa (by rw [← hh]; exact hk))
  rcases hr with ⟨hw, rfl, hB⟩ | ⟨hw, ⟨p, hp⟩, rfl, hB⟩ | ⟨hw, hg, rfl, A', c', g, k, hgs, hk, hlt, hge, hN, hB, hV, hrow⟩
  · have e2 : wantS (L.map trP) nm sc to by_ le = (L.map trP, 1) := by unfold wantS; rw [if_neg hw]
    rw [e2]
    obtain ⟨F', hP, hG, _⟩ := RPool.mk' (w := w) (L' := L) ⟨hB, bV, bP, hS, h1.good⟩ rfl h3 h4 hbw (fun k hk => .inl hk)
    exact ⟨F', rfl, hP, hG, hcF⟩
  · have e2 : wantS (L.map trP) nm sc to by_ le = (L.map trP, 4) := by unfold wantS; rw [if_pos hw, hp]; rfl
    rw [e2]
    obtain ⟨F', hP, hG, _⟩ := RPool.mk' (w := w) (L' := L) ⟨hB, bV, bP, hS, h1.good⟩ rfl h3 h4 hbw (fun k hk => .inl hk)
    exact ⟨F', rfl, hP, hG, hcF⟩
  · have e2 : wantS (L.map trP) nm sc to by_ le = (insP (nm, newP sc to by_ le) (L.map trP), 0) := by unfold wantS; rw [if_pos hw, hg]; rfl
    rw [e2] at hgood ⊢
    have est : (L.take k ++ (⟨0, nm, g, none, 0, newP sc to by_ le⟩ : Ent) :: L.drop k).map trP = insP (nm, newP sc to by_ le) (L.map trP) := by
      rw [ins_at (nm, newP sc to by_ le) (L.map trP) k (by simpa using hk) (fun j h hj => ?_) (fun h => ?_)]
      · rw [List.map_append, List.map_cons, List.map_take, List.map_drop]; rfl
      · have hjl : j < L.length := by simpa using h
        have := hlt j hj
        rw [getE L hjl] at this
        simpa [trP] using this
      · have hkl : k < L.length := by simpa using h
        have := hge hkl
        rw [getE L hkl] at this
        simpa [trP] using this
    have hold : ∀ x ∈ L, ∀ k, x.has k → k < w.heap.size := fun x hx k hk => h1.hP.lt hx hk
    have hnew : ∀ k, (⟨0, nm, g, none, 0, newP sc to by_ le⟩ : Ent).has k → k = g := by
      rintro k (hk | hk)
      · exact hk
      · simp [rowOf] at hk
    have hmem : ∀ x ∈ L.take k ++ (⟨0, nm, g, none, 0, newP sc to by_ le⟩ : Ent) :: L.drop k, x ∈ L ∨ x = ⟨0, nm, g, none, 0, newP sc to by_ le⟩ := by
      intro x hx
      rcases List.mem_append.1 hx with hx | hx
      · exact .inl (List.mem_of_mem_take hx)
      · rcases List.mem_cons.1 hx with hx | hx
        · exact .inr hx
        · exact .inl (List.mem_of_mem_drop hx)
    have hlen : (L.take k ++ (⟨0, nm, g, none, 0, newP sc to by_ le⟩ : Ent) :: L.drop k).length = L.length + 1 := by simp; omega
    have ltp := h1.hp.lt
    have hrw : ∀ q, rowOf A' c' = some q → w.heap.size ≤ q := fun q hq => (hV.row hq).1
    have hL' : RPoolL w' gp A' c' (L.take k ++ (⟨0, nm, g, none, 0, newP sc to by_ le⟩ : Ent) :: L.drop k) := by
      refine ⟨by rw [hlen]; exact hB, ?_, ?_, ⟨?_, ?_, ?_, ?_, ?_, ?_⟩, by rw [est]; exact hgood⟩
      · rw [hlen]
        refine (hV.mono (Nat.zero_le _)).cast rfl ?_
        simp [List.map_take, List.map_drop]
      · intro x hx
        rcases hmem x hx with hx | rfl
        · exact bP x hx
        · exact ⟨hN, OVec.nil _ _ _ _ _ _⟩
      · have e5 : (L.take k ++ (⟨0, nm, g, none, 0, newP sc to by_ le⟩ : Ent) :: L.drop k).map (·.name) = ((L.take k ++ (⟨0, nm, g, none, 0, newP sc to by_ le⟩ : Ent) :: L.drop k).map trP).map (·.1) := by rw [List.map_map]; rfl
        rw [e5, est]
        exact hgood.names
      · intro a ha b hb hab q hka hkb
        rcases hmem a ha with ha | rfl <;> rcases hmem b hb with hb | rfl
        · exact hS.pw a ha b hb hab q hka hkb
        · have := hold a ha q hka; have := hnew q hkb; omega
        · have := hold b hb q hkb; have := hnew q hka; omega
        · exact hab rfl
      · intro x hx
        rcases hmem x hx with hx | rfl
        · exact hS.own x hx
        · simp [rowOf]
      · intro x hx hh
        rcases hmem x hx with hx | rfl
        · exact hS.p x hx hh
        · have := hnew _ hh; omega
      · intro x hx q hq hh
        have hq2 := hrw q hq
        rcases hmem x hx with hx | rfl
        · have := hold x hx q hh; omega
        · have := hnew _ hh; exact hrow (by rw [← this]; exact hq)
      · intro hh
        have := hrw _ hh
        omega
    obtain ⟨F', hP, hG, _⟩ := RPool.mk' (w := w) hL' est.symm h3 h4 hbw (by
      rintro q (hq | hq | ⟨x, hx, hq⟩)
      · exact .inl (.inl hq)
      · exact .inr (hrw q hq)
      · rcases hmem x hx with hx | rfl
        · exact .inl (.inr (.inr ⟨x, hx, hq⟩))
        · have := hnew q hq; exact .inr (by omega))
    exact ⟨F', rfl, hP, hG, hcF⟩
theorem updE_g {L : List Ent} {e e' : Ent} (hN : (L.map (·.name)).Nodup) (he : e ∈ L) (hn : e'.name = e.name) (hg : e'.g = e.g) : (updE L e').map (·.g) = L.map (·.g) := by
  unfold updE
  rw [List.map_map]
  apply List.map_congr_left
  intro x hx
  simp only [Function.comp]
  by_cases h : x.name = e'.name
  · rw [if_pos h]
    have := nodup_name hN hx he (h.trans hn)
    subst this
    exact hg
  · rw [if_neg h]
theorem updE_tr {L : List Ent} {e e' : Ent} (hn : e'.name = e.name) : (updE L e').map trP = updP e.name e'.pay (L.map trP) := by
  unfold updE updP
  rw [List.map_map, List.map_map]
  apply List.map_congr_left
  intro x hx
  show trP (if x.name = e'.name then e' else x) = if (trP x).1 = e.name then (e.name, e'.pay) else trP x
  by_cases h : x.name = e.name
  · rw [if_pos (h.trans hn.symm), if_pos (show (trP x).1 = e.name from h)]
    simp [trP, hn]
  · rw [if_neg (fun hh => h (hh.trans hn)), if_neg (show ¬ (trP x).1 = e.name from h)]
theorem updE_len (L : List Ent) (e' : Ent) : (updE L e').length = L.length := by simp [updE]
theorem RPoolL.step {w w' : World} {gp : Nat} {A : Option Addr} {c : Nat} {L : List Ent} {e e' : Ent} (h : RPoolL w gp A c L) (he : e ∈ L) (hn : e'.name = e.name) (hg : e'.g = e.g) (hc : ChP w w' (fun k => k = e.g ∨ rowOf e.A e.c = some k)) (hB : RAt w' e') (hat : ∀ k, rowOf e'.A e'.c = some k → rowOf e.A e.c = some k ∨ w.heap.size ≤ k) (good' : GoodP (updP e.name e'.pay (L.map trP))) :
    RPoolL w' gp A c (updE L e') ∧ ∀ k, RF gp A c (updE L e') k → RF gp A c L k ∨ (w.heap.size ≤ k ∧ rowOf e'.A e'.c = some k) := by
  have hS := h.hS
  have has' : ∀ k, e'.has k → e.has k ∨ w.heap.size ≤ k := by
    intro k hk
    rcases hk with hk | hk
    · exact .inl (.inl (hk.trans hg))
    · exact (hat k hk).imp_left .inr
  have hlt : ∀ x ∈ L, ∀ k, x.has k → k < w.heap.size := fun x hx k hk => h.hP.lt hx hk
  have ltp := h.hp.lt
  have hrw : ∀ q, rowOf A c = some q → q < w.heap.size := fun q hq => (h.hV.row hq).2
  refine ⟨⟨?_, ?_, ?_, ⟨?_, ?_, ?_, ?_, ?_, hS.pa⟩, by rw [updE_tr hn]; exact good'⟩, ?_⟩
  · rw [updE_len]
    exact h.hp.chP hc (fun hh => hS.p e he hh)
  · rw [updE_len, updE_g hS.names he hn hg]
    exact h.hV.chP hc (fun k hk hh => hS.a e he k hk hh)
  · intro x hx
    rcases updE_mem hx with rfl | ⟨hx, hxn⟩
    · exact hB
    · exact (h.hP x hx).chP hc (fun k hk hF => hS.pw x hx e he (fun hh => hxn (hh.trans hn.symm)) k hk hF)
  · have : (updE L e').map (·.name) = L.map (·.name) := by
      unfold updE
      rw [List.map_map]
      apply List.map_congr_left
      intro x hx
      simp only [Function.comp]
      by_cases hh : x.name = e'.name
      · rw [if_pos hh]; exact hh.symm
      · rw [if_neg hh]
    rw [this]
    exact hS.names
  · intro a ha b hb' hab k hka hkb
    rcases updE_mem ha with ea | ⟨ha2, han⟩ <;> rcases updE_mem hb' with eb | ⟨hb2, hbn⟩
    · exact hab (by rw [ea, eb])
    · rw [ea] at hka
      rcases has' k hka with h1 | h1
      · exact hS.pw e he b hb2 (fun hh => hbn (hh.symm.trans hn.symm)) k h1 hkb
      · have := hlt b hb2 k hkb; omega
    · rw [eb] at hkb
      rcases has' k hkb with h1 | h1
      · exact hS.pw a ha2 e he (fun hh => han (hh.trans hn.symm)) k hka h1
      · have := hlt a ha2 k hka; omega
    · exact hS.pw a ha2 b hb2 hab k hka hkb
  · intro x hx
    rcases updE_mem hx with rfl | ⟨hx, hxn⟩
    · intro hh
      rw [hg] at hh
      rcases hat _ hh with h1 | h1
      · exact hS.own e he h1
      · have := hlt e he e.g (.inl rfl); omega
    · exact hS.own x hx
  · intro x hx hh
    rcases updE_mem hx with rfl | ⟨hx, hxn⟩
    · rcases has' _ hh with h1 | h1
      · exact hS.p e he h1
      · omega
    · exact hS.p x hx hh
  · intro x hx q hq hh
    rcases updE_mem hx with rfl | ⟨hx, hxn⟩
    · rcases has' _ hh with h1 | h1
      · exact hS.a e he q hq h1
      · have := hrw q hq; omega
    · exact hS.a x hx q hq hh
  · intro k hk
    rcases hk with hk | hk | ⟨x, hx, hk⟩
    · exact .inl (.inl hk)
    · exact .inl (.inr (.inl hk))
    · rcases updE_mem hx with rfl | ⟨hx, hxn⟩
      · rcases hk with h1 | h1
        · exact .inl (.inr (.inr ⟨e, he, .inl (h1.trans hg)⟩))
        · rcases hat k h1 with h2 | h2
          · exact .inl (.inr (.inr ⟨e, he, .inr h2⟩))
          · exact .inr ⟨h2, h1⟩
      · exact .inl (.inr (.inr ⟨x, hx, hk⟩))
theorem radd_pool {w : World} {base gp : Nat} {F : Nat → Prop} {s : PSt} (nm : Int) (y : Part) (ht : Int) (h : RPool w base gp F s) (hl : s.length ≤ 1000) : Calls Try.prog 20 #[.pointer (some ⟨gp, 0, none⟩), .int .i64 nm, .agg (partV y).toArray, .int .i64 ht] w fun r w' =>
    ∃ (F' : Nat → Prop) (A : Option Addr) (c : Nat), r = .returned (.tuple #[.slice A (addT s nm y ht).2.1.length c, .int .i64 (addT s nm y ht).2.2]) ∧ OVec w' w.heap.size 139 paidV 3 A (addT s nm y ht).2.1.length c (addT s nm y ht).2.1 ∧ RPool w' base gp F' (addT s nm y ht).1 ∧ Grown w F F' ∧ (∀ g, rowOf A c = some g → ¬ F' g) ∧ ChP w w' F := by
  have hbw := h.size
  obtain ⟨A, c, L, h1, rfl, h3, h4⟩ := h
  have hl2 : L.length ≤ 1000 := by simpa using hl
  cases hg : getP nm (L.map trP) with
  | none =>
    have e : addT (L.map trP) nm y ht = (L.map trP, [], 5) := by unfold addT; rw [hg]
    rw [e]
    refine Calls.mono (radd_none nm y ht w h1 hl2 hg) ?_
    rintro r w' ⟨rfl, hL⟩
    obtain ⟨F', hP, hG, hFF⟩ := RPool.mk' (w := w) (h1.le hL) rfl h3 h4 hbw (fun k hk => .inl hk)
    exact ⟨F', none, 0, rfl, OVec.nil _ _ _ _ _ _, hP, hG, by simp [rowOf], hL.chP F⟩
  | some p =>
    obtain ⟨e, he, e1⟩ := List.mem_map.1 (getP_mem hg)
    have hen : e.name = nm := congrArg Prod.fst e1
    have hep : e.pay = p := congrArg Prod.snd e1
    subst hen hep
    have hS := h1.hS
    have hnd := h1.good.names
    have hcF : ∀ k, (k = e.g ∨ rowOf e.A e.c = some k) → k < w.heap.size → F k := fun k hk _ => (h3 k).2 (.inr (.inr ⟨e, he, hk⟩))
    refine Calls.mono (radd_some e.name y ht w h1 hl2 (good_len h1.good) he rfl) ?_
    rintro r w' ⟨hc, hr⟩
    have hcw := hc.mono hcF
    have hgood := h1.good.add e.name y ht
    rcases hr with ⟨hm, rfl, hB⟩ | ⟨hm, hlt, rfl, A', c', hat, hB⟩ | ⟨hm, hlt, A', c', rfl, b0, hB⟩
    · have e2 : addT (L.map trP) e.name y ht = (L.map trP, [], (mayP e.pay (hkS (L.map trP)) y ht).2) := by unfold addT; rw [hg]; simp only [hm, ne_eq, not_false_eq_true, if_true]
      rw [e2]
      obtain ⟨q1, q3⟩ := h1.step (e' := e) he rfl rfl hc hB (fun k hk => .inl hk) (by rw [updP_self hnd hg]; exact h1.good)
      obtain ⟨F', hP, hG, hFF⟩ := RPool.mk' (w := w) q1 (by rw [updE_tr (e := e) rfl, updP_self hnd hg]) h3 h4 hbw (fun k hk => (q3 k hk).imp_right And.left)
      exact ⟨F', none, 0, rfl, OVec.nil _ _ _ _ _ _, hP, hG, by simp [rowOf], hcw⟩
    · have e2 : addT (L.map trP) e.name y ht = (updP e.name { e.pay with held := e.pay.held ++ [y], sum := (mayP e.pay (hkS (L.map trP)) y ht).1 } (L.map trP), [], 0) := by unfold addT; rw [hg]; simp only [hm, ne_eq, not_true_eq_false, if_false, hlt, if_true]
      rw [e2] at hgood ⊢
      obtain ⟨q1, q3⟩ := h1.step (e' := { e with A := A', c := c', pay := { e.pay with held := e.pay.held ++ [y], sum := (mayP e.pay (hkS (L.map trP)) y ht).1 } }) he rfl rfl hc hB hat hgood
      obtain ⟨F', hP, hG, hFF⟩ := RPool.mk' (w := w) (s' := updP e.name { e.pay with held := e.pay.held ++ [y], sum := (mayP e.pay (hkS (L.map trP)) y ht).1 } (L.map trP)) q1 (by rw [updE_tr (e := e)]; rfl) h3 h4 hbw (fun k hk => (q3 k hk).imp_right And.left)
      exact ⟨F', none, 0, rfl, OVec.nil _ _ _ _ _ _, hP, hG, by simp [rowOf], hcw⟩
    · have e2 : addT (L.map trP) e.name y ht = (updP e.name { e.pay with held := [], sum := (mayP e.pay (hkS (L.map trP)) y ht).1, ovr := true, paid := true } (L.map trP), (e.pay.held ++ [y]).map (paidOf e.pay.sec), 0) := by unfold addT; rw [hg]; simp only [hm, ne_eq, not_true_eq_false, if_false, hlt]
      rw [e2] at hgood ⊢
      obtain ⟨q1, q3⟩ := h1.step (e' := { e with A := none, c := 0, pay := { e.pay with held := [], sum := (mayP e.pay (hkS (L.map trP)) y ht).1, ovr := true, paid := true } }) he rfl rfl hc hB (by simp [rowOf]) hgood
      obtain ⟨F', hP, hG, hFF⟩ := RPool.mk' (w := w) (s' := updP e.name { e.pay with held := [], sum := (mayP e.pay (hkS (L.map trP)) y ht).1, ovr := true, paid := true } (L.map trP)) q1 (by rw [updE_tr (e := e)]; rfl) h3 h4 hbw (fun k hk => (q3 k hk).imp_right And.left)
      have hl3 : ((e.pay.held ++ [y]).map (paidOf e.pay.sec)).length = e.pay.held.length + 1 := by simp
      simp only [hl3]
      refine ⟨F', A', c', rfl, b0, hP, hG, fun g hg2 hF' => ?_, hcw⟩
      have hge := (b0.row hg2).1
      rcases q3 g (hFF g hF') with h5 | h5
      · have := h1.lt h5; omega
      · simp [rowOf] at h5
theorem outR_all (ht : Int) (L : List Ent) : outR ht L L.length = (lateS (L.map trP) ht).2 := by
  unfold outR lateS
  rw [List.take_length, List.flatMap_map]
  rfl
theorem late_tr (ht : Int) (L : List Ent) : (L.map (lateE ht)).map trP = (lateS (L.map trP) ht).1 := by
  unfold lateS
  rw [List.map_map, List.map_map]
  apply List.map_congr_left
  intro e _
  by_cases h : dueP ht e.pay = true
  · simp [Function.comp, trP, lateE, lateP, h]
  · simp [Function.comp, trP, lateE, lateP, h]
theorem rlate_pool {w : World} {base gp : Nat} {F : Nat → Prop} {s : PSt} (ht : Int) (h : RPool w base gp F s) (hl : s.length ≤ 1000) : Calls Try.prog 24 #[.pointer (some ⟨gp, 0, none⟩), .int .i64 ht] w fun r w' =>
    ∃ (F' : Nat → Prop) (A : Option Addr) (c : Nat), r = .returned (.slice A (lateS s ht).2.length c) ∧ OVec w' w.heap.size 44 partV 6 A (lateS s ht).2.length c (lateS s ht).2 ∧ RPool w' base gp F' (lateS s ht).1 ∧ Grown w F F' ∧ (∀ g, rowOf A c = some g → ¬ F' g) ∧ ChP w w' F := by
  have hbw := h.size
  have hgood := h.good.late ht
  obtain ⟨A, c, L, h1, rfl, h3, h4⟩ := h
  have hS := h1.hS
  refine Calls.mono (rlate_ok ht w h1 (by simpa using hl) (good_len h1.good)) ?_
  rintro r w' ⟨m, A', c', rfl, hO, hP', hc⟩
  rw [outR_all] at hO
  have hm : m = (lateS (L.map trP) ht).2.length := hO.1.symm
  subst hm
  have hcF : ChP w w' F := hc.mono (fun k hk _ => by obtain ⟨e, he, rfl⟩ := hk; exact (h3 _).2 (.inr (.inr ⟨e, he, .inl rfl⟩)))
  have hmem : ∀ x ∈ L.map (lateE ht), ∃ e ∈ L, x = lateE ht e := fun x hx => by obtain ⟨e, he, rfl⟩ := List.mem_map.1 hx; exact ⟨e, he, rfl⟩
  have hgg : ∀ e : Ent, (lateE ht e).g = e.g := fun e => by unfold lateE; split <;> rfl
  have hL' : RPoolL w' gp A c (L.map (lateE ht)) := by
    refine ⟨?_, ?_, hP', ⟨?_, ?_, ?_, ?_, ?_, hS.pa⟩, by rw [late_tr]; exact hgood⟩
    · rw [List.length_map]
      exact h1.hp.chP hc (fun ⟨e, he, hh⟩ => hS.p e he (.inl hh))
    · rw [List.length_map, List.map_map]
      have : (L.map ((·.g) ∘ lateE ht)) = L.map (·.g) := List.map_congr_left (fun e _ => hgg e)
      rw [this]
      exact h1.hV.chP hc (fun k hk ⟨e, he, hh⟩ => hS.a e he k hk (.inl hh))
    · rw [List.map_map]
      have : (L.map ((·.name) ∘ lateE ht)) = L.map (·.name) := List.map_congr_left (fun e _ => lateE_name ht e)
      rw [this]
      exact hS.names
    · intro a ha b hb hab k hka hkb
      obtain ⟨a', ha', rfl⟩ := hmem a ha
      obtain ⟨b', hb', rfl⟩ := hmem b hb
      rw [lateE_name, lateE_name] at hab
      exact hS.pw a' ha' b' hb' hab k (lateE_has hka) (lateE_has hkb)
    · intro x hx
      obtain ⟨e, he, rfl⟩ := hmem x hx
      unfold lateE
      split
      · simp [rowOf]
      · exact hS.own e he
    · intro x hx hh
      obtain ⟨e, he, rfl⟩ := hmem x hx
      exact hS.p e he (lateE_has hh)
    · intro x hx k hk hh
      obtain ⟨e, he, rfl⟩ := hmem x hx
      exact hS.a e he k hk (lateE_has hh)
  obtain ⟨F', hP, hG, hFF⟩ := RPool.mk' (w := w) (L := L) hL' (late_tr ht L).symm h3 h4 hbw (by
    rintro k (hk | hk | ⟨x, hx, hk⟩)
    · exact .inl (.inl hk)
    · exact .inl (.inr (.inl hk))
    · obtain ⟨e, he, rfl⟩ := hmem x hx
      exact .inl (.inr (.inr ⟨e, he, lateE_has hk⟩)))
  refine ⟨F', A', c', rfl, hO, hP, hG, fun g hg2 hF' => ?_, hcF⟩
  have hge := (hO.row hg2).1
  rcases hFF g hF' with h5 | h5 | ⟨x, hx, h5⟩
  · have := h1.hp.lt; omega
  · have := (h1.hV.row h5).2; omega
  · obtain ⟨e, he, rfl⟩ := hmem x hx
    have := h1.hP.lt he (lateE_has h5)
    omega
end Go.Proofs.Ytfgakofjkldcjaa

