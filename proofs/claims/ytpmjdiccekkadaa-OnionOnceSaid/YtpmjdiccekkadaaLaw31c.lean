/- The statement OnionOnce walked: it answers true and leaves old memory as it was. -/
import Derived.Test.YtpmjdiccekkadaaRefSeen
namespace Go.Proofs.Ytpmjdiccekkadaa
open Go Go.Sx Go.Hsp Go.Num Go.Osp
set_option maxRecDepth 20000
abbrev ActS := Int × List Byte × Int
def actV (a : ActS) : List Value := .int .i64 a.1 :: (a.2.1.map u8v ++ [.int .i64 a.2.2])
theorem actV_len (a : ActS) (h : a.2.1.length = 32) : (actV a).length = 34 := by simp [actV, h]
theorem actV_one (a : ActS) : ∀ u ∈ actV a, u.oneCell' = true := fun u hu => by
  simp only [actV, List.mem_cons, List.mem_append, List.not_mem_nil, or_false] at hu
  rcases hu with rfl | hu | rfl
  · rfl
  · exact all_u8v _ u hu
  · rfl
theorem actV_sum (a : ActS) : ∀ i u, (a.2.1.map u8v)[i]? = some u → (actV a).toArray[1 + i]? = some u := fun i u hu => by
  have h1 : i < (a.2.1.map u8v).length := (List.getElem?_eq_some_iff.1 hu).1
  rw [Nat.add_comm]
  simp only [actV, List.getElem?_toArray, List.getElem?_cons_succ]
  rw [List.getElem?_append_left h1]; exact hu
theorem actV_until (a : ActS) (h : a.2.1.length = 32) : (actV a).toArray[33]? = some (.int .i64 a.2.2) := by
  simp only [actV, List.getElem?_toArray, List.getElem?_cons_succ]
  rw [List.getElem?_append_right (by simp [h])]; simp [h]
def sndE (l : List Ent) : List One := l.map fun x => (x.2.1, x.2.2)
theorem find_none {key : List Byte} {l : List Ent} (h : finds key (sndE l) = false) : find31 key l 0 = none := by
  rw [find31_none]
  intro x hx he
  rw [finds, List.any_eq_false] at h
  exact h (x.2.1, x.2.2) (List.mem_map.2 ⟨x, hx, rfl⟩) (by simpa using he)
theorem find_some {key : List Byte} {l : List Ent} (h : finds key (sndE l) = true) : ∃ j u, find31 key l 0 = some (j, u) := by
  rw [finds, List.any_eq_true] at h
  obtain ⟨y, hy, hk⟩ := h
  obtain ⟨x, hx, rfl⟩ := List.mem_map.1 hy
  exact find31_mem key l 0 ⟨x, hx, by simpa using hk⟩
theorem finds_snoc (key : List Byte) (u : Int) (l : List One) : finds key (l ++ [(key, u)]) = true := by simp [finds]
theorem sndE_filter (l : List Ent) (h : Int) : sndE (l.filter fun x => !decide (x.2.2 < h)) = (sndE l).filter fun x => decide (h ≤ x.2) := by
  unfold sndE
  rw [List.filter_map]
  congr 1
  apply List.filter_congr
  intro x _
  simp only [Function.comp]
  by_cases hx : x.2.2 < h
  · rw [decide_eq_true hx, decide_eq_false (by omega)]; rfl
  · rw [decide_eq_false hx, decide_eq_true (by omega)]; rfl
theorem filter_parts (p : Ent → Bool) : ∀ (l : List Ent), (l.filter p).length + (l.filter fun x => !p x).length = l.length
  | [] => rfl
  | x :: l => by
    have := filter_parts p l
    simp only [List.filter_cons]
    cases p x <;> simp <;> omega
theorem forget_eq (l : List Ent) (h : Int) : (((l.filter fun x => decide (x.2.2 < h)).length : Nat) : Int) = ((sndE l).length : Int) - (((sndE l).filter fun x => decide (h ≤ x.2)).length : Int) := by
  have h1 := filter_parts (fun x => decide (x.2.2 < h)) l
  have h2 := congrArg List.length (sndE_filter l h)
  have h3 : (sndE (l.filter fun x => !decide (x.2.2 < h))).length = (l.filter fun x => !decide (x.2.2 < h)).length := by simp [sndE]
  have h4 : (sndE l).length = l.length := by simp [sndE]
  omega
theorem Any.addI {P : Program} {env : Env} {n : Nat} {d : Option Nat} {T : TypeId} {p : String} {af : Array Edge} {g : Option (Nat × Bool)} {t ty : TypeId} {x y : Operand} {a b : Int} (hx : ev env x = some (.int .i64 a)) (hy : ev env y = some (.int .i64 b)) : Any P env n ⟨d, .binOp .add t x y ty, T, p, af, g⟩ (.int .i64 (IntKind.i64.wrap (a + b))) :=
  .int hx hy fun w => by simp [binOp, Op.intArith]
theorem ronce_old (key : List Byte) (hk : key.length = 32) (u : Int) {gr base c : Nat} {A : Option Addr} {l : List One} (w : World) (hR : Rs w gr A c base l) (hl : l.length ≤ 1000000) (hf : finds key l = true) : Calls Try.prog 39 #[.pointer (some ⟨gr, 0, none⟩), .agg (key.map u8v).toArray, .int .i64 u] w fun e w' => e = .returned (.int .i64 17) ∧ Le w w' :=
  (ronce_ok key hk u w hR hl).mono fun e w' h => by
    rcases h with ⟨_, h1, h2⟩ | ⟨h, _⟩
    · exact ⟨h1, h2⟩
    · rw [hf] at h; cases h
theorem ronce_new (key : List Byte) (hk : key.length = 32) (u : Int) {gr base c : Nat} {A : Option Addr} {l : List One} (w : World) (hR : Rs w gr A c base l) (hl : l.length ≤ 1000000) (hf : finds key l = false) : Calls Try.prog 39 #[.pointer (some ⟨gr, 0, none⟩), .agg (key.map u8v).toArray, .int .i64 u] w fun e w' => e = .returned (.int .i64 0) ∧ ∃ A' c' w1, Rs w' gr A' c' base (l ++ [(key, u)]) ∧ At w A c A' c' ∧ Ch w w1 (rowOf A c) ∧ Ch w1 w' (some gr) :=
  (ronce_ok key hk u w hR hl).mono fun e w' h => by
    rcases h with ⟨h, _⟩ | ⟨_, h1, h2⟩
    · rw [hf] at h; cases h
    · exact ⟨h1, h2⟩

theorem getact (l : List ActS) {k : Nat} (h : k < l.length) : l[k]? = some (l.getD k (0, [], 0)) := by simp [h, List.getD]

set_option maxHeartbeats 2000000 in
theorem OnionOnce_ok {A : Option Addr} {n c : Nat} {acts : List ActS} (w : World) (hH : Rws w 34 A n (acts.map actV)) (hacts : ∀ a ∈ acts, a.2.1.length = 32) (hn : n ≤ 9223372036854775807) : Calls Try.prog 12 #[.slice A n c] w fun e w' => e = .returned (.bool true) ∧ Le w w' := by
  have hhl := hH.1
  rw [List.length_map] at hhl
  refine enter Try.func12 rfl rfl ?_
  have L0 := Le.refl w
  refine WC.seq ?_
  refine WC.region ?_
  refine W.any (.assign rfl) rfl rfl rfl ?_
  refine W.nil ?_
  refine E.thenN ?_
  refine WC.seq ?_
  refine WC.region ?_
  refine W.ef rfl rfl rfl ?_
  refine Ef.call go26 rfl rfl (small31_ok w) ?_
  rintro _ w1_0 ⟨rfl, h1_0⟩
  refine ⟨_, rfl, ?_⟩
  have L1_0 := L0.trans h1_0
  refine W.any (.assign rfl) rfl rfl rfl ?_
  refine W.nil ?_
  refine E.thenN ?_
  refine WC.seq ?_
  refine WC.seq ?_
  refine WC.region ?_
  refine W.any (.move rfl) rfl rfl rfl ?_
  refine W.rd (.len Try.underlying59 rfl) rfl rfl rfl ?_
  by_cases q1 : 60 < n
  · refine W.any (.dec (.gtr rfl rfl) (decide_eq_true (by omega))) rfl rfl rfl ?_
    refine W.nil ?_
    refine E.thenN ?_
    refine WC.condT rfl ?_
    refine WC.seq ?_
    refine WC.region ?_
    refine W.any (.move rfl) rfl rfl rfl ?_
    refine W.any (.assign rfl) rfl rfl rfl ?_
    refine W.nil ?_
    refine E.thenN ?_
    refine WC.ret ?_
    refine E.thenR ?_
    refine E.ret1 rfl rfl ?_
    exact ⟨rfl, L1_0⟩
  · refine W.any (.dec (.gtr rfl rfl) (decide_eq_false (by omega))) rfl rfl rfl ?_
    refine W.nil ?_
    refine E.thenN ?_
    refine WC.condF rfl ?_
    refine WC.skip ?_
    refine E.thenN ?_
    refine WC.seq ?_
    refine WC.region ?_
    refine W.ef rfl rfl rfl ?_
    refine Ef.call go34 rfl rfl (new_ok w1_0) ?_
    rintro _ w4_0 ⟨gp, g, rfl, hg, hgp, bQ, mQ, h4_0⟩
    refine ⟨_, rfl, ?_⟩
    have L4_0 := L1_0.trans h4_0
    refine W.any (.assign rfl) rfl rfl rfl ?_
    refine W.nil ?_
    refine E.thenN ?_
    refine WC.seq ?_
    refine WC.region ?_
    refine W.ef rfl rfl rfl ?_
    refine Ef.call go35 rfl rfl (rnew_ok w4_0) ?_
    rintro _ w5_0 ⟨gr, rfl, hgr, rQ, h5_0⟩
    refine ⟨_, rfl, ?_⟩
    have L5_0 := L4_0.trans h5_0
    have hgp4 := bQ.lt
    have bQ := bQ.le h5_0
    have mQ := mQ.le h5_0
    refine W.any (.assign rfl) rfl rfl rfl ?_
    refine W.nil ?_
    refine E.thenN ?_
    refine WC.seq ?_
    refine WC.seq ?_
    refine WC.region ?_
    refine W.any (.move rfl) rfl rfl rfl ?_
    refine W.any (notNil Try.underlying60 rfl) rfl rfl rfl ?_
    refine W.nil ?_
    refine E.thenN ?_
    refine WC.condF rfl ?_
    refine WC.skip ?_
    refine E.thenN ?_
    refine WC.seq ?_
    refine WC.seq ?_
    refine WC.region ?_
    refine W.any (.assign rfl) rfl rfl rfl ?_
    refine W.nil ?_
    refine E.thenN ?_
    refine WC.block ?_
    refine WC.loop (ι := Nat × List Ent × Nat × Option Addr × Nat) (fun ⟨k, l, ck, Ar, cr⟩ => [(0, .slice A n c), (3, .bool true), (4, .pointer (some ⟨gp, 0, none⟩)), (5, .pointer (some ⟨gr, 0, none⟩)), (6, .int .i64 (k : Int))]) (fun ⟨k, l, ck, Ar, cr⟩ wl => k ≤ n ∧ Le w wl ∧ Blk wl gp 123 #[.map (some g)] ∧ Mp wl 32 g l ck ∧ Rs wl gr Ar cr w4_0.heap.size (sndE l) ∧ l.length ≤ k) (fun ⟨k, l, ck, Ar, cr⟩ => n - k) (0, [], 0, none, 0) ?_ ?_ ?_
    · exact .cons rfl (.cons rfl (.cons rfl (.cons rfl (.cons rfl (.nil _)))))
    · exact ⟨Nat.zero_le _, L5_0, bQ, mQ, rQ, Nat.le_refl _⟩
    · rintro ⟨k, l, ck, Ar, cr⟩ wl ⟨hk, Ll, hB, hM, hR, hlk⟩
      refine WC.seq ?_
      refine WC.seq ?_
      refine WC.region ?_
      refine W.any (.move rfl) rfl rfl rfl ?_
      refine W.any (.move rfl) rfl rfl rfl ?_
      refine W.rd (.len Try.underlying59 rfl) rfl rfl rfl ?_
      refine W.any (.lss rfl rfl) rfl rfl rfl ?_
      refine W.nil ?_
      refine E.thenN ?_
      refine WC.cond rfl (fun c2 => ?_) (fun c2 => ?_)
      · have hak := getact acts (show k < acts.length by omega)
        generalize acts.getD k (0, [], 0) = a at *
        have ha32 := hacts a (List.mem_of_getElem? hak)
        refine WC.skip ?_
        refine E.thenN ?_
        refine WC.seq ?_
        refine WC.block ?_
        refine WC.seq ?_
        refine WC.region ?_
        refine W.any (.move rfl) rfl rfl rfl ?_
        refine W.any (.move rfl) rfl rfl rfl ?_
        refine W.any (.idxS (k) Try.underlying59 sz65 rfl rfl (hH.isSome (by omega) (by decide)) (rfl) (by omega)) rfl rfl rfl ?_
        refine W.rd (.loadR ag65 rfl (hH.le Ll) (show (acts.map actV)[k]? = some (actV a) by rw [List.getElem?_map, hak]; rfl) (by decide)) rfl rfl rfl ?_
        refine W.ef rfl rfl rfl ?_
        refine Ef.allocA z65 ?_
        intro g11_4 w11_4 hg11_4 b11_4 h11_4
        have L11_4 := Ll.trans h11_4
        refine W.ef0 rfl rfl ?_
        refine Ef.storeAll sz65 (by rw [List.size_toArray, actV_len a ha32]) rfl rfl (b11_4) (by rw [show (actV a).toArray.size = 34 by rw [List.size_toArray, actV_len a ha32]]; rfl) (actV_one _) ?_
        intro w11_5 b11_5 h11_5
        have L11_5 : Le w w11_5 := L11_4.then_ h11_5 (fun q hq => by cases hq; exact Nat.le_trans Ll.size hg11_4)
        have L5 : Le wl w11_5 := h11_4.then_ h11_5 (fun q hq => by cases hq; exact hg11_4)
        have hB1 := hB.le L5
        have hM1 := hM.le L5
        have hR1 := hR.le L5
        have hgl : g < wl.heap.size := hM.lt
        have hrl : ∀ q, rowOf Ar cr = some q → q < wl.heap.size ∧ w4_0.heap.size ≤ q := fun q hq => ⟨(hR.own.row hq).2, (hR.own.row hq).1⟩
        have hgrl := hR.blk.lt
        have hg4 : g < w4_0.heap.size := by omega
        have hsl : (sndE l).length ≤ 1000000 := by simp [sndE]; omega
        refine W.nil ?_
        refine E.thenN ?_
        refine WC.seq ?_
        refine WC.seq ?_
        refine WC.region ?_
        refine W.any (.field0 fa65_0 rfl) rfl rfl rfl ?_
        refine W.rd (.loadB na3 rfl (b11_5) (rfl)) rfl rfl rfl ?_
        refine W.any (.neq rfl rfl) rfl rfl rfl ?_
        refine W.nil ?_
        refine E.thenN ?_
        refine WC.cond rfl (fun hdo => ?_) (fun hdo => ?_)
        · refine WC.seq ?_
          refine WC.seq ?_
          refine WC.drawS (fun w13 w' => Blk w' g11_4 65 (actV a).toArray) [0, 1, 2, 4, 5, 6, 3, 7, 8] mixed (by kernel_rfl) ?_
          intro w13 d13
          refine ⟨b11_5.le d13, ?_⟩
          have L13 := L11_5.trans d13
          refine GS.any rfl rfl (.move rfl) rfl rfl rfl ?_
          refine GS.any rfl rfl (.field0 fa65_2 rfl) rfl rfl rfl ?_
          refine GS.rd rfl rfl (fun w' hs => .loadB na3 rfl hs (actV_until a ha32)) rfl rfl rfl ?_
          refine GS.any rfl rfl (.move rfl) rfl rfl rfl ?_
          refine GS.any rfl rfl (.field0 fa65_2 rfl) rfl rfl rfl ?_
          refine GS.rd rfl rfl (fun w' hs => .loadB na3 rfl hs (actV_until a ha32)) rfl rfl rfl ?_
          refine GS.ef rfl rfl rfl rfl rfl ?_
          refine Ef.call go36 rfl rfl (forget_ok a.2.2 w13 (hB1.le d13) (by omega) (hM1.le d13) (by omega)) ?_
          rintro _ w13_3 ⟨rfl, mF, h13_3⟩
          refine ⟨_, rfl, ?_⟩
          have L13_3 : Le w w13_3 := L13.then_ h13_3 (fun q hq => by cases hq; exact Nat.le_trans L1_0.size hg)
          have b3 := (b11_5.le d13).ch h13_3 (by simp; omega)
          refine ⟨b3, ?_⟩
          have hB3 := (hB1.le d13).ch h13_3 (by simp; omega)
          have hR3 := (hR1.le d13).ch h13_3 (by omega) (fun he => by have := (hrl _ he).2; omega)
          refine GS.ef rfl rfl rfl rfl rfl ?_
          refine Ef.call go37 rfl rfl (rforget_ok a.2.2 w13_3 hR3 hsl) ?_
          rintro _ w13_7 ⟨rfl, ⟨A7, c7, rF, hrw⟩, h13_7⟩
          refine ⟨_, rfl, ?_⟩
          have L13_7 : Le w w13_7 := L13_3.then_ h13_7 (fun q hq => by cases hq; exact Nat.le_trans L4_0.size hgr)
          have b7 := b3.ch h13_7 (by simp; omega)
          refine ⟨b7, ?_⟩
          have hB4 := hB3.ch h13_7 (by simp; omega)
          have mF2 := mF.ch h13_7 (by simp; omega)
          refine GS.any rfl rfl (.dec (.neq rfl rfl) (decide_eq_false (fun h => h (forget_eq l a.2.2)))) rfl rfl rfl ?_
          refine GS.nil ?_
          refine E.thenN ?_
          refine WC.condF rfl ?_
          refine WC.skip ?_
          refine E.thenN ?_
          refine WC.exit ?_
          refine E.thenX ?_
          refine E.blkH ?_
          refine E.thenN ?_
          refine WC.region ?_
          refine W.any (.move rfl) rfl rfl rfl ?_
          refine W.any (.add rfl rfl (by omega)) rfl rfl rfl ?_
          refine W.any (.assign rfl) rfl rfl rfl ?_
          refine W.nil ?_
          refine E.again (k + 1, l.filter fun x => !decide (x.2.2 < a.2.2), ck, A7, c7) (.cons rfl (.cons rfl (.cons rfl (.cons rfl (.cons rfl (.nil _)))))) ?_ ?_
          · exact ⟨by omega, L13_7, hB4, mF2, by rw [sndE_filter]; exact rF, by have := List.length_filter_le (fun x : Ent => !decide (x.2.2 < a.2.2)) l; omega⟩
          · first | omega | (simp only []; omega)
        · have hf := Bool.eq_false_or_eq_true (finds a.2.1 (sndE l))
          refine WC.skip ?_
          refine E.thenN ?_
          refine WC.seq ?_
          refine WC.seq ?_
          refine WC.drawS (fun w15 w' => Blk w' g11_4 65 (actV a).toArray) [0, 1, 2, 3, 4, 6, 7, 8, 9, 10, 5, 11, 12] mixed (by kernel_rfl) ?_
          intro w15 d15
          refine ⟨b11_5.le d15, ?_⟩
          have L15 := L11_5.trans d15
          refine GS.any rfl rfl (.move rfl) rfl rfl rfl ?_
          refine GS.any rfl rfl (.field0 fa65_1 rfl) rfl rfl rfl ?_
          refine GS.rd rfl rfl (fun w' hs => .as (Rd.loadSb ag23 rfl ((hs).sbAt 1 32 a.2.1 ha32 (actV_sum a)) (by decide) (by decide)) (show _ = Value.agg (a.2.1.map u8v).toArray by rw [List.take_of_length_le (by omega)])) rfl rfl rfl ?_
          refine GS.any rfl rfl (.field0 fa65_2 rfl) rfl rfl rfl ?_
          refine GS.rd rfl rfl (fun w' hs => .loadB na3 rfl hs (actV_until a ha32)) rfl rfl rfl ?_
          refine GS.any rfl rfl (.move rfl) rfl rfl rfl ?_
          refine GS.any rfl rfl (.field0 fa65_1 rfl) rfl rfl rfl ?_
          refine GS.rd rfl rfl (fun w' hs => .as (Rd.loadSb ag23 rfl ((hs).sbAt 1 32 a.2.1 ha32 (actV_sum a)) (by decide) (by decide)) (show _ = Value.agg (a.2.1.map u8v).toArray by rw [List.take_of_length_le (by omega)])) rfl rfl rfl ?_
          refine GS.any rfl rfl (.field0 fa65_2 rfl) rfl rfl rfl ?_
          refine GS.rd rfl rfl (fun w' hs => .loadB na3 rfl hs (actV_until a ha32)) rfl rfl rfl ?_
          by_cases hf : finds a.2.1 (sndE l) = true
          · obtain ⟨j, v, hfj⟩ := find_some hf
            refine GS.ef rfl rfl rfl rfl rfl ?_
            refine Ef.call go38 rfl rfl (once_old a.2.1 ha32 a.2.2 w15 (hB1.le d15) (hM1.le d15) hfj) ?_
            rintro _ w15_5 ⟨rfl, h15_5⟩
            refine ⟨_, rfl, ?_⟩
            have L15_5 := L15.trans h15_5
            have b3 := (b11_5.le d15).le h15_5
            refine ⟨b3, ?_⟩
            refine GS.ef rfl rfl rfl rfl rfl ?_
            refine Ef.call go39 rfl rfl (ronce_old a.2.1 ha32 a.2.2 w15_5 (hR1.le (d15.trans h15_5)) hsl hf) ?_
            rintro _ w15_11 ⟨rfl, h15_11⟩
            refine ⟨_, rfl, ?_⟩
            have L15_11 := L15_5.trans h15_11
            have b7 := b3.le h15_11
            refine ⟨b7, ?_⟩
            have hB5 := hB1.le (d15.trans (h15_5.trans h15_11))
            have hM5 := hM1.le (d15.trans (h15_5.trans h15_11))
            have hR5 := hR1.le (d15.trans (h15_5.trans h15_11))
            refine GS.any rfl rfl (.dec (.neq rfl rfl) (decide_eq_false (by decide))) rfl rfl rfl ?_
            refine GS.nil ?_
            refine E.thenN ?_
            refine WC.condF rfl ?_
            refine WC.skip ?_
            refine E.thenN ?_
            refine WC.seq ?_
            refine WC.region ?_
            refine W.any (.move rfl) rfl rfl rfl ?_
            refine W.any (.field0 fa65_1 rfl) rfl rfl rfl ?_
            refine W.rd (.as (Rd.loadSb ag23 rfl ((b7).sbAt 1 32 a.2.1 ha32 (actV_sum a)) (by decide) (by decide)) (show _ = Value.agg (a.2.1.map u8v).toArray by rw [List.take_of_length_le (by omega)])) rfl rfl rfl ?_
            refine W.any (.field0 fa65_2 rfl) rfl rfl rfl ?_
            refine W.rd (.loadB na3 rfl (b7) (actV_until a ha32)) rfl rfl rfl ?_
            refine W.any (Any.addI rfl rfl) rfl rfl rfl ?_
            refine W.ef rfl rfl rfl ?_
            refine Ef.call go38 rfl rfl (once_old a.2.1 ha32 _ w15_11 hB5 hM5 hfj) ?_
            rintro _ w17_6 ⟨rfl, h17_6⟩
            refine ⟨_, rfl, ?_⟩
            have L17_6 := L15_11.trans h17_6
            refine W.any (.dec (.neq rfl rfl) (decide_eq_false (by decide))) rfl rfl rfl ?_
            refine W.any (.move rfl) rfl rfl rfl ?_
            refine W.rdg (Any.rd (.move rfl) _) rfl rfl rfl (rfl) rfl rfl ?_
            refine W.rdg (Any.rd (.field0 fa65_1 rfl) _) rfl rfl rfl (rfl) rfl rfl ?_
            refine W.rdg (.as (Rd.loadSb ag23 rfl ((b7.le h17_6).sbAt 1 32 a.2.1 ha32 (actV_sum a)) (by decide) (by decide)) (show _ = Value.agg (a.2.1.map u8v).toArray by rw [List.take_of_length_le (by omega)])) rfl rfl rfl (rfl) rfl rfl ?_
            refine W.efg rfl rfl rfl (rfl) rfl rfl ?_
            refine Ef.call go39 rfl rfl (ronce_old a.2.1 ha32 0 w17_6 (hR5.le h17_6) hsl hf) ?_
            rintro _ w17_12 ⟨rfl, h17_12⟩
            refine ⟨_, rfl, ?_⟩
            have L17_12 := L17_6.trans h17_12
            have hB6 := hB5.le (h17_6.trans h17_12)
            have hM6 := hM5.le (h17_6.trans h17_12)
            have hR6 := hR5.le (h17_6.trans h17_12)
            refine W.rdg (Any.rd (.dec (.neq rfl rfl) (decide_eq_false (by decide))) _) rfl rfl rfl (rfl) rfl rfl ?_
            refine W.any (.pickF rfl rfl rfl) rfl rfl rfl ?_
            refine W.nil ?_
            refine E.thenN ?_
            refine WC.condF rfl ?_
            refine WC.skip ?_
            refine E.blkN ?_
            refine E.thenN ?_
            refine WC.region ?_
            refine W.any (.move rfl) rfl rfl rfl ?_
            refine W.any (.add rfl rfl (by omega)) rfl rfl rfl ?_
            refine W.any (.assign rfl) rfl rfl rfl ?_
            refine W.nil ?_
            refine E.again (k + 1, l, ck, Ar, cr) (.cons rfl (.cons rfl (.cons rfl (.cons rfl (.cons rfl (.nil _)))))) ?_ ?_
            · exact ⟨by omega, L17_12, hB6, hM6, hR6, by omega⟩
            · first | omega | (simp only []; omega)
          · refine GS.ef rfl rfl rfl rfl rfl ?_
            refine Ef.call go38 rfl rfl (once_new a.2.1 ha32 a.2.2 w15 (hB1.le d15) (hM1.le d15) (find_none (by simpa using hf))) ?_
            rintro _ w15_5 ⟨rfl, mN, h15_5⟩
            refine ⟨_, rfl, ?_⟩
            have L15_5 : Le w w15_5 := L15.then_ h15_5 (fun q hq => by cases hq; exact Nat.le_trans L1_0.size hg)
            have b3 := (b11_5.le d15).ch h15_5 (by simp; omega)
            refine ⟨b3, ?_⟩
            have hB3 := (hB1.le d15).ch h15_5 (by simp; omega)
            have hR3 := (hR1.le d15).ch h15_5 (by omega) (fun he => by have := (hrl _ he).2; omega)
            refine GS.ef rfl rfl rfl rfl rfl ?_
            refine Ef.call go39 rfl rfl (ronce_new a.2.1 ha32 a.2.2 w15_5 hR3 hsl (by simpa using hf)) ?_
            rintro _ w15_11 ⟨rfl, A8, c8, w1, rN, hat, hc1, hc2⟩
            refine ⟨_, rfl, ?_⟩
            have L15_11 : Le w w15_11 := (L15_5.then_ hc1 (fun q hq => Nat.le_trans L4_0.size (hrl _ hq).2)).then_ hc2 (fun q hq => by cases hq; exact Nat.le_trans L4_0.size hgr)
            have b7 := (b3.ch hc1 (fun he => by have := (hrl _ he).1; omega)).ch hc2 (by simp; omega)
            refine ⟨b7, ?_⟩
            have hB5 := (hB3.ch hc1 (fun he => by have := (hrl _ he).2; omega)).ch hc2 (by simp; omega)
            have hM5 := (mN.ch hc1 (fun he => by have := (hrl _ he).2; omega)).ch hc2 (by simp; omega)
            have hsn : sndE (l ++ [(ck, a.2.1, a.2.2)]) = sndE l ++ [(a.2.1, a.2.2)] := by simp [sndE]
            obtain ⟨j, v, hfj⟩ := find31_mem a.2.1 (l ++ [(ck, a.2.1, a.2.2)]) 0 ⟨(ck, a.2.1, a.2.2), by simp, rfl⟩
            refine GS.any rfl rfl (.dec (.neq rfl rfl) (decide_eq_false (by decide))) rfl rfl rfl ?_
            refine GS.nil ?_
            refine E.thenN ?_
            refine WC.condF rfl ?_
            refine WC.skip ?_
            refine E.thenN ?_
            refine WC.seq ?_
            refine WC.region ?_
            refine W.any (.move rfl) rfl rfl rfl ?_
            refine W.any (.field0 fa65_1 rfl) rfl rfl rfl ?_
            refine W.rd (.as (Rd.loadSb ag23 rfl ((b7).sbAt 1 32 a.2.1 ha32 (actV_sum a)) (by decide) (by decide)) (show _ = Value.agg (a.2.1.map u8v).toArray by rw [List.take_of_length_le (by omega)])) rfl rfl rfl ?_
            refine W.any (.field0 fa65_2 rfl) rfl rfl rfl ?_
            refine W.rd (.loadB na3 rfl (b7) (actV_until a ha32)) rfl rfl rfl ?_
            refine W.any (Any.addI rfl rfl) rfl rfl rfl ?_
            refine W.ef rfl rfl rfl ?_
            refine Ef.call go38 rfl rfl (once_old a.2.1 ha32 _ w15_11 hB5 hM5 hfj) ?_
            rintro _ w17_6 ⟨rfl, h17_6⟩
            refine ⟨_, rfl, ?_⟩
            have L17_6 := L15_11.trans h17_6
            refine W.any (.dec (.neq rfl rfl) (decide_eq_false (by decide))) rfl rfl rfl ?_
            refine W.any (.move rfl) rfl rfl rfl ?_
            refine W.rdg (Any.rd (.move rfl) _) rfl rfl rfl (rfl) rfl rfl ?_
            refine W.rdg (Any.rd (.field0 fa65_1 rfl) _) rfl rfl rfl (rfl) rfl rfl ?_
            refine W.rdg (.as (Rd.loadSb ag23 rfl ((b7.le h17_6).sbAt 1 32 a.2.1 ha32 (actV_sum a)) (by decide) (by decide)) (show _ = Value.agg (a.2.1.map u8v).toArray by rw [List.take_of_length_le (by omega)])) rfl rfl rfl (rfl) rfl rfl ?_
            refine W.efg rfl rfl rfl (rfl) rfl rfl ?_
            refine Ef.call go39 rfl rfl (ronce_old a.2.1 ha32 0 w17_6 (rN.le h17_6) (by rw [List.length_append]; simp [sndE]; omega) (finds_snoc _ _ _)) ?_
            rintro _ w17_12 ⟨rfl, h17_12⟩
            refine ⟨_, rfl, ?_⟩
            have L17_12 := L17_6.trans h17_12
            have hB6 := hB5.le (h17_6.trans h17_12)
            have hM6 := hM5.le (h17_6.trans h17_12)
            have hR6 := rN.le (h17_6.trans h17_12)
            refine W.rdg (Any.rd (.dec (.neq rfl rfl) (decide_eq_false (by decide))) _) rfl rfl rfl (rfl) rfl rfl ?_
            refine W.any (.pickF rfl rfl rfl) rfl rfl rfl ?_
            refine W.nil ?_
            refine E.thenN ?_
            refine WC.condF rfl ?_
            refine WC.skip ?_
            refine E.blkN ?_
            refine E.thenN ?_
            refine WC.region ?_
            refine W.any (.move rfl) rfl rfl rfl ?_
            refine W.any (.add rfl rfl (by omega)) rfl rfl rfl ?_
            refine W.any (.assign rfl) rfl rfl rfl ?_
            refine W.nil ?_
            refine E.again (k + 1, l ++ [(ck, a.2.1, a.2.2)], ck + 1, A8, c8) (.cons rfl (.cons rfl (.cons rfl (.cons rfl (.cons rfl (.nil _)))))) ?_ ?_
            · exact ⟨by omega, L17_12, hB6, hM6, by rw [hsn]; exact hR6, by rw [List.length_append]; simp; omega⟩
            · first | omega | (simp only []; omega)
      · refine WC.exit ?_
        refine E.thenX ?_
        refine E.thenX ?_
        refine E.blkH ?_
        refine E.thenN ?_
        refine WC.seq ?_
        refine WC.region ?_
        refine W.any (.move rfl) rfl rfl rfl ?_
        refine W.any (.assign rfl) rfl rfl rfl ?_
        refine W.nil ?_
        refine E.thenN ?_
        refine WC.ret ?_
        refine E.ret1 rfl rfl ?_
        exact ⟨rfl, Ll⟩
end Go.Proofs.Ytpmjdiccekkadaa
