/- LedgerSheets: for every input the law answers true and leaves its arguments as they were. -/
import Derived.Test.YtgpaekbdbpkogaaGreatLedgerSheetsP
set_option linter.unusedVariables false
set_option linter.unusedSimpArgs false
namespace Go.Proofs.YtgpaekbdbpkogaaGreat
open Tryz
open Go Go.Sx Go.Num Go.Gsp Go.Lsp Go.Shp
set_option maxRecDepth 20000
theorem take_s {α : Type} {l : List α} {z : α} {k : Nat} (h : k < l.length) : l.take (k + 1) = l.take k ++ [l.getD k z] := by
  rw [List.take_add_one]
  simp [List.getD, h]
theorem of_T {cs : List Cnd} {q : Int} {k : Nat} (h : k < cs.length) (e : (cs.getD k noCnd).fr = q) : ofC (cs.take (k + 1)) q = ofC (cs.take k) q ++ [cs.getD k noCnd] := by
  unfold ofC
  rw [take_s (z := noCnd) h, List.filter_append, List.filter_cons, if_pos (by simpa using e)]
  rfl
theorem of_F {cs : List Cnd} {q : Int} {k : Nat} (h : k < cs.length) (e : ¬ (cs.getD k noCnd).fr = q) : ofC (cs.take (k + 1)) q = ofC (cs.take k) q := by
  unfold ofC
  rw [take_s (z := noCnd) h, List.filter_append, List.filter_cons, if_neg (by simpa using e)]
  simp
theorem sum1 (c : Cnd) : sumC [c] = c.am := by simp [sumC]
theorem rs_part {amt op : Int} {s : Sta} (h : RightS amt op s) (k : Nat) : (0 <= sumC (s.cs.take k) /\ sumC (s.cs.take k) <= 1125899906842624) /\ ∀ q, 0 <= sumC (ofC (s.cs.take k) q) /\ sumC (ofC (s.cs.take k) q) <= sumC (s.cs.take k) := by
  have h1 := h.am1
  have ht : ∀ c ∈ s.cs.take k, 1 <= c.am := fun c hc => h1 c (List.mem_of_mem_take hc)
  have hd := sumC_nn (l := s.cs.drop k) fun c hc => h1 c (List.mem_of_mem_drop hc)
  have hs : sumC s.cs = sumC (s.cs.take k) + sumC (s.cs.drop k) := by rw [<- sumC_app, List.take_append_drop]
  have := h.tot
  have := h.top
  have := h.h0_
  have := h.h1_
  exact ⟨⟨sumC_nn ht, by omega⟩, fun q => of_le ht q⟩
theorem rs_part1 {amt op : Int} {s : Sta} (h : RightS amt op s) {k : Nat} (hk : k < s.cs.length) : sumC (s.cs.take (k + 1)) = sumC (s.cs.take k) + (s.cs.getD k noCnd).am /\ FineC (s.cs.getD k noCnd) := ⟨by rw [take_s (z := noCnd) hk, sumC_app, sum1], h.fine _ (getD_inS hk)⟩
theorem of_len (cs : List Cnd) (q : Int) (k : Nat) : (ofC (cs.take k) q).length <= k := by
  have := List.length_filter_le (fun c : Cnd => decide (c.fr = q)) (cs.take k)
  unfold ofC
  rw [List.length_take] at this
  omega
theorem ord_at {l : List Cnd} (h : l.Pairwise ltC) {i j : Nat} (hij : i < j) (hj : j < l.length) : ltC (l.getD i noCnd) (l.getD j noCnd) := by
  rw [List.pairwise_iff_getElem] at h
  have := h i j (by omega) hj hij
  simpa [List.getD, hj, show i < l.length by omega] using this
theorem of_all (cs : List Cnd) (q : Int) : (ofC cs q).length <= cs.length := List.length_filter_le _ _
theorem rs_all {amt op : Int} {s : Sta} (h : RightS amt op s) (q : Int) : 0 <= sumC (ofC s.cs q) /\ sumC (ofC s.cs q) <= 1125899906842624 := by
  have := (rs_part h s.cs.length)
  rw [List.take_length] at this
  exact ⟨(this.2 q).1, Int.le_trans (this.2 q).2 this.1.2⟩
def idxG {α : Type} (pr : α -> Bool) (xs : List α) : Int := if xs.any pr then (xs.findIdx pr : Int) else -1
theorem idxG_at {α : Type} {z : α} {pr : α -> Bool} {xs : List α} {k : Nat} (hk : k < xs.length) (hb : ∀ j, j < k -> ¬ pr (xs.getD j z) = true) (h : pr (xs.getD k z) = true) : idxG pr xs = (k : Int) := by
  have hx : xs.getD k z = xs[k] := by simp [List.getD, hk]
  have : xs.findIdx pr = k := by
    rw [List.findIdx_eq hk]
    exact ⟨by rw [<- hx]; exact h, fun j hj => by have := hb j hj; simpa [List.getD, show j < xs.length by omega] using this⟩
  rw [idxG, if_pos (by rw [List.any_eq_true]; exact ⟨xs[k], List.getElem_mem hk, by rw [<- hx]; exact h⟩), this]
theorem idxG_no {α : Type} {z : α} {pr : α -> Bool} {xs : List α} {k : Nat} (hk : xs.length <= k) (hb : ∀ j, j < k -> ¬ pr (xs.getD j z) = true) : -1 = idxG pr xs := by
  rw [idxG, if_neg]
  rw [List.any_eq_true]
  rintro ⟨y, hy, hp⟩
  obtain ⟨j, hj, rfl⟩ := List.mem_iff_getElem.1 hy
  exact hb j (by omega) (by simpa [List.getD, hj] using hp)
theorem idxG_find {α : Type} (z : α) (pr : α -> Bool) (xs : List α) : (idxG pr xs < 0 -> xs.find? pr = none /\ idxG pr xs = -1) /\ (0 <= idxG pr xs -> (idxG pr xs).toNat < xs.length /\ xs.find? pr = some (xs.getD (idxG pr xs).toNat z)) := by
  unfold idxG
  by_cases h : xs.any pr = true
  · rw [if_pos h]
    have hl : xs.findIdx pr < xs.length := List.findIdx_lt_length_of_exists (by simpa using h)
    refine ⟨fun q => by omega, fun _ => ⟨by simpa using hl, ?_⟩⟩
    rw [List.find?_eq_getElem?_findIdx]
    simp [List.getD, hl]
  · rw [if_neg h]
    refine ⟨fun _ => ⟨List.find?_eq_none.2 fun x hx hp => h (List.any_eq_true.2 ⟨x, hx, hp⟩), rfl⟩, fun q => by omega⟩
def freeC (op : Int) (s : Sta) (i : Int) : Int := if i = op then s.h i - costN s.rt s.cs.length else s.h i
theorem h_0 (s : Sta) {i : Int} (h : i = 0) : s.h i = s.h0 := by unfold Sta.h; rw [if_pos h]
theorem h_1 (s : Sta) {i : Int} (h : ¬ i = 0) : s.h i = s.h1 := by unfold Sta.h; rw [if_neg h]
theorem soffered_ok (to : Int) {s : Sta} {amt op : Int} {A : Option Addr} {n c : Nat} (w : World) (hC : Vec w condV 5 A n s.cs) (hr : RightS amt op s) (hto : 0 <= to /\ to <= 1) : Calls prog 41 #[.agg #[.int .i64 (s.no), .int .i64 (s.h0), .int .i64 (s.h1), .slice A n c, .int .i64 (s.rt)], .int .i64 (to)] w fun r w' => r = .returned (.tuple #[.int .i64 (((ofC s.cs (1 - to)).length : Nat) : Int), .int .i64 (sumC (ofC s.cs (1 - to)))]) /\ Le w w' := by
 have hl := hC.1; have hlen := hr.len
 refine enter func41 rfl rfl ?_
 have L0 := Le.refl w
 refine WC.sr (W.ef rfl rfl rfl ?_)
 refine Ef.boxA rfl ?_
 intro g0_0 w0_0 hg0_0 b0_0 h0_0
 have L1 := L0.trans h0_0
 have b0_0 : Blk w0_0 g0_0 51 #[.int .i64 (s.no), .int .i64 (s.h0), .int .i64 (s.h1), .slice A n c, .int .i64 (s.rt)] := b0_0
 refine W.run 2 rfl (W.nx (WC.sr (W.run 2 rfl (W.nx (WC.seq (WC.sr ?_))))))
 refine W.a (.field0 fa51_2 rfl) ?_
 refine W.r (.loadB (v := .slice A n c) na49 rfl b0_0 rfl) ?_
 refine W.r (.len underlying49 rfl) ?_
 refine W.run 1 rfl (W.nx (WC.block ?_))
 refine WC.loop (ι := Nat) (fun k => [(1, .int .i64 (to)), (6, .int .i64 ((((ofC (s.cs.take k) (1 - to)).length : Nat) : Int))), (7, .int .i64 (sumC (ofC (s.cs.take k) (1 - to)))), (11, .slice A n c), (12, .int .i64 (((n : Nat) : Int))), (13, .int .i64 (((k : Nat) : Int)))]) (fun k wl0 => (k <= n) /\ Le w wl0 /\ w0_0.heap.size <= wl0.heap.size) (fun k => n - k) 0 ?_ ?_ ?_
 ·exact .cons rfl (.cons rfl (.cons rfl (.cons rfl (.cons rfl (.cons rfl (.nil _))))))
 ·exact ⟨Nat.zero_le _, L1, Nat.le_refl _⟩
 rintro k wl0 ⟨hk, Ll0, zl0⟩
 have hpk := rs_part hr k; have hpq := hpk.2 (1 - to); have hol := of_len s.cs (1 - to) k
 refine WC.sr (W.run 1 rfl (W.nx (WC.seq ?_)))
 by_cases c0 : ((k : Nat) : Int) < ((n : Nat) : Int)
 ·refine WC.condY rfl (decide_eq_true c0) ?_
  have hp1 := rs_part1 hr (k := k) (by omega)
  have hpn := rs_part hr (k + 1)
  have ham := hp1.2.2.2.1
  refine WC.sn (WC.seq (WC.block (WC.sr ?_)))
  refine W.a (.idxS (k) underlying49 sz66 rfl rfl (hC.isSome condV_row (by omega)) (rfl) (by omega)) ?_
  refine W.r (.vload ag66 rfl (hC.le Ll0) condV_row (getS s.cs noCnd (by first | omega | (simp only [List.length_cons, List.length_nil]; omega)))) ?_
  refine W.ef rfl rfl rfl ?_
  refine Ef.allocA z66 ?_
  intro g4_2 w4_2 hg4_2 b4_2 h4_2
  have L2 := Ll0.trans h4_2
  have b4_2 : Blk w4_2 g4_2 66 (condV noCnd).toArray := b4_2
  refine W.ef0 rfl rfl ?_
  refine Ef.storeAll sz66 (by rfl) rfl rfl b4_2 (by simp only [List.size_toArray, condV_row.len]) (condV_row.one (s.cs.getD k noCnd)) ?_
  intro w4_3 b4_3 h4_3
  have b4_3 : Blk w4_3 g4_2 66 (condV (s.cs.getD k noCnd)).toArray := b4_3
  have L3 := L2.tb h4_3 Ll0 hg4_2
  refine W.nx (WC.sr ?_)
  refine W.a (.field0 fa66_0 rfl) ?_
  refine W.r (.loadB (v := .int .i64 ((s.cs.getD k noCnd).fr)) na3 rfl b4_3 rfl) ?_
  refine W.run 1 rfl ?_
  refine W.a (.sub rfl rfl (by omega)) ?_
  refine W.run 1 rfl (W.nx ?_)
  by_cases c1 : ((s.cs.getD k noCnd).fr) = (1 - to)
  ·refine WC.condY rfl (decide_eq_true c1) ?_
   refine WC.draw [0, 1, 2, 3, 4, 5, 6, 7] mixed (by kernel_rfl) ?_
   intro w6 d6
   have L4 := L3.trans d6
   refine G.run 1 rfl ?_
   refine G.a rfl (.add rfl rfl (by omega)) ?_
   refine G.run 1 rfl ?_
   refine G.a rfl (.field0 fa66_2 rfl) ?_
   have f5 := (b4_3.le d6)
   refine G.r rfl (.loadB (v := .int .i64 ((s.cs.getD k noCnd).am)) na3 rfl f5 rfl) ?_
   refine G.a rfl (.add rfl rfl (by omega)) ?_
   refine G.run 2 rfl (G.nil (E.blkN (E.thenN (WC.region ?_))))
   refine W.a (.add rfl rfl (by omega)) ?_
   refine W.run 1 rfl (W.nil ?_)
   refine E.again (k + 1) (.cons rfl (.cons' rfl (int_eq (by rw [of_T (by omega) (by omega)]; simp)) (.cons' rfl (int_eq (by rw [of_T (by omega) (by omega)]; rw [sumC_app, sum1])) (.cons rfl (.cons rfl (.cons rfl (.nil _))))))) ?_ ?_
   ·exact ⟨by omega, L4, by have := zl0; have := h4_2.size; have := h4_3.size; have := d6.size; omega⟩
   first | omega | (simp only []; omega)
  refine WC.condN rfl (decide_eq_false c1) ?_
  refine WC.skip (E.blkN (E.thenN (WC.region ?_)))
  refine W.a (.add rfl rfl (by omega)) ?_
  refine W.run 1 rfl (W.nil ?_)
  refine E.again (k + 1) (.cons rfl (.cons' rfl (int_eq (by rw [of_F (by omega) (by assumption)])) (.cons' rfl (int_eq (by rw [of_F (by omega) (by assumption)])) (.cons rfl (.cons rfl (.cons rfl (.nil _))))))) ?_ ?_
  ·exact ⟨by omega, L3, by have := zl0; have := h4_2.size; have := h4_3.size; omega⟩
  first | omega | (simp only []; omega)
 refine WC.condN rfl (decide_eq_false c0) ?_
 refine WC.exit (E.thenX (E.thenX (E.blkH (E.thenN (WC.sr (W.run 4 rfl (W.nx (WC.ret ?_))))))))
 refine E.retG2 rfl rfl rfl ?_
 have hkn : s.cs.take k = s.cs := List.take_of_length_le (by omega)
 exact ⟨by rw [hkn], Ll0⟩

theorem stotal_ok {s : Sta} {amt op : Int} {A : Option Addr} {n c : Nat} (w : World) (hC : Vec w condV 5 A n s.cs) (hr : RightS amt op s) : Calls prog 20 #[.agg #[.int .i64 (s.no), .int .i64 (s.h0), .int .i64 (s.h1), .slice A n c, .int .i64 (s.rt)]] w fun r w' => r = .returned (.int .i64 (s.h0 + s.h1 + sumC s.cs)) /\ Le w w' := by
 have hl := hC.1; have hlen := hr.len
 have hh0 := hr.h0_; have hh1 := hr.h1_
 refine enter func20 rfl rfl ?_
 have L0 := Le.refl w
 refine WC.sr (W.ef rfl rfl rfl ?_)
 refine Ef.boxA rfl ?_
 intro g0_0 w0_0 hg0_0 b0_0 h0_0
 have L1 := L0.trans h0_0
 have b0_0 : Blk w0_0 g0_0 51 #[.int .i64 (s.no), .int .i64 (s.h0), .int .i64 (s.h1), .slice A n c, .int .i64 (s.rt)] := b0_0
 refine W.run 1 rfl (W.nx (WC.sr ?_))
 refine W.a (.field0 fa51_1 rfl) ?_
 refine W.a (.idxAo (0) underlying48 sz3 rfl rfl (rfl) (by omega)) ?_
 refine W.r (.loadB (v := .int .i64 (s.h0)) na3 rfl b0_0 rfl) ?_
 refine W.a (.field0 fa51_1 rfl) ?_
 refine W.a (.idxAo (1) underlying48 sz3 rfl rfl (rfl) (by omega)) ?_
 refine W.r (.loadB (v := .int .i64 (s.h1)) na3 rfl b0_0 rfl) ?_
 refine W.a (.add rfl rfl (by omega)) ?_
 refine W.run 1 rfl (W.nx (WC.seq (WC.sr ?_)))
 refine W.a (.field0 fa51_2 rfl) ?_
 refine W.r (.loadB (v := .slice A n c) na49 rfl b0_0 rfl) ?_
 refine W.r (.len underlying49 rfl) ?_
 refine W.run 1 rfl (W.nx (WC.block ?_))
 refine WC.loop (ι := Nat) (fun k => [(3, .int .i64 (s.h0 + s.h1 + sumC (s.cs.take k))), (14, .slice A n c), (15, .int .i64 (((n : Nat) : Int))), (16, .int .i64 (((k : Nat) : Int)))]) (fun k wl0 => (k <= n) /\ Le w wl0 /\ w0_0.heap.size <= wl0.heap.size) (fun k => n - k) 0 ?_ ?_ ?_
 ·exact .cons' rfl (int_eq (by simp [sumC])) (.cons rfl (.cons rfl (.cons rfl (.nil _))))
 ·exact ⟨Nat.zero_le _, L1, Nat.le_refl _⟩
 rintro k wl0 ⟨hk, Ll0, zl0⟩
 have hpk := rs_part hr k
 refine WC.sr (W.run 1 rfl (W.nx (WC.seq ?_)))
 by_cases c0 : ((k : Nat) : Int) < ((n : Nat) : Int)
 ·refine WC.condY rfl (decide_eq_true c0) ?_
  have hp1 := rs_part1 hr (k := k) (by omega)
  have hpn := rs_part hr (k + 1)
  have ham := hp1.2.2.2.1
  refine WC.sn (WC.seq (WC.block (WC.sr ?_)))
  refine W.a (.idxS (k) underlying49 sz66 rfl rfl (hC.isSome condV_row (by omega)) (rfl) (by omega)) ?_
  refine W.r (.vload ag66 rfl (hC.le Ll0) condV_row (getS s.cs noCnd (by first | omega | (simp only [List.length_cons, List.length_nil]; omega)))) ?_
  refine W.ef rfl rfl rfl ?_
  refine Ef.allocA z66 ?_
  intro g4_2 w4_2 hg4_2 b4_2 h4_2
  have L2 := Ll0.trans h4_2
  have b4_2 : Blk w4_2 g4_2 66 (condV noCnd).toArray := b4_2
  refine W.ef0 rfl rfl ?_
  refine Ef.storeAll sz66 (by rfl) rfl rfl b4_2 (by simp only [List.size_toArray, condV_row.len]) (condV_row.one (s.cs.getD k noCnd)) ?_
  intro w4_3 b4_3 h4_3
  have b4_3 : Blk w4_3 g4_2 66 (condV (s.cs.getD k noCnd)).toArray := b4_3
  have L3 := L2.tb h4_3 Ll0 hg4_2
  refine W.nx (WC.region (W.run 1 rfl ?_))
  refine W.a (.field0 fa66_2 rfl) ?_
  refine W.r (.loadB (v := .int .i64 ((s.cs.getD k noCnd).am)) na3 rfl b4_3 rfl) ?_
  refine W.a (.add rfl rfl (by omega)) ?_
  refine W.run 1 rfl (W.nil (E.blkN (E.thenN (WC.region ?_))))
  refine W.a (.add rfl rfl (by omega)) ?_
  refine W.run 1 rfl (W.nil ?_)
  refine E.again (k + 1) (.cons' rfl (int_eq (by rw [hp1.1]; omega)) (.cons rfl (.cons rfl (.cons rfl (.nil _))))) ?_ ?_
  ·exact ⟨by omega, L3, by have := zl0; have := h4_2.size; have := h4_3.size; omega⟩
  first | omega | (simp only []; omega)
 refine WC.condN rfl (decide_eq_false c0) ?_
 refine WC.exit (E.thenX (E.thenX (E.blkH (E.thenN (WC.sr (W.run 2 rfl (W.nx (WC.ret ?_))))))))
 refine E.retG1 rfl rfl ?_
 have hkn : s.cs.take k = s.cs := List.take_of_length_le (by omega)
 exact ⟨by rw [hkn], Ll0⟩

theorem scost_ok (ch : Chn) {s : Sta} {A : Option Addr} {n c : Nat} (w : World) (hC : Vec w condV 5 A n s.cs) (hlen : s.cs.length <= 16) (hrt : 0 <= s.rt /\ s.rt <= 1000) : Calls prog 73 #[.agg (chnV ch).toArray, .agg #[.int .i64 (s.no), .int .i64 (s.h0), .int .i64 (s.h1), .slice A n c, .int .i64 (s.rt)]] w fun r w' => r = .returned (.int .i64 (costN s.rt s.cs.length)) /\ Le w w' := by
 have hl := hC.1
 have hmul := mul_b hrt hlen
 rw [hl] at hmul hlen ⊢
 refine enter func73 rfl rfl ?_
 have L0 := Le.refl w
 refine WC.sr (W.ef rfl rfl rfl ?_)
 refine Ef.boxA rfl ?_
 intro g0_0 w0_0 hg0_0 b0_0 h0_0
 have L1 := L0.trans h0_0
 refine W.ef rfl rfl rfl ?_
 refine Ef.boxA rfl ?_
 intro g0_1 w0_1 hg0_1 b0_1 h0_1
 have L2 := L1.trans h0_1
 have b0_1 : Blk w0_1 g0_1 51 #[.int .i64 (s.no), .int .i64 (s.h0), .int .i64 (s.h1), .slice A n c, .int .i64 (s.rt)] := b0_1
 refine W.run 1 rfl (W.nx (WC.sr ?_))
 refine W.a (.field0 fa51_3 rfl) ?_
 refine W.r (.loadB (v := .int .i64 (s.rt)) na3 rfl b0_1 rfl) ?_
 refine W.a (.field0 fa51_2 rfl) ?_
 refine W.r (.loadB (v := .slice A n c) na49 rfl b0_1 rfl) ?_
 refine W.r (.len underlying49 rfl) ?_
 refine W.cl go100 rfl rfl (tfee_ok s.rt n (by omega) (by omega) w0_1) ?_
 rintro _ w1_5 ⟨rfl, h1_5⟩
 have L3 := L2.trans h1_5
 refine W.a (.add rfl rfl (by omega)) ?_
 refine W.run 1 rfl (W.nx (WC.ret ?_))
 refine E.retG1 rfl rfl ?_
 exact ⟨rfl, L3⟩

set_option maxHeartbeats 4000000 in
theorem sright_ok (ch : Chn) (hch : ChnOk ch) {s : Sta} {A : Option Addr} {n c : Nat} (w : World) (hC : Vec w condV 5 A n s.cs) (hr : RightS ch.am ch.op s) : Calls prog 39 #[.agg (chnV ch).toArray, .agg #[.int .i64 (s.no), .int .i64 (s.h0), .int .i64 (s.h1), .slice A n c, .int .i64 (s.rt)]] w fun r w' => r = .returned (.bool true) /\ Le w w' := by
 have hl := hC.1; have hlen := hr.len
 have hno := hr.no_; have hh0 := hr.h0_; have hh1 := hr.h1_; have hrt := hr.rt_; have hop := hch.op; have htot := hr.tot
 refine enter func39 rfl rfl ?_
 have L0 := Le.refl w
 refine WC.sr (W.ef rfl rfl rfl ?_)
 refine Ef.boxA rfl ?_
 intro g0_0 w0_0 hg0_0 b0_0 h0_0
 have L1 := L0.trans h0_0
 have b0_0 : Blk w0_0 g0_0 43 (chnV ch).toArray := b0_0
 refine W.ef rfl rfl rfl ?_
 refine Ef.boxA rfl ?_
 intro g0_1 w0_1 hg0_1 b0_1 h0_1
 have L2 := L1.trans h0_1
 have b0_1 : Blk w0_1 g0_1 51 #[.int .i64 (s.no), .int .i64 (s.h0), .int .i64 (s.h1), .slice A n c, .int .i64 (s.rt)] := b0_1
 refine W.run 1 rfl (W.nx (WC.seq (WC.sr ?_)))
 have f3 := (b0_0.le h0_1)
 refine W.r (.loadAll ag43 (by rfl) rfl f3) ?_
 refine W.cl go71 rfl rfl (tfit_ok ch hch w0_1) ?_
 rintro _ w1_1 ⟨rfl, h1_1⟩
 have L4 := L2.trans h1_1
 refine W.a (.dec (.neq rfl rfl) (show _ = false from by first | decide | rfl)) ?_
 refine W.run 1 rfl ?_
 refine W.g (Any.rd (.field0 fa51_0 rfl) _) ?_
 have f5 := (b0_1.le h1_1)
 refine W.g (.loadB (v := .int .i64 (s.no)) na3 rfl f5 rfl) ?_
 refine W.efg rfl rfl rfl (rfl) rfl rfl ?_
 refine Ef.buildSliceV (len := 1) [_] underlying56 el3 rfl (by simp [Value.cells]) rfl (by decide) (by decide) ?_
 intro g1_6 w1_6 hg1_6 b1_6 h1_6
 have L6 := L4.trans h1_6
 have b1_6 : Blk w1_6 g1_6 3 (([s.no]).map iv).flatten.toArray := b1_6
 have o1_6 : OVec w1_6 w1_1.heap.size 3 iv 1 (some ⟨g1_6, 0, none⟩) 1 1 ([s.no]) := b1_6.ovec hg1_6 iv_row rfl rfl (by decide)
 refine W.efg rfl rfl rfl (rfl) rfl rfl ?_
 refine Ef.call go48 rfl rfl ((by have k := swithinc1_ok (c := 1) 0 1048576 w1_6 o1_6.vec; rw [inB_t (n := s.no) (lo := 0) (hi := 1048576) (by omega)] at k; exact k)) ?_
 rintro _ w1_7 ⟨rfl, h1_7⟩
 refine ⟨_, rfl, ?_⟩
 have L7 := L6.trans h1_7
 refine W.run 3 rfl ?_
 refine W.g (Any.rd (.field0 fa51_1 rfl) _) ?_
 refine W.g (Any.rd (.idxAo (0) underlying48 sz3 rfl rfl (rfl) (by omega)) _) ?_
 have f8 := (f5.le (h1_6.trans h1_7))
 refine W.g (.loadB (v := .int .i64 (s.h0)) na3 rfl f8 rfl) ?_
 refine W.g (Any.rd (.field0 fa51_1 rfl) _) ?_
 refine W.g (Any.rd (.idxAo (1) underlying48 sz3 rfl rfl (rfl) (by omega)) _) ?_
 refine W.g (.loadB (v := .int .i64 (s.h1)) na3 rfl f8 rfl) ?_
 refine W.efg rfl rfl rfl (rfl) rfl rfl ?_
 refine Ef.buildSliceV (len := 2) [_, _] underlying56 el3 rfl (by simp [Value.cells]) rfl (by decide) (by decide) ?_
 intro g1_17 w1_17 hg1_17 b1_17 h1_17
 have L9 := L7.trans h1_17
 have b1_17 : Blk w1_17 g1_17 3 (([s.h0, s.h1]).map iv).flatten.toArray := b1_17
 have o1_17 : OVec w1_17 w1_7.heap.size 3 iv 1 (some ⟨g1_17, 0, none⟩) 2 2 ([s.h0, s.h1]) := b1_17.ovec hg1_17 iv_row rfl rfl (by decide)
 refine W.efg rfl rfl rfl (rfl) rfl rfl ?_
 refine Ef.call go48 rfl rfl ((by have k := swithinc2_ok (c := 2) 0 1125899906842624 w1_17 o1_17.vec; rw [inB_t (n := s.h0) (lo := 0) (hi := 1125899906842624) (by omega), inB_t (n := s.h1) (lo := 0) (hi := 1125899906842624) (by omega)] at k; exact k)) ?_
 rintro _ w1_18 ⟨rfl, h1_18⟩
 refine ⟨_, rfl, ?_⟩
 have L10 := L9.trans h1_18
 refine W.run 3 rfl ?_
 refine W.g (Any.rd (.field0 fa51_3 rfl) _) ?_
 have f11 := (f8.le (h1_17.trans h1_18))
 refine W.g (.loadB (v := .int .i64 (s.rt)) na3 rfl f11 rfl) ?_
 refine W.efg rfl rfl rfl (rfl) rfl rfl ?_
 refine Ef.buildSliceV (len := 1) [_] underlying56 el3 rfl (by simp [Value.cells]) rfl (by decide) (by decide) ?_
 intro g1_24 w1_24 hg1_24 b1_24 h1_24
 have L12 := L10.trans h1_24
 have b1_24 : Blk w1_24 g1_24 3 (([s.rt]).map iv).flatten.toArray := b1_24
 have o1_24 : OVec w1_24 w1_18.heap.size 3 iv 1 (some ⟨g1_24, 0, none⟩) 1 1 ([s.rt]) := b1_24.ovec hg1_24 iv_row rfl rfl (by decide)
 refine W.efg rfl rfl rfl (rfl) rfl rfl ?_
 refine Ef.call go48 rfl rfl ((by have k := swithinc1_ok (c := 1) 0 1000 w1_24 o1_24.vec; rw [inB_t (n := s.rt) (lo := 0) (hi := 1000) (by omega)] at k; exact k)) ?_
 rintro _ w1_25 ⟨rfl, h1_25⟩
 refine ⟨_, rfl, ?_⟩
 have L13 := L12.trans h1_25
 refine W.run 3 rfl ?_
 refine W.g (Any.rd (.field0 fa51_2 rfl) _) ?_
 have f14 := (f11.le (h1_24.trans h1_25))
 refine W.g (.loadB (v := .slice A n c) na49 rfl f14 rfl) ?_
 refine W.g (.len underlying49 rfl) ?_
 refine W.run 2 rfl (W.nx ?_)
 by_cases c0 : 16 < ((n : Nat) : Int)
 ·refine WC.condY rfl (decide_eq_true c0) ?_
  refine WC.sr (W.run 1 rfl (W.nx (WC.ret (E.thenR ?_))))
  refine E.retG1 rfl rfl ?_
  exfalso; omega
 refine WC.condN rfl (decide_eq_false c0) ?_
 refine WC.sn (WC.seq (WC.sr ?_))
 refine W.a (.field0 fa51_2 rfl) ?_
 refine W.r (.loadB (v := .slice A n c) na49 rfl f14 rfl) ?_
 refine W.r (.len underlying49 rfl) ?_
 refine W.run 1 rfl (W.nx (WC.block ?_))
 have f15 := (f3.le (h1_1.trans (h1_6.trans (h1_7.trans (h1_17.trans (h1_18.trans (h1_24.trans h1_25)))))))
 refine WC.loop (ι := Nat) (fun k => [(2, .pointer (some ⟨g0_0, 0, none⟩)), (3, .pointer (some ⟨g0_1, 0, none⟩)), (46, .slice A n c), (47, .int .i64 (((n : Nat) : Int))), (48, .int .i64 (((k : Nat) : Int)))]) (fun k wl0 => (k <= n) /\ Le w wl0 /\ w1_25.heap.size <= wl0.heap.size /\ Blk wl0 g0_0 43 (chnV ch).toArray /\ Blk wl0 g0_1 51 #[.int .i64 (s.no), .int .i64 (s.h0), .int .i64 (s.h1), .slice A n c, .int .i64 (s.rt)]) (fun k => n - k) 0 ?_ ?_ ?_
 ·exact .cons rfl (.cons rfl (.cons rfl (.cons rfl (.cons rfl (.nil _)))))
 ·exact ⟨Nat.zero_le _, L13, Nat.le_refl _, f15, f14⟩
 rintro k wl0 ⟨hk, Ll0, zl0, f0_0, f0_1⟩
 refine WC.sr (W.run 1 rfl (W.nx (WC.seq ?_)))
 by_cases c1 : ((k : Nat) : Int) < ((n : Nat) : Int)
 ·refine WC.condY rfl (decide_eq_true c1) ?_
  have hfi := (rs_part1 hr (k := k) (by omega)).2
  have hfr := hfi.1
  have ham := hfi.2.2.1.1
  refine WC.sn (WC.seq (WC.block (WC.sr (W.run 1 rfl ?_))))
  refine W.a (.idxS (k) underlying49 sz66 rfl rfl (hC.isSome condV_row (by omega)) (rfl) (by omega)) ?_
  by_cases qc5_2 : (s.cs.getD k noCnd).fr = 0
  ·refine W.r (.vload ag66 rfl (hC.le Ll0) condV_row (getS s.cs noCnd (by first | omega | (simp only [List.length_cons, List.length_nil]; omega)))) ?_
   refine W.ef rfl rfl rfl ?_
   refine Ef.allocA z66 ?_
   intro g5_3 w5_3 hg5_3 b5_3 h5_3
   have L16 := Ll0.trans h5_3
   have b5_3 : Blk w5_3 g5_3 66 (condV noCnd).toArray := b5_3
   refine W.run 1 rfl ?_
   refine W.ef0 rfl rfl ?_
   refine Ef.storeAll sz66 (by rfl) rfl rfl b5_3 (by simp only [List.size_toArray, condV_row.len]) (condV_row.one (s.cs.getD k noCnd)) ?_
   intro w5_5 b5_5 h5_5
   have b5_5 : Blk w5_5 g5_3 66 (condV (s.cs.getD k noCnd)).toArray := b5_5
   have L17 := L16.tb h5_5 Ll0 hg5_3
   refine W.nx (WC.seq ?_)
   refine WC.draw [0, 1, 2, 3, 4, 5, 6, 7, 8, 9, 10, 11, 12, 13, 14, 15, 16, 17, 18, 19, 20, 21, 22, 23, 24, 25, 26, 27, 28, 29] mixed (by kernel_rfl) ?_
   intro w6 d6
   have L18 := L17.trans d6
   have f19 := (b5_5.le d6)
   refine G.r rfl (.loadAll ag66 (by rfl) rfl f19) ?_
   refine G.ef rfl rfl rfl rfl rfl ?_
   refine Ef.call go40 rfl rfl (sfine_ok (s.cs.getD k noCnd) hfi w6) ?_
   rintro _ w6_1 ⟨rfl, h6_1⟩
   refine ⟨_, rfl, ?_⟩
   refine ⟨fun _ => h6_1, ?_⟩
   have L20 := L18.trans h6_1
   refine G.run 2 rfl ?_
   refine G.ag rfl (.field0 fa66_2 rfl) ?_
   have f21 := (f19.le h6_1)
   refine G.rg rfl (.loadB (v := .int .i64 ((s.cs.getD k noCnd).am)) na3 rfl f21 rfl) ?_
   refine G.ag rfl (.field0 fa66_0 rfl) ?_
   refine G.rg rfl (.loadB (v := .int .i64 ((s.cs.getD k noCnd).fr)) na3 rfl f21 rfl) ?_
   refine G.ag rfl (.sub rfl rfl (by omega)) ?_
   refine G.ag rfl (.field0 fa43_3 rfl) ?_
   refine G.ag rfl (.idxA (1) underlying41 sz40 rfl rfl (by omega) (by omega)) ?_
   refine G.ag rfl (.field2 fa40_4 rfl) ?_
   have f22 := (((f0_0.le h5_3).ch h5_5 (fun h => (show g5_3 ≠ g0_0 from by have := f0_0.lt; omega) (oI h))).le (d6.trans h6_1))
   refine G.rg rfl (.loadB (v := .int .i64 (1)) na3 rfl f22 rfl) ?_
   refine G.ag rfl (.dec (.lss rfl rfl) (dF (by omega))) ?_
   refine G.run 4 rfl ?_
   by_cases q6_18 : 0 < ((k : Nat) : Int)
   ·refine G.ag rfl (.dec (.move rfl) (decide_eq_true q6_18)) ?_
    refine G.ag rfl (.field0 fa51_2 rfl) ?_
    have f23 := (((f0_1.le h5_3).ch h5_5 (fun h => (show g5_3 ≠ g0_1 from by have := f0_1.lt; omega) (oI h))).le (d6.trans h6_1))
    refine G.rg rfl (.loadB (v := .slice A n c) na49 rfl f23 rfl) ?_
    refine G.run 1 rfl ?_
    refine G.ag rfl (.sub rfl rfl (by omega)) ?_
    refine G.ag rfl (.idxS ((k - 1)) underlying49 sz66 rfl rfl (hC.isSome condV_row (by omega)) (by omega) (by omega)) ?_
    refine G.rg rfl (.vload ag66 rfl (hC.le L20) condV_row (getS s.cs noCnd (by first | omega | (simp only [List.length_cons, List.length_nil]; omega)))) ?_
    refine G.rg rfl (.loadAll ag66 (by rfl) rfl f21) ?_
    refine G.efg rfl rfl rfl rfl rfl (rfl) rfl rfl ?_
    refine Ef.call go72 rfl rfl (sahead_ok (s.cs.getD (k - 1) noCnd) (s.cs.getD k noCnd) w6_1) ?_
    rintro _ w6_26 ⟨rfl, h6_26⟩
    refine ⟨_, rfl, ?_⟩
    refine ⟨fun _ => h6_26, ?_⟩
    have L24 := L20.trans h6_26
    refine G.ag rfl (.dec (.geq rfl rfl) (dF (by have := ahead_lt.2 (ord_at hr.ord (i := k - 1) (j := k) (by omega) (by omega)); omega))) ?_
    refine G.ag rfl (.pickT rfl rfl rfl) ?_
    refine G.run 1 rfl (G.nil (E.thenN (WC.condF rfl (WC.skip (E.blkN (E.thenN (WC.region ?_)))))))
    refine W.a (.add rfl rfl (by omega)) ?_
    refine W.run 1 rfl (W.nil ?_)
    have f25 := (f22.le h6_26)
    have f26 := (f23.le h6_26)
    refine E.again (k + 1) (.cons rfl (.cons rfl (.cons rfl (.cons rfl (.cons rfl (.nil _)))))) ?_ ?_
    ·exact ⟨by omega, L24, by have := zl0; have := h5_3.size; have := h5_5.size; have := d6.size; have := h6_1.size; have := h6_26.size; omega, f25, f26⟩
    first | omega | (simp only []; omega)
   refine G.ag rfl (.dec (.move rfl) (decide_eq_false q6_18)) ?_
   refine G.run 9 rfl ?_
   refine G.ag rfl (.pickF rfl rfl rfl) ?_
   refine G.run 1 rfl (G.nil (E.thenN (WC.condF rfl (WC.skip (E.blkN (E.thenN (WC.region ?_)))))))
   refine W.a (.add rfl rfl (by omega)) ?_
   refine W.run 1 rfl (W.nil ?_)
   have f27 := (((f0_1.le h5_3).ch h5_5 (fun h => (show g5_3 ≠ g0_1 from by have := f0_1.lt; omega) (oI h))).le (d6.trans h6_1))
   refine E.again (k + 1) (.cons rfl (.cons rfl (.cons rfl (.cons rfl (.cons rfl (.nil _)))))) ?_ ?_
   ·exact ⟨by omega, L20, by have := zl0; have := h5_3.size; have := h5_5.size; have := d6.size; have := h6_1.size; omega, f22, f27⟩
   first | omega | (simp only []; omega)
  refine W.r (.vload ag66 rfl (hC.le Ll0) condV_row (getS s.cs noCnd (by first | omega | (simp only [List.length_cons, List.length_nil]; omega)))) ?_
  refine W.ef rfl rfl rfl ?_
  refine Ef.allocA z66 ?_
  intro g5_3_1 w5_3_1 hg5_3_1 b5_3_1 h5_3_1
  have L28 := Ll0.trans h5_3_1
  have b5_3_1 : Blk w5_3_1 g5_3_1 66 (condV noCnd).toArray := b5_3_1
  refine W.run 1 rfl ?_
  refine W.ef0 rfl rfl ?_
  refine Ef.storeAll sz66 (by rfl) rfl rfl b5_3_1 (by simp only [List.size_toArray, condV_row.len]) (condV_row.one (s.cs.getD k noCnd)) ?_
  intro w5_5_1 b5_5_1 h5_5_1
  have b5_5_1 : Blk w5_5_1 g5_3_1 66 (condV (s.cs.getD k noCnd)).toArray := b5_5_1
  have L29 := L28.tb h5_5_1 Ll0 hg5_3_1
  refine W.nx (WC.seq ?_)
  refine WC.draw [0, 1, 2, 3, 4, 5, 6, 7, 8, 9, 10, 11, 12, 13, 14, 15, 16, 17, 18, 19, 20, 21, 22, 23, 24, 25, 26, 27, 28, 29] mixed (by kernel_rfl) ?_
  intro w6 d6
  have L30 := L29.trans d6
  have f31 := (b5_5_1.le d6)
  refine G.r rfl (.loadAll ag66 (by rfl) rfl f31) ?_
  refine G.ef rfl rfl rfl rfl rfl ?_
  refine Ef.call go40 rfl rfl (sfine_ok (s.cs.getD k noCnd) hfi w6) ?_
  rintro _ w6_1_1 ⟨rfl, h6_1_1⟩
  refine ⟨_, rfl, ?_⟩
  refine ⟨fun _ => h6_1_1, ?_⟩
  have L32 := L30.trans h6_1_1
  refine G.run 2 rfl ?_
  refine G.ag rfl (.field0 fa66_2 rfl) ?_
  have f33 := (f31.le h6_1_1)
  refine G.rg rfl (.loadB (v := .int .i64 ((s.cs.getD k noCnd).am)) na3 rfl f33 rfl) ?_
  refine G.ag rfl (.field0 fa66_0 rfl) ?_
  refine G.rg rfl (.loadB (v := .int .i64 ((s.cs.getD k noCnd).fr)) na3 rfl f33 rfl) ?_
  refine G.ag rfl (.sub rfl rfl (by omega)) ?_
  refine G.ag rfl (.field0 fa43_3 rfl) ?_
  refine G.ag rfl (.idxA (0) underlying41 sz40 rfl rfl (by omega) (by omega)) ?_
  refine G.ag rfl (.field2 fa40_4 rfl) ?_
  have f34 := (((f0_0.le h5_3_1).ch h5_5_1 (fun h => (show g5_3_1 ≠ g0_0 from by have := f0_0.lt; omega) (oI h))).le (d6.trans h6_1_1))
  refine G.rg rfl (.loadB (v := .int .i64 (1)) na3 rfl f34 rfl) ?_
  refine G.ag rfl (.dec (.lss rfl rfl) (dF (by omega))) ?_
  refine G.run 4 rfl ?_
  by_cases q6_18 : 0 < ((k : Nat) : Int)
  ·refine G.ag rfl (.dec (.move rfl) (decide_eq_true q6_18)) ?_
   refine G.ag rfl (.field0 fa51_2 rfl) ?_
   have f35 := (((f0_1.le h5_3_1).ch h5_5_1 (fun h => (show g5_3_1 ≠ g0_1 from by have := f0_1.lt; omega) (oI h))).le (d6.trans h6_1_1))
   refine G.rg rfl (.loadB (v := .slice A n c) na49 rfl f35 rfl) ?_
   refine G.run 1 rfl ?_
   refine G.ag rfl (.sub rfl rfl (by omega)) ?_
   refine G.ag rfl (.idxS ((k - 1)) underlying49 sz66 rfl rfl (hC.isSome condV_row (by omega)) (by omega) (by omega)) ?_
   refine G.rg rfl (.vload ag66 rfl (hC.le L32) condV_row (getS s.cs noCnd (by first | omega | (simp only [List.length_cons, List.length_nil]; omega)))) ?_
   refine G.rg rfl (.loadAll ag66 (by rfl) rfl f33) ?_
   refine G.efg rfl rfl rfl rfl rfl (rfl) rfl rfl ?_
   refine Ef.call go72 rfl rfl (sahead_ok (s.cs.getD (k - 1) noCnd) (s.cs.getD k noCnd) w6_1_1) ?_
   rintro _ w6_26_1 ⟨rfl, h6_26_1⟩
   refine ⟨_, rfl, ?_⟩
   refine ⟨fun _ => h6_26_1, ?_⟩
   have L36 := L32.trans h6_26_1
   refine G.ag rfl (.dec (.geq rfl rfl) (dF (by have := ahead_lt.2 (ord_at hr.ord (i := k - 1) (j := k) (by omega) (by omega)); omega))) ?_
   refine G.ag rfl (.pickT rfl rfl rfl) ?_
   refine G.run 1 rfl (G.nil (E.thenN (WC.condF rfl (WC.skip (E.blkN (E.thenN (WC.region ?_)))))))
   refine W.a (.add rfl rfl (by omega)) ?_
   refine W.run 1 rfl (W.nil ?_)
   have f37 := (f34.le h6_26_1)
   have f38 := (f35.le h6_26_1)
   refine E.again (k + 1) (.cons rfl (.cons rfl (.cons rfl (.cons rfl (.cons rfl (.nil _)))))) ?_ ?_
   ·exact ⟨by omega, L36, by have := zl0; have := h5_3_1.size; have := h5_5_1.size; have := d6.size; have := h6_1_1.size; have := h6_26_1.size; omega, f37, f38⟩
   first | omega | (simp only []; omega)
  refine G.ag rfl (.dec (.move rfl) (decide_eq_false q6_18)) ?_
  refine G.run 9 rfl ?_
  refine G.ag rfl (.pickF rfl rfl rfl) ?_
  refine G.run 1 rfl (G.nil (E.thenN (WC.condF rfl (WC.skip (E.blkN (E.thenN (WC.region ?_)))))))
  refine W.a (.add rfl rfl (by omega)) ?_
  refine W.run 1 rfl (W.nil ?_)
  have f39 := (((f0_1.le h5_3_1).ch h5_5_1 (fun h => (show g5_3_1 ≠ g0_1 from by have := f0_1.lt; omega) (oI h))).le (d6.trans h6_1_1))
  refine E.again (k + 1) (.cons rfl (.cons rfl (.cons rfl (.cons rfl (.cons rfl (.nil _)))))) ?_ ?_
  ·exact ⟨by omega, L32, by have := zl0; have := h5_3_1.size; have := h5_5_1.size; have := d6.size; have := h6_1_1.size; omega, f34, f39⟩
  first | omega | (simp only []; omega)
 refine WC.condN rfl (decide_eq_false c1) ?_
 refine WC.exit (E.thenX (E.thenX (E.blkH (E.thenN (WC.seq (WC.sr ?_))))))
 refine W.a (.field0 fa43_3 rfl) ?_
 by_cases qc9_1 : ch.op = 0
 ·refine W.r (.bpart [.int .i64 (100), .int .i64 (200), .int .i64 (5), .int .i64 (16), .int .i64 (1), .int .i64 (1125899906842624), .int .i64 (100), .int .i64 (200), .int .i64 (6), .int .i64 (16), .int .i64 (1), .int .i64 (1125899906842624)] ag41 rfl (by decide) rfl f0_0 rfl) ?_
  refine W.run 1 rfl (W.nx (WC.block ?_))
  refine WC.rounds 3 ?_
  refine RCn.step ?_
  refine WC.sr ?_
  refine W.a (.dec (.lss rfl rfl) (show _ = true from by first | decide | rfl)) ?_
  refine W.nx (WC.seq (WC.condT rfl (WC.sn (WC.seq (WC.block (WC.sr (W.run 1 rfl ?_)))))))
  refine W.a (.indexS (0) [.int .i64 (100), .int .i64 (200), .int .i64 (5), .int .i64 (16), .int .i64 (1), .int .i64 (1125899906842624)] underlying41 sz40 ag40 rfl rfl (rfl) (by omega) rfl) ?_
  refine W.ef rfl rfl rfl ?_
  refine Ef.allocA z40 ?_
  intro g11_2 w11_2 hg11_2 b11_2 h11_2
  have L40 := Ll0.trans h11_2
  have b11_2 : Blk w11_2 g11_2 40 #[.int .i64 (0), .int .i64 (0), .int .i64 (0), .int .i64 (0), .int .i64 (0), .int .i64 (0)] := b11_2
  refine W.run 1 rfl ?_
  refine W.sA sz40 rfl rfl b11_2 ?_
  intro w11_4 b11_4 h11_4
  have b11_4 : Blk w11_4 g11_2 40 #[.int .i64 (100), .int .i64 (200), .int .i64 (5), .int .i64 (16), .int .i64 (1), .int .i64 (1125899906842624)] := b11_4
  have L41 := L40.tb h11_4 Ll0 hg11_2
  refine W.nx (WC.sr ?_)
  have f42 := ((f0_1.le h11_2).ch h11_4 (fun h => (show g11_2 ≠ g0_1 from by have := f0_1.lt; omega) (oI h)))
  refine W.r (.loadAll ag51 (by rfl) rfl f42) ?_
  refine W.run 1 rfl ?_
  refine W.cl go41 rfl rfl (soffered_ok (c := c) 0 w11_4 (hC.le L41) hr (by omega)) ?_
  rintro _ w12_2 ⟨rfl, h12_2⟩
  have L43 := L41.trans h12_2
  refine W.run 5 rfl (W.nx (WC.sr ?_))
  have ho0 := of_all s.cs (1 - 0); have ho1 := of_all s.cs (1 - 1); have hs0 := rs_all hr (1 - 0); have hs1 := rs_all hr (1 - 1)
  refine W.run 1 rfl ?_
  refine W.a (.field0 fa40_3 rfl) ?_
  have f44 := (b11_4.le h12_2)
  refine W.r (.loadB (v := .int .i64 (16)) na3 rfl f44 rfl) ?_
  refine W.run 1 rfl ?_
  by_cases q13_4 : 16 < (((ofC s.cs (1 - 0)).length : Nat) : Int)
  ·refine W.dt q13_4 rfl rfl (W.run 5 rfl (W.nx (WC.condT rfl (WC.sr (W.run 1 rfl (W.nx (WC.ret (E.blkR (E.thenR (E.thenR (E.blkR (E.thenR ?_))))))))))))
   refine E.retG1 rfl rfl ?_
   exfalso; omega
  refine W.df q13_4 rfl rfl (W.run 1 rfl ?_)
  refine W.g (Any.rd (.field0 fa40_5 rfl) _) ?_
  refine W.g (.loadB (v := .int .i64 (1125899906842624)) na3 rfl f44 rfl) ?_
  refine W.run 2 rfl (W.nx ?_)
  by_cases c4 : 1125899906842624 < (sumC (ofC s.cs (1 - 0)))
  ·refine WC.condY rfl (decide_eq_true c4) ?_
   refine WC.sr (W.run 1 rfl (W.nx (WC.ret (E.blkR (E.thenR (E.thenR (E.blkR (E.thenR ?_))))))))
   refine E.retG1 rfl rfl ?_
   exfalso; omega
  refine WC.condN rfl (decide_eq_false c4) ?_
  refine WC.skip (E.blkN (E.thenN (WC.region ?_)))
  refine W.a (.as (.add rfl rfl (by decide)) rfl) ?_
  refine W.run 1 rfl (W.nil ?_)
  refine E.round ?_
  refine RCn.step ?_
  refine WC.sr ?_
  refine W.a (.dec (.lss rfl rfl) (show _ = true from by first | decide | rfl)) ?_
  refine W.nx (WC.seq (WC.condT rfl (WC.sn (WC.seq (WC.block (WC.sr (W.run 1 rfl ?_)))))))
  refine W.a (.indexS (1) [.int .i64 (100), .int .i64 (200), .int .i64 (6), .int .i64 (16), .int .i64 (1), .int .i64 (1125899906842624)] underlying41 sz40 ag40 rfl rfl (rfl) (by omega) rfl) ?_
  refine W.ef rfl rfl rfl ?_
  refine Ef.allocA z40 ?_
  intro g11_2_1 w11_2_1 hg11_2_1 b11_2_1 h11_2_1
  have L45 := L43.trans h11_2_1
  have b11_2_1 : Blk w11_2_1 g11_2_1 40 #[.int .i64 (0), .int .i64 (0), .int .i64 (0), .int .i64 (0), .int .i64 (0), .int .i64 (0)] := b11_2_1
  refine W.run 1 rfl ?_
  refine W.sA sz40 rfl rfl b11_2_1 ?_
  intro w11_4_1 b11_4_1 h11_4_1
  have b11_4_1 : Blk w11_4_1 g11_2_1 40 #[.int .i64 (100), .int .i64 (200), .int .i64 (6), .int .i64 (16), .int .i64 (1), .int .i64 (1125899906842624)] := b11_4_1
  have L46 := L45.tb h11_4_1 L43 hg11_2_1
  refine W.nx (WC.sr ?_)
  have f47 := ((f42.le (h12_2.trans h11_2_1)).ch h11_4_1 (fun h => (show g11_2_1 ≠ g0_1 from by have := f42.lt; have := h12_2.size; omega) (oI h)))
  refine W.r (.loadAll ag51 (by rfl) rfl f47) ?_
  refine W.run 1 rfl ?_
  refine W.cl go41 rfl rfl (soffered_ok (c := c) 1 w11_4_1 (hC.le L46) hr (by omega)) ?_
  rintro _ w12_2_1 ⟨rfl, h12_2_1⟩
  have L48 := L46.trans h12_2_1
  refine W.run 5 rfl (W.nx (WC.sr ?_))
  have ho0 := of_all s.cs (1 - 0); have ho1 := of_all s.cs (1 - 1); have hs0 := rs_all hr (1 - 0); have hs1 := rs_all hr (1 - 1)
  refine W.run 1 rfl ?_
  refine W.a (.field0 fa40_3 rfl) ?_
  have f49 := (b11_4_1.le h12_2_1)
  refine W.r (.loadB (v := .int .i64 (16)) na3 rfl f49 rfl) ?_
  refine W.run 1 rfl ?_
  by_cases q13_4 : 16 < (((ofC s.cs (1 - 1)).length : Nat) : Int)
  ·refine W.dt q13_4 rfl rfl (W.run 5 rfl (W.nx (WC.condT rfl (WC.sr (W.run 1 rfl (W.nx (WC.ret (E.blkR (E.thenR (E.thenR (E.blkR (E.thenR ?_))))))))))))
   refine E.retG1 rfl rfl ?_
   exfalso; omega
  refine W.df q13_4 rfl rfl (W.run 1 rfl ?_)
  refine W.g (Any.rd (.field0 fa40_5 rfl) _) ?_
  refine W.g (.loadB (v := .int .i64 (1125899906842624)) na3 rfl f49 rfl) ?_
  refine W.run 2 rfl (W.nx ?_)
  by_cases c4 : 1125899906842624 < (sumC (ofC s.cs (1 - 1)))
  ·refine WC.condY rfl (decide_eq_true c4) ?_
   refine WC.sr (W.run 1 rfl (W.nx (WC.ret (E.blkR (E.thenR (E.thenR (E.blkR (E.thenR ?_))))))))
   refine E.retG1 rfl rfl ?_
   exfalso; omega
  refine WC.condN rfl (decide_eq_false c4) ?_
  refine WC.skip (E.blkN (E.thenN (WC.region ?_)))
  refine W.a (.as (.add rfl rfl (by decide)) rfl) ?_
  refine W.run 1 rfl (W.nil ?_)
  refine E.round ?_
  refine RCn.step ?_
  refine WC.sr ?_
  refine W.a (.dec (.lss rfl rfl) (show _ = false from by first | decide | rfl)) ?_
  refine W.nx (WC.seq (WC.condF rfl (WC.exit (E.thenX (E.thenX (E.blkH (E.thenN (WC.seq ?_))))))))
  refine WC.draw [0, 2, 3, 1, 4, 5, 6, 7, 8, 9, 10, 11, 12, 13, 14, 15, 16] mixed (by kernel_rfl) ?_
  intro w16 d16
  have L50 := L48.trans d16
  have hpy := hr.pays
  rw [h_0 s (by assumption)] at hpy
  have f51 := (f47.le (h12_2_1.trans d16))
  refine G.r rfl (.loadAll ag51 (by rfl) rfl f51) ?_
  refine G.a rfl (.field0 fa43_1 rfl) ?_
  have f52 := (((((f0_0.le h11_2).ch h11_4 (fun h => (show g11_2 ≠ g0_0 from by have := f0_0.lt; omega) (oI h))).le (h12_2.trans h11_2_1)).ch h11_4_1 (fun h => (show g11_2_1 ≠ g0_0 from by have := f0_0.lt; have := h11_2.size; have := h11_4.size; have := h12_2.size; omega) (oI h))).le (h12_2_1.trans d16))
  refine G.r rfl (.loadB (v := .int .i64 (ch.am)) na3 rfl f52 rfl) ?_
  refine G.ef rfl rfl rfl rfl rfl ?_
  refine Ef.call go20 rfl rfl (stotal_ok (c := c) w16 (hC.le L50) hr) ?_
  rintro _ w16_1 ⟨rfl, h16_1⟩
  refine ⟨_, rfl, ?_⟩
  refine ⟨fun _ => h16_1, ?_⟩
  have L53 := L50.trans h16_1
  refine G.a rfl (.dec (.eql rfl rfl) (dT (by omega))) ?_
  refine G.run 1 rfl ?_
  refine G.ag rfl (.field0 fa43_4 rfl) ?_
  have f54 := (f52.le h16_1)
  refine G.rg rfl (.loadB (v := .int .i64 (ch.op)) na3 rfl f54 rfl) ?_
  refine G.ag rfl (.field0 fa51_1 rfl) ?_
  refine G.ag rfl (.idxAo (0) underlying48 sz3 rfl rfl (by omega) (by omega)) ?_
  have f55 := (f51.le h16_1)
  refine G.rg rfl (.loadB (v := .int .i64 (s.h0)) na3 rfl f55 rfl) ?_
  refine G.rg rfl (.loadAll ag43 (by rfl) rfl f54) ?_
  refine G.rg rfl (.loadAll ag51 (by rfl) rfl f55) ?_
  refine G.efg rfl rfl rfl rfl rfl (rfl) rfl rfl ?_
  refine Ef.call go73 rfl rfl (scost_ok (c := c) ch w16_1 (hC.le L53) hr.len hr.rt_) ?_
  rintro _ w16_13 ⟨rfl, h16_13⟩
  refine ⟨_, rfl, ?_⟩
  refine ⟨fun _ => h16_13, ?_⟩
  have L56 := L53.trans h16_13
  refine G.run 3 rfl (G.nil (E.thenN (WC.ret ?_)))
  refine E.retG1 rfl rfl ?_
  exact ⟨rB (dT (by omega)), L56⟩
 refine W.r (.bpart [.int .i64 (100), .int .i64 (200), .int .i64 (5), .int .i64 (16), .int .i64 (1), .int .i64 (1125899906842624), .int .i64 (100), .int .i64 (200), .int .i64 (6), .int .i64 (16), .int .i64 (1), .int .i64 (1125899906842624)] ag41 rfl (by decide) rfl f0_0 rfl) ?_
 refine W.run 1 rfl (W.nx (WC.block ?_))
 refine WC.rounds 3 ?_
 refine RCn.step ?_
 refine WC.sr ?_
 refine W.a (.dec (.lss rfl rfl) (show _ = true from by first | decide | rfl)) ?_
 refine W.nx (WC.seq (WC.condT rfl (WC.sn (WC.seq (WC.block (WC.sr (W.run 1 rfl ?_)))))))
 refine W.a (.indexS (0) [.int .i64 (100), .int .i64 (200), .int .i64 (5), .int .i64 (16), .int .i64 (1), .int .i64 (1125899906842624)] underlying41 sz40 ag40 rfl rfl (rfl) (by omega) rfl) ?_
 refine W.ef rfl rfl rfl ?_
 refine Ef.allocA z40 ?_
 intro g11_2_2 w11_2_2 hg11_2_2 b11_2_2 h11_2_2
 have L57 := Ll0.trans h11_2_2
 have b11_2_2 : Blk w11_2_2 g11_2_2 40 #[.int .i64 (0), .int .i64 (0), .int .i64 (0), .int .i64 (0), .int .i64 (0), .int .i64 (0)] := b11_2_2
 refine W.run 1 rfl ?_
 refine W.sA sz40 rfl rfl b11_2_2 ?_
 intro w11_4_2 b11_4_2 h11_4_2
 have b11_4_2 : Blk w11_4_2 g11_2_2 40 #[.int .i64 (100), .int .i64 (200), .int .i64 (5), .int .i64 (16), .int .i64 (1), .int .i64 (1125899906842624)] := b11_4_2
 have L58 := L57.tb h11_4_2 Ll0 hg11_2_2
 refine W.nx (WC.sr ?_)
 have f59 := ((f0_1.le h11_2_2).ch h11_4_2 (fun h => (show g11_2_2 ≠ g0_1 from by have := f0_1.lt; omega) (oI h)))
 refine W.r (.loadAll ag51 (by rfl) rfl f59) ?_
 refine W.run 1 rfl ?_
 refine W.cl go41 rfl rfl (soffered_ok (c := c) 0 w11_4_2 (hC.le L58) hr (by omega)) ?_
 rintro _ w12_2_2 ⟨rfl, h12_2_2⟩
 have L60 := L58.trans h12_2_2
 refine W.run 5 rfl (W.nx (WC.sr ?_))
 have ho0 := of_all s.cs (1 - 0); have ho1 := of_all s.cs (1 - 1); have hs0 := rs_all hr (1 - 0); have hs1 := rs_all hr (1 - 1)
 refine W.run 1 rfl ?_
 refine W.a (.field0 fa40_3 rfl) ?_
 have f61 := (b11_4_2.le h12_2_2)
 refine W.r (.loadB (v := .int .i64 (16)) na3 rfl f61 rfl) ?_
 refine W.run 1 rfl ?_
 by_cases q13_4 : 16 < (((ofC s.cs (1 - 0)).length : Nat) : Int)
 ·refine W.dt q13_4 rfl rfl (W.run 5 rfl (W.nx (WC.condT rfl (WC.sr (W.run 1 rfl (W.nx (WC.ret (E.blkR (E.thenR (E.thenR (E.blkR (E.thenR ?_))))))))))))
  refine E.retG1 rfl rfl ?_
  exfalso; omega
 refine W.df q13_4 rfl rfl (W.run 1 rfl ?_)
 refine W.g (Any.rd (.field0 fa40_5 rfl) _) ?_
 refine W.g (.loadB (v := .int .i64 (1125899906842624)) na3 rfl f61 rfl) ?_
 refine W.run 2 rfl (W.nx ?_)
 by_cases c4 : 1125899906842624 < (sumC (ofC s.cs (1 - 0)))
 ·refine WC.condY rfl (decide_eq_true c4) ?_
  refine WC.sr (W.run 1 rfl (W.nx (WC.ret (E.blkR (E.thenR (E.thenR (E.blkR (E.thenR ?_))))))))
  refine E.retG1 rfl rfl ?_
  exfalso; omega
 refine WC.condN rfl (decide_eq_false c4) ?_
 refine WC.skip (E.blkN (E.thenN (WC.region ?_)))
 refine W.a (.as (.add rfl rfl (by decide)) rfl) ?_
 refine W.run 1 rfl (W.nil ?_)
 refine E.round ?_
 refine RCn.step ?_
 refine WC.sr ?_
 refine W.a (.dec (.lss rfl rfl) (show _ = true from by first | decide | rfl)) ?_
 refine W.nx (WC.seq (WC.condT rfl (WC.sn (WC.seq (WC.block (WC.sr (W.run 1 rfl ?_)))))))
 refine W.a (.indexS (1) [.int .i64 (100), .int .i64 (200), .int .i64 (6), .int .i64 (16), .int .i64 (1), .int .i64 (1125899906842624)] underlying41 sz40 ag40 rfl rfl (rfl) (by omega) rfl) ?_
 refine W.ef rfl rfl rfl ?_
 refine Ef.allocA z40 ?_
 intro g11_2_3 w11_2_3 hg11_2_3 b11_2_3 h11_2_3
 have L62 := L60.trans h11_2_3
 have b11_2_3 : Blk w11_2_3 g11_2_3 40 #[.int .i64 (0), .int .i64 (0), .int .i64 (0), .int .i64 (0), .int .i64 (0), .int .i64 (0)] := b11_2_3
 refine W.run 1 rfl ?_
 refine W.sA sz40 rfl rfl b11_2_3 ?_
 intro w11_4_3 b11_4_3 h11_4_3
 have b11_4_3 : Blk w11_4_3 g11_2_3 40 #[.int .i64 (100), .int .i64 (200), .int .i64 (6), .int .i64 (16), .int .i64 (1), .int .i64 (1125899906842624)] := b11_4_3
 have L63 := L62.tb h11_4_3 L60 hg11_2_3
 refine W.nx (WC.sr ?_)
 have f64 := ((f59.le (h12_2_2.trans h11_2_3)).ch h11_4_3 (fun h => (show g11_2_3 ≠ g0_1 from by have := f59.lt; have := h12_2_2.size; omega) (oI h)))
 refine W.r (.loadAll ag51 (by rfl) rfl f64) ?_
 refine W.run 1 rfl ?_
 refine W.cl go41 rfl rfl (soffered_ok (c := c) 1 w11_4_3 (hC.le L63) hr (by omega)) ?_
 rintro _ w12_2_3 ⟨rfl, h12_2_3⟩
 have L65 := L63.trans h12_2_3
 refine W.run 5 rfl (W.nx (WC.sr ?_))
 have ho0 := of_all s.cs (1 - 0); have ho1 := of_all s.cs (1 - 1); have hs0 := rs_all hr (1 - 0); have hs1 := rs_all hr (1 - 1)
 refine W.run 1 rfl ?_
 refine W.a (.field0 fa40_3 rfl) ?_
 have f66 := (b11_4_3.le h12_2_3)
 refine W.r (.loadB (v := .int .i64 (16)) na3 rfl f66 rfl) ?_
 refine W.run 1 rfl ?_
 by_cases q13_4 : 16 < (((ofC s.cs (1 - 1)).length : Nat) : Int)
 ·refine W.dt q13_4 rfl rfl (W.run 5 rfl (W.nx (WC.condT rfl (WC.sr (W.run 1 rfl (W.nx (WC.ret (E.blkR (E.thenR (E.thenR (E.blkR (E.thenR ?_))))))))))))
  refine E.retG1 rfl rfl ?_
  exfalso; omega
 refine W.df q13_4 rfl rfl (W.run 1 rfl ?_)
 refine W.g (Any.rd (.field0 fa40_5 rfl) _) ?_
 refine W.g (.loadB (v := .int .i64 (1125899906842624)) na3 rfl f66 rfl) ?_
 refine W.run 2 rfl (W.nx ?_)
 by_cases c4 : 1125899906842624 < (sumC (ofC s.cs (1 - 1)))
 ·refine WC.condY rfl (decide_eq_true c4) ?_
  refine WC.sr (W.run 1 rfl (W.nx (WC.ret (E.blkR (E.thenR (E.thenR (E.blkR (E.thenR ?_))))))))
  refine E.retG1 rfl rfl ?_
  exfalso; omega
 refine WC.condN rfl (decide_eq_false c4) ?_
 refine WC.skip (E.blkN (E.thenN (WC.region ?_)))
 refine W.a (.as (.add rfl rfl (by decide)) rfl) ?_
 refine W.run 1 rfl (W.nil ?_)
 refine E.round ?_
 refine RCn.step ?_
 refine WC.sr ?_
 refine W.a (.dec (.lss rfl rfl) (show _ = false from by first | decide | rfl)) ?_
 refine W.nx (WC.seq (WC.condF rfl (WC.exit (E.thenX (E.thenX (E.blkH (E.thenN (WC.seq ?_))))))))
 refine WC.draw [0, 2, 3, 1, 4, 5, 6, 7, 8, 9, 10, 11, 12, 13, 14, 15, 16] mixed (by kernel_rfl) ?_
 intro w16 d16
 have L67 := L65.trans d16
 have hpy := hr.pays
 rw [h_1 s (by assumption)] at hpy
 have f68 := (f64.le (h12_2_3.trans d16))
 refine G.r rfl (.loadAll ag51 (by rfl) rfl f68) ?_
 refine G.a rfl (.field0 fa43_1 rfl) ?_
 have f69 := (((((f0_0.le h11_2_2).ch h11_4_2 (fun h => (show g11_2_2 ≠ g0_0 from by have := f0_0.lt; omega) (oI h))).le (h12_2_2.trans h11_2_3)).ch h11_4_3 (fun h => (show g11_2_3 ≠ g0_0 from by have := f0_0.lt; have := h11_2_2.size; have := h11_4_2.size; have := h12_2_2.size; omega) (oI h))).le (h12_2_3.trans d16))
 refine G.r rfl (.loadB (v := .int .i64 (ch.am)) na3 rfl f69 rfl) ?_
 refine G.ef rfl rfl rfl rfl rfl ?_
 refine Ef.call go20 rfl rfl (stotal_ok (c := c) w16 (hC.le L67) hr) ?_
 rintro _ w16_1_1 ⟨rfl, h16_1_1⟩
 refine ⟨_, rfl, ?_⟩
 refine ⟨fun _ => h16_1_1, ?_⟩
 have L70 := L67.trans h16_1_1
 refine G.a rfl (.dec (.eql rfl rfl) (dT (by omega))) ?_
 refine G.run 1 rfl ?_
 refine G.ag rfl (.field0 fa43_4 rfl) ?_
 have f71 := (f69.le h16_1_1)
 refine G.rg rfl (.loadB (v := .int .i64 (ch.op)) na3 rfl f71 rfl) ?_
 refine G.ag rfl (.field0 fa51_1 rfl) ?_
 refine G.ag rfl (.idxAo (1) underlying48 sz3 rfl rfl (by omega) (by omega)) ?_
 have f72 := (f68.le h16_1_1)
 refine G.rg rfl (.loadB (v := .int .i64 (s.h1)) na3 rfl f72 rfl) ?_
 refine G.rg rfl (.loadAll ag43 (by rfl) rfl f71) ?_
 refine G.rg rfl (.loadAll ag51 (by rfl) rfl f72) ?_
 refine G.efg rfl rfl rfl rfl rfl (rfl) rfl rfl ?_
 refine Ef.call go73 rfl rfl (scost_ok (c := c) ch w16_1_1 (hC.le L70) hr.len hr.rt_) ?_
 rintro _ w16_13_1 ⟨rfl, h16_13_1⟩
 refine ⟨_, rfl, ?_⟩
 refine ⟨fun _ => h16_13_1, ?_⟩
 have L73 := L70.trans h16_13_1
 refine G.run 3 rfl (G.nil (E.thenN (WC.ret ?_)))
 refine E.retG1 rfl rfl ?_
 exact ⟨rB (dT (by omega)), L73⟩

theorem sisC_ok (q : Cnd) (fr id : Int) {g1 g2 : Nat} (w : World) (hg1 : Blk w g1 3 #[.int .i64 fr]) (hg2 : Blk w g2 3 #[.int .i64 id]) : Calls prog 75 #[.agg (condV q).toArray, .pointer (some ⟨g1, 0, none⟩), .pointer (some ⟨g2, 0, none⟩)] w fun r w' => r = .returned (.bool (isC fr id q)) /\ Le w w' := by
 refine enter func75 rfl rfl ?_
 have L0 := Le.refl w
 refine WC.sr (W.ef rfl rfl rfl ?_)
 refine Ef.boxA rfl ?_
 intro g0_0 w0_0 hg0_0 b0_0 h0_0
 have L1 := L0.trans h0_0
 have b0_0 : Blk w0_0 g0_0 66 (condV q).toArray := b0_0
 refine W.run 1 rfl (W.nx (WC.sr ?_))
 refine W.a (.field0 fa66_0 rfl) ?_
 refine W.r (.loadB (v := .int .i64 (q.fr)) na3 rfl b0_0 rfl) ?_
 refine W.r (.loadB (v := .int .i64 (fr)) na3 rfl (hg1.le L1) rfl) ?_
 refine W.run 1 rfl ?_
 by_cases q1_4 : q.fr = fr
 ·refine W.dt q1_4 rfl rfl ?_
  refine W.g (Any.rd (.field0 fa66_1 rfl) _) ?_
  refine W.g (.loadB (v := .int .i64 (q.id)) na3 rfl b0_0 rfl) ?_
  refine W.g (.loadB (v := .int .i64 (id)) na3 rfl (hg2.le L1) rfl) ?_
  refine W.run 3 rfl (W.nx (WC.ret ?_))
  refine E.retG1 rfl rfl ?_
  exact ⟨(by first | rfl | (simp [isC, q1_4]; done) | (simp [isC, q1_4]; omega) | (simp [isC, q1_4]; split <;> first | (exfalso; omega) | (simp; done) | (simp; omega))), L1⟩
 refine W.df q1_4 rfl rfl (W.run 6 rfl (W.nx (WC.ret ?_)))
 refine E.retG1 rfl rfl ?_
 exact ⟨(by first | rfl | (simp [isC, q1_4]; done) | (simp [isC, q1_4]; omega) | (simp [isC, q1_4]; split <;> first | (exfalso; omega) | (simp; done) | (simp; omega))), L1⟩

theorem sindexc_ok {A : Option Addr} {n c : Nat} {xs : List Cnd} {F : Nat} {caps : Array Value} (pr : Cnd -> Bool) (hgo : IsGo prog F) (w : World) (hV : Vec w condV 5 A n xs) (hn : n <= 1000000) (hf : ∀ (q : Cnd) (w1 : World), Le w w1 -> Calls prog F (#[.agg (condV q).toArray] ++ caps) w1 fun r w2 => r = .returned (.bool (pr q)) /\ Le w1 w2) : Calls prog 74 #[.slice A n c, .func (.func F) #[] caps] w fun r w' => r = .returned (.int .i64 (idxG pr xs)) /\ Le w w' := by
 have hl := hV.1
 refine enter func74 rfl rfl ?_
 have L0 := Le.refl w
 refine WC.sr (W.run 1 rfl (W.nx (WC.seq (WC.sr (W.run 1 rfl ?_)))))
 refine W.r (.len underlying49 rfl) ?_
 refine W.run 1 rfl (W.nx (WC.block ?_))
 refine WC.loop (ι := Nat) (fun k => [(0, .slice A n c), (1, .func (.func F) #[] caps), (7, .int .i64 (((n : Nat) : Int))), (8, .int .i64 (((k : Nat) : Int)))]) (fun k wl0 => (k <= n) /\ (∀ j, j < k -> ¬ pr (xs.getD j noCnd) = true) /\ Le w wl0 /\ w.heap.size <= wl0.heap.size) (fun k => n - k) 0 ?_ ?_ ?_
 ·exact .cons rfl (.cons rfl (.cons rfl (.cons rfl (.nil _))))
 ·exact ⟨Nat.zero_le _, fun j hj => absurd hj (Nat.not_lt_zero _), L0, Nat.le_refl _⟩
 rintro k wl0 ⟨hk, hz, Ll0, zl0⟩
 refine WC.sr (W.run 1 rfl (W.nx (WC.seq ?_)))
 by_cases c0 : ((k : Nat) : Int) < ((n : Nat) : Int)
 ·refine WC.condY rfl (decide_eq_true c0) ?_
  refine WC.sn (WC.seq (WC.block (WC.sr (W.run 2 rfl (W.nx (WC.sr (W.run 3 rfl ?_)))))))
  refine W.a (.idxS (k) underlying49 sz66 rfl rfl (hV.isSome condV_row (by omega)) (rfl) (by omega)) ?_
  refine W.r (.vload ag66 rfl (hV.le Ll0) condV_row (getS xs noCnd (by omega))) ?_
  refine W.ef rfl rfl rfl ?_
  refine Ef.callC hgo rfl rfl rfl (hf _ _ Ll0) ?_
  rintro _ w4_5 ⟨rfl, h4_5⟩
  refine ⟨_, rfl, ?_⟩
  have L1 := Ll0.trans h4_5
  refine W.nx ?_
  by_cases c1 : (pr (xs.getD k noCnd)) = true
  ·refine WC.condY rfl (c1) ?_
   refine WC.sr (W.run 2 rfl (W.nx (WC.ret (E.blkR (E.thenR (E.thenR (E.blkR (E.thenR ?_))))))))
   refine E.retG1 rfl rfl ?_
   exact ⟨by rw [idxG_at (z := noCnd) (by omega) hz c1], L1⟩
  refine WC.condN rfl ((Bool.eq_false_iff.2 c1)) ?_
  refine WC.skip (E.blkN (E.thenN (WC.region ?_)))
  refine W.a (.add rfl rfl (by omega)) ?_
  refine W.run 1 rfl (W.nil ?_)
  refine E.again (k + 1) (.cons rfl (.cons rfl (.cons rfl (.cons rfl (.nil _))))) ?_ ?_
  ·exact ⟨by omega, fun j hj => by rcases Nat.lt_or_ge j k with h | h; exact hz j h; rw [show j = k by omega]; exact c1, L1, by have := zl0; have := h4_5.size; omega⟩
  first | omega | (simp only []; omega)
 refine WC.condN rfl (decide_eq_false c0) ?_
 refine WC.exit (E.thenX (E.thenX (E.blkH (E.thenN (WC.sr (W.run 1 rfl (W.nx (WC.ret ?_))))))))
 refine E.retG1 rfl rfl ?_
 exact ⟨by rw [idxG_no (z := noCnd) (k := k) (by omega) hz], Ll0⟩

theorem sfind_ok (fr id : Int) {s : Sta} {A : Option Addr} {n c : Nat} (w : World) (hC : Vec w condV 5 A n s.cs) (hlen : s.cs.length <= 16) : Calls prog 42 #[.agg #[.int .i64 (s.no), .int .i64 (s.h0), .int .i64 (s.h1), .slice A n c, .int .i64 (s.rt)], .int .i64 (fr), .int .i64 (id)] w fun r w' => r = .returned (.tuple #[.agg (condV ((findC s.cs fr id).getD noCnd)).toArray, .bool (findC s.cs fr id).isSome]) /\ Le w w' := by
 have hl := hC.1
 have hix := idxG_find noCnd (isC fr id) s.cs
 refine enter func42 rfl rfl ?_
 have L0 := Le.refl w
 refine WC.sr (W.ef rfl rfl rfl ?_)
 refine Ef.boxA rfl ?_
 intro g0_0 w0_0 hg0_0 b0_0 h0_0
 have L1 := L0.trans h0_0
 have b0_0 : Blk w0_0 g0_0 51 #[.int .i64 (s.no), .int .i64 (s.h0), .int .i64 (s.h1), .slice A n c, .int .i64 (s.rt)] := b0_0
 refine W.ef rfl rfl rfl ?_
 refine Ef.box rfl ?_
 intro g0_1 w0_1 hg0_1 b0_1 h0_1
 have L2 := L1.trans h0_1
 have b0_1 : Blk w0_1 g0_1 3 #[.int .i64 (fr)] := b0_1
 refine W.ef rfl rfl rfl ?_
 refine Ef.box rfl ?_
 intro g0_2 w0_2 hg0_2 b0_2 h0_2
 have L3 := L2.trans h0_2
 have b0_2 : Blk w0_2 g0_2 3 #[.int .i64 (id)] := b0_2
 refine W.ef rfl rfl rfl ?_
 refine Ef.allocA z66 ?_
 intro g0_3 w0_3 hg0_3 b0_3 h0_3
 have L4 := L3.trans h0_3
 have b0_3 : Blk w0_3 g0_3 66 (condV noCnd).toArray := b0_3
 refine W.run 1 rfl (W.nx (WC.sr ?_))
 refine W.a (.field0 fa51_2 rfl) ?_
 have f5 := (b0_0.le (h0_1.trans (h0_2.trans h0_3)))
 refine W.r (.loadB (v := .slice A n c) na49 rfl f5 rfl) ?_
 refine W.a (.makeFunc rfl) ?_
 have f6 := (b0_1.le (h0_2.trans h0_3))
 have f7 := (b0_2.le h0_3)
 refine W.cl go74 rfl rfl (sindexc_ok (isC fr id) go75 w0_3 (hC.le L4) (by omega) (fun q w1 hl => sisC_ok q fr id w1 (f6.le hl) (f7.le hl))) ?_
 rintro _ w1_3 ⟨rfl, h1_3⟩
 have L8 := L4.trans h1_3
 refine W.run 1 rfl (W.nx (WC.seq (WC.sr (W.run 2 rfl (W.nx ?_)))))
 by_cases c0 : (idxG (isC fr id) s.cs) < 0
 ·refine WC.condY rfl (decide_eq_true c0) ?_
  have hx1 := (hix.1 (by omega)).1
  refine WC.sr ?_
  refine W.a (.buildP (condV (⟨0, 0, 0, 0, 0⟩)) pl66 z66 rfl rfl) ?_
  have f9 := (b0_3.le h1_3)
  refine W.ef0 rfl rfl ?_
  refine Ef.storeAll sz66 (by rfl) rfl rfl f9 (by simp only [List.size_toArray, condV_row.len]) (condV_row.one (⟨0, 0, 0, 0, 0⟩)) ?_
  intro w3_1 b3_1 h3_1
  have b3_1 : Blk w3_1 g0_3 66 (condV (⟨0, 0, 0, 0, 0⟩)).toArray := b3_1
  have L10 := L8.tb h3_1 L3 hg0_3
  refine W.run 1 rfl (W.nx (WC.ret (E.thenR ?_)))
  refine E.retG2 rfl (resA rfl b3_1 ag66 (by rfl)) rfl ?_
  exact ⟨by unfold findC; rw [hx1]; rfl, L10⟩
 refine WC.condN rfl (decide_eq_false c0) ?_
 have hx1 := hix.2 (by omega)
 have hx2 := hx1.2
 have hx3 := hx1.1
 refine WC.sn (WC.sr ?_)
 refine W.a (.field0 fa51_2 rfl) ?_
 have f11 := (f5.le h1_3)
 refine W.r (.loadB (v := .slice A n c) na49 rfl f11 rfl) ?_
 refine W.run 1 rfl ?_
 refine W.a (.idxS ((idxG (isC fr id) s.cs).toNat) underlying49 sz66 rfl rfl (hC.isSome condV_row (by omega)) (by omega) (by omega)) ?_
 refine W.r (.vload ag66 rfl (hC.le L8) condV_row (getS s.cs noCnd (by first | omega | (simp only [List.length_cons, List.length_nil]; omega)))) ?_
 have f12 := (b0_3.le h1_3)
 refine W.ef0 rfl rfl ?_
 refine Ef.storeAll sz66 (by rfl) rfl rfl f12 (by simp only [List.size_toArray, condV_row.len]) (condV_row.one (s.cs.getD ((idxG (isC fr id) s.cs).toNat) noCnd)) ?_
 intro w4_5 b4_5 h4_5
 have b4_5 : Blk w4_5 g0_3 66 (condV (s.cs.getD ((idxG (isC fr id) s.cs).toNat) noCnd)).toArray := b4_5
 have L13 := L8.tb h4_5 L3 hg0_3
 refine W.run 1 rfl (W.nx (WC.ret ?_))
 refine E.retG2 rfl (resA rfl b4_5 ag66 (by rfl)) rfl ?_
 exact ⟨by unfold findC; rw [hx2]; rfl, L13⟩

theorem sfree_ok (ch : Chn) (i : Int) (hi : 0 <= i /\ i <= 1) {s : Sta} {A : Option Addr} {n c : Nat} (w : World) (hC : Vec w condV 5 A n s.cs) (hlen : s.cs.length <= 16) (hrt : 0 <= s.rt /\ s.rt <= 1000) (hb : (-1125899906842624 <= s.h0 /\ s.h0 <= 1125899906842624) /\ -1125899906842624 <= s.h1 /\ s.h1 <= 1125899906842624) : Calls prog 44 #[.agg (chnV ch).toArray, .agg #[.int .i64 (s.no), .int .i64 (s.h0), .int .i64 (s.h1), .slice A n c, .int .i64 (s.rt)], .int .i64 (i)] w fun r w' => r = .returned (.int .i64 (freeC ch.op s i)) /\ Le w w' := by
 have hl := hC.1
 have hmul := mul_b hrt hlen
 have hcd : costN s.rt s.cs.length = s.rt * (68 + 8 * ((s.cs.length : Nat) : Int)) + 660 := rfl
 refine enter func44 rfl rfl ?_
 have L0 := Le.refl w
 refine WC.sr (W.ef rfl rfl rfl ?_)
 refine Ef.boxA rfl ?_
 intro g0_0 w0_0 hg0_0 b0_0 h0_0
 have L1 := L0.trans h0_0
 have b0_0 : Blk w0_0 g0_0 43 (chnV ch).toArray := b0_0
 refine W.ef rfl rfl rfl ?_
 refine Ef.boxA rfl ?_
 intro g0_1 w0_1 hg0_1 b0_1 h0_1
 have L2 := L1.trans h0_1
 have b0_1 : Blk w0_1 g0_1 51 #[.int .i64 (s.no), .int .i64 (s.h0), .int .i64 (s.h1), .slice A n c, .int .i64 (s.rt)] := b0_1
 refine W.run 1 rfl (W.nx (WC.seq (WC.sr ?_)))
 by_cases qc1_0 : i = 0
 ·refine W.run 1 rfl ?_
  refine W.a (.field0 fa43_4 rfl) ?_
  have f3 := (b0_0.le h0_1)
  refine W.r (.loadB (v := .int .i64 (ch.op)) na3 rfl f3 rfl) ?_
  refine W.run 1 rfl (W.nx ?_)
  by_cases c0 : i = ch.op
  ·refine WC.condY rfl (decide_eq_true c0) ?_
   refine WC.seq ?_
   refine WC.draw [0, 1, 2, 3, 4, 5, 6, 7, 8] mixed (by kernel_rfl) ?_
   intro w2 d2
   have L4 := L2.trans d2
   refine G.run 1 rfl ?_
   refine G.a rfl (.field0 fa51_1 rfl) ?_
   refine G.a rfl (.idxAo (0) underlying48 sz3 rfl rfl (by omega) (by omega)) ?_
   have f5 := (b0_1.le d2)
   refine G.r rfl (.loadB (v := .int .i64 (s.h0)) na3 rfl f5 rfl) ?_
   have f6 := (f3.le d2)
   refine G.r rfl (.loadAll ag43 (by rfl) rfl f6) ?_
   refine G.r rfl (.loadAll ag51 (by rfl) rfl f5) ?_
   refine G.ef rfl rfl rfl rfl rfl ?_
   refine Ef.call go73 rfl rfl (scost_ok (c := c) ch w2 (hC.le L4) hlen hrt) ?_
   rintro _ w2_6 ⟨rfl, h2_6⟩
   refine ⟨_, rfl, ?_⟩
   refine ⟨fun _ => h2_6, ?_⟩
   have L7 := L4.trans h2_6
   refine G.a rfl (.sub rfl rfl (by omega)) ?_
   refine G.run 1 rfl (G.nil (E.thenN (WC.ret (E.thenR ?_))))
   refine E.retG1 rfl rfl ?_
   exact ⟨by unfold freeC; rw [if_pos (by assumption), h_0 s (by assumption)], L7⟩
  refine WC.condN rfl (decide_eq_false c0) ?_
  refine WC.sn (WC.sr (W.run 1 rfl ?_))
  refine W.a (.field0 fa51_1 rfl) ?_
  refine W.a (.idxAo (0) underlying48 sz3 rfl rfl (by omega) (by omega)) ?_
  refine W.r (.loadB (v := .int .i64 (s.h0)) na3 rfl b0_1 rfl) ?_
  refine W.run 1 rfl (W.nx (WC.ret ?_))
  refine E.retG1 rfl rfl ?_
  exact ⟨by unfold freeC; rw [if_neg (by assumption), h_0 s (by assumption)], L2⟩
 refine W.run 1 rfl ?_
 refine W.a (.field0 fa43_4 rfl) ?_
 have f8 := (b0_0.le h0_1)
 refine W.r (.loadB (v := .int .i64 (ch.op)) na3 rfl f8 rfl) ?_
 refine W.run 1 rfl (W.nx ?_)
 by_cases c0 : i = ch.op
 ·refine WC.condY rfl (decide_eq_true c0) ?_
  refine WC.seq ?_
  refine WC.draw [0, 1, 2, 3, 4, 5, 6, 7, 8] mixed (by kernel_rfl) ?_
  intro w2 d2
  have L9 := L2.trans d2
  refine G.run 1 rfl ?_
  refine G.a rfl (.field0 fa51_1 rfl) ?_
  refine G.a rfl (.idxAo (1) underlying48 sz3 rfl rfl (by omega) (by omega)) ?_
  have f10 := (b0_1.le d2)
  refine G.r rfl (.loadB (v := .int .i64 (s.h1)) na3 rfl f10 rfl) ?_
  have f11 := (f8.le d2)
  refine G.r rfl (.loadAll ag43 (by rfl) rfl f11) ?_
  refine G.r rfl (.loadAll ag51 (by rfl) rfl f10) ?_
  refine G.ef rfl rfl rfl rfl rfl ?_
  refine Ef.call go73 rfl rfl (scost_ok (c := c) ch w2 (hC.le L9) hlen hrt) ?_
  rintro _ w2_6_1 ⟨rfl, h2_6_1⟩
  refine ⟨_, rfl, ?_⟩
  refine ⟨fun _ => h2_6_1, ?_⟩
  have L12 := L9.trans h2_6_1
  refine G.a rfl (.sub rfl rfl (by omega)) ?_
  refine G.run 1 rfl (G.nil (E.thenN (WC.ret (E.thenR ?_))))
  refine E.retG1 rfl rfl ?_
  exact ⟨by unfold freeC; rw [if_pos (by assumption), h_1 s (by assumption)], L12⟩
 refine WC.condN rfl (decide_eq_false c0) ?_
 refine WC.sn (WC.sr (W.run 1 rfl ?_))
 refine W.a (.field0 fa51_1 rfl) ?_
 refine W.a (.idxAo (1) underlying48 sz3 rfl rfl (by omega) (by omega)) ?_
 refine W.r (.loadB (v := .int .i64 (s.h1)) na3 rfl b0_1 rfl) ?_
 refine W.run 1 rfl (W.nx (WC.ret ?_))
 refine E.retG1 rfl rfl ?_
 exact ⟨by unfold freeC; rw [if_neg (by assumption), h_1 s (by assumption)], L2⟩

theorem sworth_ok (i : Int) (hi : 0 <= i /\ i <= 1) {s : Sta} {amt op : Int} {A : Option Addr} {n c : Nat} (w : World) (hC : Vec w condV 5 A n s.cs) (hr : RightS amt op s) : Calls prog 18 #[.agg #[.int .i64 (s.no), .int .i64 (s.h0), .int .i64 (s.h1), .slice A n c, .int .i64 (s.rt)], .int .i64 (i)] w fun r w' => r = .returned (.int .i64 (s.h i + sumC (ofC s.cs i))) /\ Le w w' := by
 have hl := hC.1; have hlen := hr.len
 have hh0 := hr.h0_; have hh1 := hr.h1_
 have hs0 := rs_all hr (1 - (1 - i))
 refine enter func18 rfl rfl ?_
 have L0 := Le.refl w
 refine WC.sr (W.ef rfl rfl rfl ?_)
 refine Ef.boxA rfl ?_
 intro g0_0 w0_0 hg0_0 b0_0 h0_0
 have L1 := L0.trans h0_0
 have b0_0 : Blk w0_0 g0_0 51 #[.int .i64 (s.no), .int .i64 (s.h0), .int .i64 (s.h1), .slice A n c, .int .i64 (s.rt)] := b0_0
 refine W.run 1 rfl (W.nx (WC.seq (WC.sr ?_)))
 by_cases qc1_0 : i = 0
 ·refine W.run 1 rfl (W.ef rfl rfl rfl ?_)
  refine Ef.buildSliceV (len := 1) [_] underlying56 el3 rfl (by simp [Value.cells]) rfl (by decide) (by decide) ?_
  intro g1_1 w1_1 hg1_1 b1_1 h1_1
  have L2 := L1.trans h1_1
  have b1_1 : Blk w1_1 g1_1 3 (([i]).map iv).flatten.toArray := b1_1
  have o1_1 : OVec w1_1 w0_0.heap.size 3 iv 1 (some ⟨g1_1, 0, none⟩) 1 1 ([i]) := b1_1.ovec hg1_1 iv_row rfl rfl (by decide)
  refine W.cl go48 rfl rfl ((by have k := swithinc1_ok (c := 1) 0 1 w1_1 o1_1.vec; rw [inB_t (n := i) (lo := 0) (hi := 1) (by omega)] at k; exact k)) ?_
  rintro _ w1_2 ⟨rfl, h1_2⟩
  have L3 := L2.trans h1_2
  refine W.run 1 rfl (W.nx (WC.condF rfl (WC.sn (WC.sr ?_))))
  have f4 := (b0_0.le (h1_1.trans h1_2))
  refine W.r (.loadAll ag51 (by rfl) rfl f4) ?_
  refine W.run 1 rfl ?_
  refine W.a (.sub rfl rfl (by omega)) ?_
  refine W.cl go41 rfl rfl (soffered_ok (c := c) (1 - i) w1_2 (hC.le L3) hr (by omega)) ?_
  rintro _ w3_3 ⟨rfl, h3_3⟩
  have L5 := L3.trans h3_3
  refine W.run 5 rfl (W.nx (WC.sr (W.run 1 rfl ?_)))
  refine W.a (.field0 fa51_1 rfl) ?_
  refine W.a (.idxAo (0) underlying48 sz3 rfl rfl (by omega) (by omega)) ?_
  have f6 := (f4.le h3_3)
  refine W.r (.loadB (v := .int .i64 (s.h0)) na3 rfl f6 rfl) ?_
  refine W.run 1 rfl ?_
  refine W.a (.add rfl rfl (by omega)) ?_
  refine W.run 1 rfl (W.nx (WC.ret ?_))
  refine E.retG1 rfl rfl ?_
  exact ⟨by rw [h_0 s (by assumption), show (1 : Int) - (1 - i) = i by omega], L5⟩
 refine W.run 1 rfl (W.ef rfl rfl rfl ?_)
 refine Ef.buildSliceV (len := 1) [_] underlying56 el3 rfl (by simp [Value.cells]) rfl (by decide) (by decide) ?_
 intro g1_1_1 w1_1_1 hg1_1_1 b1_1_1 h1_1_1
 have L7 := L1.trans h1_1_1
 have b1_1_1 : Blk w1_1_1 g1_1_1 3 (([i]).map iv).flatten.toArray := b1_1_1
 have o1_1_1 : OVec w1_1_1 w0_0.heap.size 3 iv 1 (some ⟨g1_1_1, 0, none⟩) 1 1 ([i]) := b1_1_1.ovec hg1_1_1 iv_row rfl rfl (by decide)
 refine W.cl go48 rfl rfl ((by have k := swithinc1_ok (c := 1) 0 1 w1_1_1 o1_1_1.vec; rw [inB_t (n := i) (lo := 0) (hi := 1) (by omega)] at k; exact k)) ?_
 rintro _ w1_2_1 ⟨rfl, h1_2_1⟩
 have L8 := L7.trans h1_2_1
 refine W.run 1 rfl (W.nx (WC.condF rfl (WC.sn (WC.sr ?_))))
 have f9 := (b0_0.le (h1_1_1.trans h1_2_1))
 refine W.r (.loadAll ag51 (by rfl) rfl f9) ?_
 refine W.run 1 rfl ?_
 refine W.a (.sub rfl rfl (by omega)) ?_
 refine W.cl go41 rfl rfl (soffered_ok (c := c) (1 - i) w1_2_1 (hC.le L8) hr (by omega)) ?_
 rintro _ w3_3_1 ⟨rfl, h3_3_1⟩
 have L10 := L8.trans h3_3_1
 refine W.run 5 rfl (W.nx (WC.sr (W.run 1 rfl ?_)))
 refine W.a (.field0 fa51_1 rfl) ?_
 refine W.a (.idxAo (1) underlying48 sz3 rfl rfl (by omega) (by omega)) ?_
 have f11 := (f9.le h3_3_1)
 refine W.r (.loadB (v := .int .i64 (s.h1)) na3 rfl f11 rfl) ?_
 refine W.run 1 rfl ?_
 refine W.a (.add rfl rfl (by omega)) ?_
 refine W.run 1 rfl (W.nx (WC.ret ?_))
 refine E.retG1 rfl rfl ?_
 exact ⟨by rw [h_1 s (by assumption), show (1 : Int) - (1 - i) = i by omega], L10⟩
end Go.Proofs.YtgpaekbdbpkogaaGreat

namespace Go.Proofs.YtgpaekbdbpkogaaGreat
open Tryz
open Go Go.Sx Go.Num Go.Gsp Go.Lsp Go.Shp
set_option maxRecDepth 20000
theorem lt_trans {a b c : Cnd} (h : ltC a b) (k : ltC b c) : ltC a c := by unfold ltC at *; omega
theorem cf_T {pr : Cnd -> Bool} (xs : List Cnd) (k : Nat) (hk : k < xs.length) (h : pr (xs.getD k noCnd) = true) : (xs.take (k + 1)).filter pr = (xs.take k).filter pr ++ [xs.getD k noCnd] := by
  rw [take_s (z := noCnd) hk, List.filter_append, List.filter_cons, if_pos h]
  rfl
theorem cf_F {pr : Cnd -> Bool} (xs : List Cnd) (k : Nat) (hk : k < xs.length) (h : pr (xs.getD k noCnd) = false) : (xs.take (k + 1)).filter pr = (xs.take k).filter pr := by
  rw [take_s (z := noCnd) hk, List.filter_append, List.filter_cons, if_neg (by rw [h]; simp)]
  simp
theorem cf_no {pr : Cnd -> Bool} {xs : List Cnd} (h : idxG pr xs = -1) : xs.filter (fun i => !pr i) = xs := by
  rw [List.filter_eq_self]
  intro a ha
  unfold idxG at h
  split at h
  · omega
  · rename_i hn
    rw [List.any_eq_true] at hn
    cases e : pr a
    · rfl
    · exact absurd ⟨a, ha, e⟩ hn
theorem cf_one {pr : Cnd -> Bool} {xs : List Cnd} (h : ¬ idxG pr xs = -1) : ∃ i : Nat, idxG pr xs = i /\ i < xs.length /\ pr (xs.getD i noCnd) = true /\ xs.take i = (xs.take (i + 1)).filter (fun i => !pr i) := by
  unfold idxG at h ⊢
  split at h
  · rename_i hy
    have hlt : xs.findIdx pr < xs.length := List.findIdx_lt_length_of_exists (by simpa using hy)
    have hat : pr (xs.getD (xs.findIdx pr) noCnd) = true := by
      have := List.findIdx_getElem (w := hlt); simpa [List.getD, hlt] using this
    refine ⟨_, if_pos hy, hlt, hat, ?_⟩
    rw [cf_F xs _ hlt (by rw [hat]; rfl), eq_comm, List.filter_eq_self]
    intro a ha
    obtain ⟨j, hj, rfl⟩ := List.mem_iff_getElem.1 ha
    have hj2 : j < xs.findIdx pr := by simp at hj; omega
    have := List.not_of_lt_findIdx hj2
    simpa using this
  · exact absurd rfl h
theorem ins_B {xs : List Cnd} {q : Cnd} {n k : Nat} (hl : xs.length = n) (hk : k < n) : ((((xs.take k ++ List.replicate (n + 1 - k) noCnd).take k ++ [q] ++ (xs.take k ++ List.replicate (n + 1 - k) noCnd).drop (k + 1)).take (k + 1) ++ xs.drop k ++ ((xs.take k ++ List.replicate (n + 1 - k) noCnd).take k ++ [q] ++ (xs.take k ++ List.replicate (n + 1 - k) noCnd).drop (k + 1)).drop (k + 1 + (n - k)))) = putC xs q k := by
  have h1 : (xs.take k ++ List.replicate (n + 1 - k) noCnd).take k = xs.take k := by rw [List.take_append_of_le_length (by simp; omega), List.take_take, Nat.min_self]
  have h2 : (xs.take k ++ [q]).length = k + 1 := by simp; omega
  have h3 : ((xs.take k ++ List.replicate (n + 1 - k) noCnd).drop (k + 1)).length = n - k := by simp; omega
  rw [h1, List.take_left' h2, List.drop_of_length_le (l := xs.take k ++ [q] ++ _) (by rw [List.length_append, h2, h3]; omega), List.append_nil]
  unfold putC
  simp
theorem ins_C {xs : List Cnd} {q : Cnd} {n k : Nat} (hl : xs.length = n) (hk : k < n) : ((xs.take (k + 1) ++ xs.drop k).take k ++ [q] ++ (xs.take (k + 1) ++ xs.drop k).drop (k + 1)) = putC xs q k := by
  have h1 : (xs.take (k + 1)).length = k + 1 := by simp; omega
  rw [List.take_append_of_le_length (by omega), List.take_take, Nat.min_eq_left (by omega), List.drop_append, List.drop_of_length_le (by omega), h1, Nat.sub_self, List.drop_zero, List.nil_append]
  unfold putC
  simp
theorem ct_set {ys : List Cnd} {i : Nat} {v : Cnd} (h : i < ys.length) : (ys.set i v).take (i + 1) = ys.take i ++ [v] := by
  rw [List.take_add_one, List.take_set, List.set_eq_of_length_le (by simp; omega)]
  simp [h]
theorem scclone_ok {Aq : Option Addr} {n cq : Nat} {xs : List Cnd} (w : World) (hO : Vec w condV 5 Aq n xs) (hn : n <= 1000000) : Calls prog 78 #[.slice Aq n cq] w fun r w' => ∃ (A : Option Addr) (c : Nat), r = .returned (.slice A n c) /\ OVec w' w.heap.size 66 condV 5 A n c xs /\ Le w w' := by
 refine enter func78 rfl rfl ?_
 have L0 := Le.refl w
 refine WC.sr (W.run 1 rfl (W.nx (WC.seq (WC.sr (W.run 1 rfl ?_)))))
 refine W.a (.isNil underlying49 rfl) ?_
 refine W.nx ?_
 by_cases c0 : Aq.isNone = true
 ·refine WC.condY rfl (c0) ?_
  refine WC.sr (W.run 1 rfl (W.nx (WC.ret (E.thenR ?_))))
  refine E.retG1 rfl rfl ?_
  have h0 : n = 0 := (by rcases Nat.eq_zero_or_pos n with h | h; exact h; have := hO.isSome condV_row h; rw [Option.isNone_iff_eq_none] at c0; rw [c0] at this; cases this); subst h0; have hx := List.length_eq_zero_iff.1 hO.1; subst hx; exact ⟨none, 0, rfl, OVec.nil _ _ _ _ _ _, L0⟩
 refine WC.condN rfl ((Bool.eq_false_iff.2 c0)) ?_
 refine WC.sn (WC.sr (W.ef rfl rfl rfl ?_))
 refine Ef.buildSlice0 underlying49 el66 ?_
 intro g3_0 w3_0 hg3_0 b3_0 h3_0
 have L1 := L0.trans h3_0
 have o3_0 : OVec w3_0 w.heap.size 66 condV 5 (some ⟨g3_0, 0, none⟩) 0 0 [] := OVec.nil _ _ _ _ _ _
 refine W.run 1 rfl (W.ef rfl rfl rfl ?_)
 refine Ef.vcat underlying49 el66 underlying49 condV_row rfl o3_0 rfl (hO.le L1) (by omega) (by unfold maxLen; omega) (by have := h3_0.size; omega) ?_
 intro A3_2 c3_2 w3_2 o3_2 h3_2 at3_2
 have L2 := L1.then_ h3_2 (fun q hq => Nat.le_trans L0.size (o3_0.row hq).1)
 refine W.run 1 rfl (W.nx (WC.ret ?_))
 refine E.retG1 rfl rfl ?_
 exact ⟨A3_2, c3_2, by rw [Nat.zero_add], (by simpa using (o3_2.mono L0.size)), L2⟩

theorem sbins_ok {A : Option Addr} {n c : Nat} {xs : List Cnd} (q : Cnd) {F : Nat} {caps : Array Value} (hgo : IsGo prog F) (w : World) (hV : Vec w condV 5 A n xs) (hn : n <= 1000000) (hs : xs.Pairwise ltC) (hf : ∀ (a b : Cnd) (w1 : World), Le w w1 -> Calls prog F (#[.agg (condV a).toArray, .agg (condV b).toArray] ++ caps) w1 fun r w2 => r = .returned (.int .i64 (aheadC a b)) /\ Le w1 w2) : Calls prog 76 #[.slice A n c, .agg (condV q).toArray, .func (.func F) #[] caps] w fun r w' => ∃ (k : Nat) (b : Bool), r = .returned (.tuple #[.int .i64 ((k : Nat) : Int), .bool b]) /\ PutAt xs q k /\ Le w w' := by
 have hl := hV.1
 refine enter func76 rfl rfl ?_
 have L0 := Le.refl w
 refine WC.sr (W.ef rfl rfl rfl ?_)
 refine Ef.boxA rfl ?_
 intro g0_0 w0_0 hg0_0 b0_0 h0_0
 have L1 := L0.trans h0_0
 have b0_0 : Blk w0_0 g0_0 66 (condV q).toArray := b0_0
 refine W.run 2 rfl (W.nx (WC.sr (W.run 1 rfl ?_)))
 refine W.r (.len underlying49 rfl) ?_
 refine W.run 1 rfl (W.nx (WC.sr (W.run 3 rfl (W.nx (WC.seq (WC.block ?_))))))
 refine WC.loop (ι := Nat × Nat) (fun ⟨i, j⟩ => [(0, .slice A n c), (2, .func (.func F) #[] caps), (4, .pointer (some ⟨g0_0, 0, none⟩)), (8, .int .i64 (((n : Nat) : Int))), (9, .int .i64 (((i : Nat) : Int))), (10, .int .i64 (((j : Nat) : Int)))]) (fun ⟨i, j⟩ wl0 => (i <= j /\ j <= n) /\ (∀ u, u < i -> ltC (xs.getD u noCnd) q) /\ (∀ u, j <= u -> u < n -> ¬ ltC (xs.getD u noCnd) q) /\ Le w wl0 /\ w0_0.heap.size <= wl0.heap.size /\ Blk wl0 g0_0 66 (condV q).toArray) (fun ⟨i, j⟩ => j - i) (0, n) ?_ ?_ ?_
 ·exact .cons rfl (.cons rfl (.cons rfl (.cons rfl (.cons rfl (.cons rfl (.nil _))))))
 ·exact ⟨by omega, fun u hu => absurd hu (Nat.not_lt_zero _), fun u h1 h2 => by omega, L1, Nat.le_refl _, b0_0⟩
 rintro ⟨i, j⟩ wl0 ⟨hij, hlo, hhi, Ll0, zl0, f0_0⟩
 refine WC.seq (WC.sr (W.run 3 rfl (W.nx ?_)))
 by_cases c0 : ((i : Nat) : Int) < ((j : Nat) : Int)
 ·refine WC.condY rfl (decide_eq_true c0) ?_
  refine WC.sn (WC.block (WC.sr (W.run 2 rfl ?_)))
  refine W.a (.add rfl rfl (by omega)) ?_
  refine W.r (.idI (isS underlying3) underlying147 rfl (IntWalk.u64_in _ (by omega))) ?_
  refine W.a (.shrE (i + j) 1 ((i + j) / 2) rfl (by first | rfl | omega) rfl rfl (by decide) rfl) ?_
  refine W.r (.idI (isS underlying147) underlying3 rfl (IntWalk.i64_in _ (by omega))) ?_
  refine W.run 1 rfl (W.nx (WC.seq ?_))
  refine WC.draw [0, 1, 2, 3, 4, 5, 6, 7] mixed (by kernel_rfl) ?_
  intro w5 d5
  have L2 := Ll0.trans d5
  refine G.run 3 rfl ?_
  refine G.a rfl (.idxS (((i + j) / 2)) underlying49 sz66 rfl rfl (hV.isSome condV_row (by omega)) (rfl) (by omega)) ?_
  refine G.r rfl (.vload ag66 rfl (hV.le L2) condV_row (getS xs noCnd (by omega))) ?_
  have f3 := (f0_0.le d5)
  refine G.r rfl (.loadAll ag66 (by rfl) rfl f3) ?_
  refine G.ef rfl rfl rfl rfl rfl ?_
  refine Ef.callC hgo rfl rfl rfl (hf _ _ _ L2) ?_
  rintro _ w5_6 ⟨rfl, h5_6⟩
  refine ⟨_, rfl, ?_⟩
  refine ⟨fun _ => h5_6, ?_⟩
  have L4 := L2.trans h5_6
  refine G.run 1 rfl (G.nil (E.thenN ?_))
  by_cases c1 : (aheadC (xs.getD ((i + j) / 2) noCnd) q) < 0
  ·refine WC.condY rfl (decide_eq_true c1) ?_
   refine WC.region (W.run 1 rfl ?_)
   refine W.a (.add rfl rfl (by omega)) ?_
   refine W.run 1 rfl (W.nil (E.blkN ?_))
   have f5 := (f3.le h5_6)
   refine E.again (((i + j) / 2) + 1, j) (.cons rfl (.cons rfl (.cons rfl (.cons rfl (.cons rfl (.cons rfl (.nil _))))))) ?_ ?_
   ·exact ⟨by omega, fun u hu => by rcases Nat.lt_or_ge u ((i + j) / 2) with h | h; exact lt_trans (ord_at hs (i := u) (j := ((i + j) / 2)) h (by omega)) (ahead_lt.1 (by assumption)); rw [show u = ((i + j) / 2) by omega]; exact ahead_lt.1 (by assumption), hhi, L4, by have := zl0; have := d5.size; have := h5_6.size; omega, f5⟩
   first | omega | (simp only []; omega)
  refine WC.condN rfl (decide_eq_false c1) ?_
  refine WC.region (W.run 2 rfl (W.nil (E.blkN ?_)))
  have f6 := (f3.le h5_6)
  refine E.again (i, ((i + j) / 2)) (.cons rfl (.cons rfl (.cons rfl (.cons rfl (.cons rfl (.cons rfl (.nil _))))))) ?_ ?_
  ·exact ⟨by omega, hlo, fun u hu hun h => by rcases Nat.lt_or_ge ((i + j) / 2) u with g | g; exact absurd (ahead_lt.2 (lt_trans (ord_at hs g (by omega)) h)) (by assumption); rw [show u = ((i + j) / 2) by omega] at h; exact absurd (ahead_lt.2 h) (by assumption), L4, by have := zl0; have := d5.size; have := h5_6.size; omega, f6⟩
  first | omega | (simp only []; omega)
 refine WC.condN rfl (decide_eq_false c0) ?_
 refine WC.exit (E.thenX (E.thenX (E.blkH (E.thenN (WC.seq ?_)))))
 refine WC.draw [0, 1, 2, 3, 4, 5, 6, 7, 8, 9, 10, 11, 12, 13, 14, 15] mixed (by kernel_rfl) ?_
 intro w8 d8
 have L7 := Ll0.trans d8
 refine G.run 4 rfl ?_
 by_cases q8_4 : ((i : Nat) : Int) < ((n : Nat) : Int)
 ·refine G.a rfl (.dec (.move rfl) (decide_eq_true q8_4)) ?_
  refine G.run 3 rfl ?_
  refine G.ag rfl (.idxS (i) underlying49 sz66 rfl rfl (hV.isSome condV_row (by omega)) (rfl) (by omega)) ?_
  refine G.rg rfl (.vload ag66 rfl (hV.le L7) condV_row (getS xs noCnd (by omega))) ?_
  have f8 := (f0_0.le d8)
  refine G.rg rfl (.loadAll ag66 (by rfl) rfl f8) ?_
  refine G.efg rfl rfl rfl rfl rfl (rfl) rfl rfl ?_
  refine Ef.callC hgo rfl rfl rfl (hf _ _ _ L7) ?_
  rintro _ w8_11 ⟨rfl, h8_11⟩
  refine ⟨_, rfl, ?_⟩
  refine ⟨fun _ => h8_11, ?_⟩
  have L9 := L7.trans h8_11
  refine G.run 4 rfl (G.nil (E.thenN (WC.ret ?_)))
  refine E.retG2 rfl rfl rfl ?_
  exact ⟨i, _, rfl, ⟨by omega, hlo, fun u h1 h2 => hhi u (by omega) (by omega)⟩, L9⟩
 refine G.a rfl (.dec (.move rfl) (decide_eq_false q8_4)) ?_
 refine G.run 11 rfl (G.nil (E.thenN (WC.ret ?_)))
 refine E.retG2 rfl rfl rfl ?_
 exact ⟨i, _, rfl, ⟨by omega, hlo, fun u h1 h2 => hhi u (by omega) (by omega)⟩, L7⟩

theorem sdelf_ok {base : Nat} {A : Option Addr} {n c : Nat} {xs : List Cnd} {F : Nat} {caps : Array Value} (pr : Cnd -> Bool) (hgo : IsGo prog F) (w : World) (hO : OVec w base 66 condV 5 A n c xs) (hn : n <= 1000000) (hf : ∀ (i : Cnd) (w1 : World), Ch w w1 (rowOf A c) -> Calls prog F (#[.agg (condV i).toArray] ++ caps) w1 fun r w2 => r = .returned (.bool (pr i)) /\ Le w1 w2) : Calls prog 79 #[.slice A n c, .func (.func F) #[] caps] w fun r w' => r = .returned (.slice A (xs.filter (fun i => !pr i)).length c) /\ OVec w' base 66 condV 5 A (xs.filter (fun i => !pr i)).length c (xs.filter (fun i => !pr i)) /\ Ch w w' (rowOf A c) := by
 have hl := hO.1
 refine enter func79 rfl rfl ?_
 have L0 := Ch.refl w (rowOf A c)
 refine WC.sr (W.run 1 rfl (W.nx (WC.sr (W.run 2 rfl ?_))))
 refine W.cl go74 rfl rfl (sindexc_ok pr hgo w hO.vec hn (fun i w1 hl => hf i w1 (L0.trans (hl.ch _)))) ?_
 rintro _ w1_2 ⟨rfl, h1_2⟩
 have L1 := L0.trans (h1_2.ch _)
 refine W.run 1 rfl (W.nx (WC.seq (WC.sr (W.run 2 rfl (W.nx ?_)))))
 by_cases c0 : (idxG pr xs) = (-1)
 ·refine WC.condY rfl (decide_eq_true c0) ?_
  have hno := cf_no (by assumption)
  refine WC.sr (W.run 2 rfl (W.nx (WC.ret (E.thenR ?_))))
  have f2 := (hO.le h1_2)
  refine E.retG1 rfl rfl ?_
  exact ⟨by rw [hno, hl], f2.cast (by rw [hno, hl]) hno.symm, L1⟩
 refine WC.condN rfl (decide_eq_false c0) ?_
 obtain ⟨i0, hi0, hi1, hi2, hi3⟩ := cf_one (by assumption)
 refine WC.sn (WC.seq (WC.sr ?_))
 refine W.a (.as (.move rfl) (int_eq (b := ((i0 : Nat) : Int)) hi0)) ?_
 refine W.a (.add rfl rfl (by omega)) ?_
 refine W.run 1 rfl (W.nx (WC.block ?_))
 have f3 := (hO.le h1_2)
 refine WC.loop (ι := Nat × Nat × (List Cnd)) (fun ⟨i, j, ys⟩ => [(0, .slice A n c), (1, .func (.func F) #[] caps), (5, .int .i64 (((i : Nat) : Int))), (6, .int .i64 (((j : Nat) : Int)))]) (fun ⟨i, j, ys⟩ wl0 => (i < j /\ j <= n) /\ (ys.length = n) /\ (ys.take i = (xs.take j).filter (fun i => !pr i)) /\ (∀ q, j <= q -> ys.getD q noCnd = xs.getD q noCnd) /\ Ch w wl0 (rowOf A c) /\ w1_2.heap.size <= wl0.heap.size /\ OVec wl0 base 66 condV 5 A n c ys) (fun ⟨i, j, ys⟩ => n - j) (i0, i0 + 1, xs) ?_ ?_ ?_
 ·exact .cons rfl (.cons rfl (.cons' rfl (int_eq hi0) (.cons rfl (.nil _))))
 ·exact ⟨by omega, hl, hi3, fun q _ => rfl, L1, Nat.le_refl _, f3⟩
 rintro ⟨i, j, ys⟩ wl0 ⟨hij, hyl, hya, hyb, Ll0, zl0, f0_0⟩
 refine WC.seq (WC.sr (W.run 2 rfl ?_))
 refine W.r (.len underlying49 rfl) ?_
 refine W.run 1 rfl (W.nx ?_)
 by_cases c1 : ((j : Nat) : Int) < ((n : Nat) : Int)
 ·refine WC.condY rfl (decide_eq_true c1) ?_
  refine WC.sn (WC.seq (WC.block (WC.sr (W.run 2 rfl ?_))))
  refine W.a (.idxS (j) underlying49 sz66 rfl rfl (hO.vec.isSome condV_row (by omega)) (rfl) (by omega)) ?_
  refine W.r (.vload ag66 rfl f0_0.vec condV_row (getS ys noCnd (by omega))) ?_
  refine W.ef rfl rfl rfl ?_
  refine Ef.allocA z66 ?_
  intro g7_4 w7_4 hg7_4 b7_4 h7_4
  have L4 := Ll0.trans (h7_4.ch _)
  have b7_4 : Blk w7_4 g7_4 66 (condV noCnd).toArray := b7_4
  refine W.ef0 rfl rfl ?_
  refine Ef.storeAll sz66 (by rfl) rfl rfl b7_4 (by simp only [List.size_toArray, condV_row.len]) (condV_row.one (ys.getD j noCnd)) ?_
  intro w7_5 b7_5 h7_5
  have b7_5 : Blk w7_5 g7_4 66 (condV (ys.getD j noCnd)).toArray := b7_5
  have L5 : Ch w w7_5 (rowOf A c) := L4.then_ h7_5 (fun q hq => .inl ((fun q hq => by cases hq; exact Nat.le_trans Ll0.size hg7_4) q hq))
  refine W.nx (WC.sr (W.run 1 rfl ?_))
  refine W.r (.loadAll ag66 (by rfl) rfl b7_5) ?_
  refine W.ef rfl rfl rfl ?_
  refine Ef.callC hgo rfl rfl rfl (hf _ _ L5) ?_
  rintro _ w8_2 ⟨rfl, h8_2⟩
  refine ⟨_, rfl, ?_⟩
  have L6 := L5.trans (h8_2.ch _)
  refine W.run 1 rfl (W.nx ?_)
  by_cases c2 : (pr (ys.getD j noCnd)) = true
  ·refine WC.condN rfl (congrArg not (c2)) ?_
   refine WC.skip (E.blkN (E.thenN (WC.region (W.run 1 rfl ?_))))
   refine W.a (.add rfl rfl (by omega)) ?_
   refine W.run 1 rfl (W.nil ?_)
   have f7 := (((f0_0.le h7_4).ch h7_5 (fun q hq => by cases hq; exact (fun he => by have := (f0_0.row he).2; omega))).le h8_2)
   refine E.again (i, j + 1, ys) (.cons rfl (.cons rfl (.cons rfl (.cons rfl (.nil _))))) ?_ ?_
   ·exact ⟨by omega, hyl, by rw [hya, cf_F xs j (by omega) (by rw [<- hyb j (Nat.le_refl _)]; have hq : pr (ys.getD j noCnd) = true := (by assumption); rw [hq]; rfl)], fun q hq => hyb q (by omega), L6, by have := zl0; have := h7_4.size; have := h7_5.size; have := h8_2.size; omega, f7⟩
   first | omega | (simp only []; omega)
  refine WC.condY rfl (congrArg not ((Bool.eq_false_iff.2 c2))) ?_
  refine WC.sr (W.run 2 rfl ?_)
  have f8 := (b7_5.le h8_2)
  refine W.r (.loadAll ag66 (by rfl) rfl f8) ?_
  refine W.a (.idxS (i) underlying49 sz66 rfl rfl (hO.vec.isSome condV_row (by omega)) (rfl) (by omega)) ?_
  have f9 := (((f0_0.le h7_4).ch h7_5 (fun q hq => by cases hq; exact (fun he => by have := (f0_0.row he).2; omega))).le h8_2)
  refine W.ef0 rfl rfl ?_
  refine Ef.vput (j := i) (ys.getD j noCnd) sz66 rfl rfl rfl f9 condV_row (by omega) ?_
  intro w9_4 o9_4 h9_4
  have L10 := L6.trans h9_4
  refine W.nx (WC.region (W.run 1 rfl ?_))
  refine W.a (.add rfl rfl (by omega)) ?_
  refine W.run 1 rfl (W.nil (E.blkN (E.thenN (WC.region (W.run 1 rfl ?_)))))
  refine W.a (.add rfl rfl (by omega)) ?_
  refine W.run 1 rfl (W.nil ?_)
  refine E.again (i + 1, j + 1, (ys.set i (ys.getD j noCnd))) (.cons rfl (.cons rfl (.cons rfl (.cons rfl (.nil _))))) ?_ ?_
  ·exact ⟨by omega, by rw [List.length_set]; exact hyl, by rw [ct_set (by omega), hya, hyb j (Nat.le_refl _) , <- cf_T xs j (by omega) (by rw [<- hyb j (Nat.le_refl _)]; have hq : ¬ pr (ys.getD j noCnd) = true := (by assumption); simp [-List.getD_eq_getElem?_getD, hq])], fun q hq => by rw [List.getD_eq_getElem?_getD, List.getElem?_set_ne (by omega), <- List.getD_eq_getElem?_getD]; exact hyb q (by omega), L10, by have := zl0; have := h7_4.size; have := h7_5.size; have := h8_2.size; have := h9_4.size; omega, o9_4⟩
  first | omega | (simp only []; omega)
 refine WC.condN rfl (decide_eq_false c1) ?_
 refine WC.exit (E.thenX (E.thenX (E.blkH (E.thenN (WC.sr (W.run 2 rfl ?_))))))
 have cp11 := f0_0.cap
 have v12 := f0_0.vec.cutL c i (by omega) (by omega) condV_row
 have v12l := v12.1
 refine W.a (.cutL (i) underlying49 sz66 rfl rfl (rfl) (by omega) (by omega)) ?_
 refine W.ef0 rfl rfl ?_
 refine Ef.vclearS (j := i) noCnd underlying49 el66 rfl rfl f0_0 condV_row (by omega) ?_
 intro w11_3 o11_3 h11_3
 have L13 := Ll0.trans h11_3
 refine W.nx (WC.sr (W.run 2 rfl ?_))
 have cp14 := o11_3.cap
 have v15 := o11_3.front i (by omega) condV_row
 have v15l := v15.1
 refine W.a (.cutH (i) underlying49 sz66 rfl rfl (rfl) (by omega)) ?_
 refine W.run 1 rfl (W.nx (WC.ret ?_))
 refine E.retG1 rfl rfl ?_
 have hfin : (ys.take i ++ List.replicate (n - i) noCnd).take i = (xs.filter (fun i => !pr i)) := by rw [List.take_append_of_le_length (by simp; omega), List.take_take, Nat.min_self, hya, List.take_of_length_le (by omega)]
 have hlen : i = (xs.filter (fun i => !pr i)).length := by rw [<- hfin]; simp; omega
 exact ⟨by rw [<- hlen], v15.cast hlen hfin, L13⟩

theorem sins_ok {base bv : Nat} {A : Option Addr} {n c gv cv : Nat} {xs : List Cnd} (q : Cnd) (k : Nat) (w : World) (hO : OVec w base 66 condV 5 A n c xs) (hV : OVec w bv 66 condV 5 (some ⟨gv, 0, none⟩) 1 cv [q]) (hap : Apart A c (some ⟨gv, 0, none⟩) cv) (hk : k <= n) (hn : n <= 1000000) (hbase : base <= w.heap.size) : Calls prog 77 #[.slice A n c, .int .i64 (((k : Nat) : Int)), .slice (some ⟨gv, 0, none⟩) 1 cv] w fun r w' => ∃ A' c', r = .returned (.slice A' (n + 1) c') /\ OVec w' base 66 condV 5 A' (n + 1) c' (putC xs q k) /\ Ch w w' (rowOf A c) := by
 have hl := hO.1
 have hcap := hO.cap
 refine enter func77 rfl rfl ?_
 have L0 := Ch.refl w (rowOf A c)
 refine WC.sr (W.run 1 rfl (W.nx (WC.sr (W.run 2 rfl ?_))))
 have cp1 := hO.cap
 have v2 := hO.vec.cutL c k (by omega) (by omega) condV_row
 have v2l := v2.1
 refine W.a (.cutL (k) underlying49 sz66 rfl rfl (rfl) (by omega) (by omega)) ?_
 refine W.nx (WC.sr (W.run 1 rfl ?_))
 refine W.r (.len underlying49 rfl) ?_
 refine W.run 1 rfl (W.nx (WC.seq (WC.sr (W.run 1 rfl ?_))))
 refine W.a (.dec (.eql rfl rfl) (show _ = false from by first | decide | rfl)) ?_
 refine W.nx (WC.condF rfl (WC.sn (WC.sr (W.run 1 rfl ?_))))
 refine W.r (.len underlying49 rfl) ?_
 refine W.run 1 rfl (W.nx (WC.seq (WC.sr (W.run 3 rfl (W.nx ?_)))))
 by_cases c1 : ((k : Nat) : Int) = ((n : Nat) : Int)
 ·refine WC.condY rfl (decide_eq_true c1) ?_
  refine WC.sr (W.run 2 rfl (W.ef rfl rfl rfl ?_))
  refine Ef.vcat underlying49 el66 underlying49 condV_row rfl hO rfl hV.vec (by omega) (by unfold maxLen; omega) (Nat.le_trans hbase (L0).size) ?_
  intro A7_2 c7_2 w7_2 o7_2 h7_2 at7_2
  have L3 := L0.trans h7_2
  refine W.run 1 rfl (W.nx (WC.ret (E.thenR ?_)))
  refine E.retG1 rfl rfl ?_
  exact ⟨_, _, rfl, o7_2.cast rfl (show xs ++ [q] = putC xs q k by unfold putC; rw [List.take_of_length_le (by omega), List.drop_of_length_le (by omega)]), L3⟩
 refine WC.condN rfl (decide_eq_false c1) ?_
 refine WC.sn (WC.seq (WC.sr (W.run 2 rfl ?_)))
 refine W.a (.add rfl rfl (by omega)) ?_
 refine W.run 1 rfl ?_
 refine W.r (.cap underlying49 rfl rfl) ?_
 refine W.run 1 rfl (W.nx ?_)
 by_cases c2 : ((c : Nat) : Int) < (((n : Nat) : Int) + 1)
 ·refine WC.condY rfl (decide_eq_true c2) ?_
  refine WC.sr (W.run 2 rfl ?_)
  have cp4 := hO.cap
  have v5 := hO.vec.cutH k (by omega) condV_row
  have v5l := v5.1
  refine W.a (.cutH (k) underlying49 sz66 rfl rfl (rfl) (by omega)) ?_
  refine W.run 2 rfl ?_
  refine W.a (.add rfl rfl (by omega)) ?_
  refine W.run 1 rfl ?_
  refine W.a (.sub rfl rfl (by omega)) ?_
  refine W.ef rfl rfl rfl ?_
  refine Ef.growZ (k := k) (q := (n + 1 - k)) noCnd underlying49 underlying3 el66 rfl condV_row rfl hO (by omega) rfl (by omega) (by omega) (by omega) (by omega) (by unfold maxLen; omega) ?_
  intro A9_8 c9_8 w9_8 o9_8 h9_8
  have L6 := L0.trans (h9_8.ch _)
  have o9_8 := o9_8.cast (m' := (n + 1)) (by omega) rfl
  refine W.run 1 rfl (W.nx (WC.sr (W.run 2 rfl ?_)))
  have cp7 := o9_8.cap
  have v8 := o9_8.vec.cutL c9_8 k (by omega) (by omega) condV_row
  have v8l := v8.1
  refine W.a (.cutL (k) underlying49 sz66 rfl rfl (rfl) (by omega) (by omega)) ?_
  refine W.run 1 rfl ?_
  have f9 := (hV.le h9_8)
  refine W.ef rfl rfl rfl ?_
  refine Ef.vcopyS (j := k) (k := 1) (ys := [q]) (m' := (n + 1)) (zs := ((xs.take k ++ List.replicate (n + 1 - k) noCnd).take k ++ [q] ++ (xs.take k ++ List.replicate (n + 1 - k) noCnd).drop (k + 1))) underlying49 sz66 underlying49 rfl o9_8 condV_row rfl (f9.vec) (by omega) (by omega) (by omega) (by omega) (by omega) (by omega) (by rfl) ?_
  intro w10_4 o10_4 h10_4
  have L10 : Ch w w10_4 (rowOf A c) := L6.then_ h10_4 (fun q hq => .inl ((fun q hq => Nat.le_trans L0.size (o9_8.row hq).1) q hq))
  refine W.nx (WC.seq ?_)
  refine WC.draw [0, 1, 2, 3, 4, 5, 6, 7, 8] mixed (by kernel_rfl) ?_
  intro w11 d11
  have L11 := L10.trans (d11.ch _)
  refine G.run 3 rfl ?_
  refine G.a rfl (.add rfl rfl (by omega)) ?_
  have f12 := (o10_4.le d11)
  have cp13 := f12.cap
  have v14 := f12.vec.cutL c9_8 (k + 1) (by omega) (by omega) condV_row
  have v14l := v14.1
  refine G.a rfl (.cutL ((k + 1)) underlying49 sz66 rfl rfl (by omega) (by omega) (by omega)) ?_
  refine G.run 2 rfl ?_
  have f15 := (((hO.le h9_8).ch h10_4 ((Apart.symm (fun q h1 h2 => by have := (hO.row h1).2; have := (o9_8.row h2).1; omega)))).le d11)
  have cp16 := f15.cap
  have v17 := f15.vec.cutL c k (by omega) (by omega) condV_row
  have v17l := v17.1
  refine G.a rfl (.cutL (k) underlying49 sz66 rfl rfl (rfl) (by omega) (by omega)) ?_
  refine G.ef rfl rfl rfl rfl rfl ?_
  refine Ef.vcopyS (j := (k + 1)) (k := (n - k)) (ys := (xs.drop k)) (m' := (n + 1)) (zs := (((xs.take k ++ List.replicate (n + 1 - k) noCnd).take k ++ [q] ++ (xs.take k ++ List.replicate (n + 1 - k) noCnd).drop (k + 1)).take (k + 1) ++ (xs.drop k) ++ ((xs.take k ++ List.replicate (n + 1 - k) noCnd).take k ++ [q] ++ (xs.take k ++ List.replicate (n + 1 - k) noCnd).drop (k + 1)).drop ((k + 1) + (n - k)))) underlying49 sz66 underlying49 rfl f12 condV_row rfl (v17) (by omega) (by omega) (by omega) (by omega) (by omega) (by omega) (by rfl) ?_
  intro w11_8 o11_8 h11_8
  refine noT (by kernel_rfl) ?_
  have L18 : Ch w w11_8 (rowOf A c) := L11.then_ h11_8 (fun q hq => .inl ((fun q hq => Nat.le_trans L0.size (f12.row hq).1) q hq))
  refine G.nil (E.thenN (WC.sr (W.run 2 rfl (W.nx (WC.ret (E.thenR ?_))))))
  refine E.retG1 rfl rfl ?_
  exact ⟨A9_8, c9_8, by rw [show k + (n + 1 - k) = n + 1 by omega], (o11_8.mono hbase).cast rfl (ins_B hl (by omega)), L18⟩
 refine WC.condN rfl (decide_eq_false c2) ?_
 refine WC.sn (WC.sr (W.run 3 rfl ?_))
 refine W.a (.add rfl rfl (by omega)) ?_
 refine W.a (.cutH (n + 1) underlying49 sz66 rfl rfl (by omega) (by omega)) ?_
 refine W.run 1 rfl (W.nx (WC.seq (WC.sr (W.run 4 rfl ?_))))
 refine W.a (.add rfl rfl (by omega)) ?_
 refine W.a (.cutL (k + 1) underlying49 sz66 rfl rfl (by omega) (by omega) (by omega)) ?_
 refine W.ef rfl rfl rfl ?_
 refine Ef.overlapsO (tR := 4) func101 rfl rfl (by kernel_rfl) (by kernel_rfl) underlying49 sz66 rfl rfl hV hO condV_row (by omega) (by omega) hap ?_
 refine W.run 1 rfl (W.nx (WC.condT rfl (WC.seq ?_)))
 refine WC.draw [0, 1, 2, 3, 4, 5, 6, 7, 8] mixed (by kernel_rfl) ?_
 intro w15 d15
 have L19 := L0.trans (d15.ch _)
 refine G.run 3 rfl ?_
 refine G.a rfl (.add rfl rfl (by omega)) ?_
 refine G.a rfl (.cutL (k + 1) underlying49 sz66 rfl rfl (by omega) (by omega) (by omega)) ?_
 refine G.run 2 rfl ?_
 refine G.a rfl (.cutL k underlying49 sz66 rfl rfl (by omega) (by omega) (by omega)) ?_
 have f20 := (hO.le d15)
 refine G.ef rfl rfl rfl rfl rfl ?_
 refine Ef.vcopyD (j := (k + 1)) (dl := (n + 1 - (k + 1))) (ys := (xs.drop k)) (m' := (n + 1)) (zs := (xs.take (k + 1) ++ xs.drop k)) underlying49 sz66 underlying49 rfl f20 condV_row rfl (by have z := f20.vec.cutL c k (by omega) (by omega) condV_row; rw [show n - k = n + 1 - (k + 1) by omega] at z; exact z) (by omega) (by omega) (by omega) (by omega) (by omega) (by omega) (by rw [List.drop_of_length_le (i := k + 1 + (n + 1 - (k + 1))) (by omega), List.append_nil]) ?_
 intro w15_8 o15_8 h15_8
 refine noT (by kernel_rfl) ?_
 have L21 := L19.trans h15_8
 refine G.nil (E.thenN (WC.sr (W.run 2 rfl ?_)))
 refine W.a (.cutL k underlying49 sz66 rfl rfl (by omega) (by omega) (by omega)) ?_
 refine W.run 1 rfl ?_
 have f22 := ((hV.le d15).ch h15_8 (hap))
 refine W.ef rfl rfl rfl ?_
 refine Ef.vcopyS (j := k) (k := 1) (ys := [q]) (m' := (n + 1)) (zs := ((xs.take (k + 1) ++ xs.drop k).take k ++ [q] ++ (xs.take (k + 1) ++ xs.drop k).drop (k + 1))) underlying49 sz66 underlying49 rfl o15_8 condV_row rfl (f22.vec) (by omega) (by omega) (by omega) (by omega) (by omega) (by omega) (by rfl) ?_
 intro w16_4 o16_4 h16_4
 have L23 := L21.trans h16_4
 refine W.nx (WC.sr (W.run 2 rfl (W.nx (WC.ret (E.thenR ?_)))))
 refine E.retG1 rfl rfl ?_
 exact ⟨A, c, rfl, o16_4.cast rfl (ins_C hl (by omega)), L23⟩
end Go.Proofs.YtgpaekbdbpkogaaGreat

namespace Go.Proofs.YtgpaekbdbpkogaaGreat
open Tryz
open Go Go.Sx Go.Num Go.Gsp Go.Lsp Go.Shp
set_option maxRecDepth 20000
def noSta : Sta := ⟨0, 0, 0, [], 0⟩
def setT (s : Sta) (fr id : Int) (sec : Nat) : Sta := match findC s.cs fr id with
  | none => noSta
  | some c => if base sec ≠ c.pt then noSta else endS s c (1 - fr)
def failT (s : Sta) (fr id : Int) : Sta := match findC s.cs fr id with
  | none => noSta
  | some c => endS s c fr
theorem set_next {s : Sta} {L : Led} {amt op fr id : Int} (hL : RelS s L) (hr : RightS amt op s) (hop : 0 <= op /\ op <= 1) (hg : GoodL L) (hfr : 0 <= fr /\ fr <= 1) (sec : Nat) : (setE s fr id sec = 0 -> RightS amt op (setT s fr id sec) /\ RelS (setT s fr id sec) (settleL L 0 fr id sec).1) /\ (¬ setE s fr id sec = 0 -> RelS s (settleL L 0 fr id sec).1) /\ (settleL L 0 fr id sec).2 = setE s fr id sec := by
  obtain ⟨h1, h2, h3⟩ := hL.settle hr hg hfr (id := id) sec
  refine ⟨fun he => ?_, fun he => by rw [h3 he]; exact hL, h1⟩
  obtain ⟨c, hc, hR⟩ := h2 he
  have e : setT s fr id sec = endS s c (1 - fr) := by
    unfold setT setE at *
    rw [hc] at he ⊢
    simp only at he ⊢
    split at he
    · cases he
    · rename_i hh; rw [if_neg hh]
  rw [e]
  exact ⟨end_right hr hop (find_mem hc).1 (by omega), hR⟩
theorem fail_next {s : Sta} {L : Led} {amt op fr id : Int} (hL : RelS s L) (hr : RightS amt op s) (hop : 0 <= op /\ op <= 1) (hg : GoodL L) (hfr : 0 <= fr /\ fr <= 1) : (failE s fr id = 0 -> RightS amt op (failT s fr id) /\ RelS (failT s fr id) (failL L 0 fr id).1) /\ (¬ failE s fr id = 0 -> RelS s (failL L 0 fr id).1) /\ (failL L 0 fr id).2 = failE s fr id := by
  obtain ⟨h1, h2, h3⟩ := hL.fail hr hg hfr (id := id)
  refine ⟨fun he => ?_, fun he => by rw [h3 he]; exact hL, h1⟩
  obtain ⟨c, hc, hR⟩ := h2 he
  have e : failT s fr id = endS s c fr := by
    unfold failT
    rw [hc]
  rw [e]
  exact ⟨end_right hr hop (find_mem hc).1 hfr, hR⟩
def sameC (q i : Cnd) : Bool := decide (aheadC i q = 0)
theorem del_eq (xs : List Cnd) (q : Cnd) : xs.filter (fun i => !sameC q i) = delC xs q.fr q.id := by
  unfold delC
  refine List.filter_congr fun i _ => ?_
  unfold sameC isC
  by_cases h : aheadC i q = 0
  · obtain ⟨h1, h2⟩ := ahead_eq.1 h; simp [h, h1, h2]
  · have : ¬ (i.fr = q.fr /\ i.id = q.id) := fun e => h (ahead_eq.2 e)
    simp only [h, decide_false, Bool.not_false]
    by_cases e1 : i.fr = q.fr <;> by_cases e2 : i.id = q.id <;> simp_all
theorem end_cells (s : Sta) (q : Cnd) (i : Int) : (endS s q i).no = s.no /\ (endS s q i).rt = s.rt /\ (endS s q i).cs = delC s.cs q.fr q.id /\ (endS s q i).h0 = (if i = 0 then s.h0 + q.am else s.h0) /\ (endS s q i).h1 = if i = 0 then s.h1 else s.h1 + q.am := by
  unfold endS Sta.setH Sta.h
  split <;> exact ⟨rfl, rfl, rfl, rfl, rfl⟩
theorem add_cells (s : Sta) (q : Cnd) (k : Nat) : (Shp.addS s q k).no = s.no /\ (Shp.addS s q k).rt = s.rt /\ (Shp.addS s q k).cs = putC s.cs q k /\ (Shp.addS s q k).h0 = (if q.fr = 0 then s.h0 - q.am else s.h0) /\ (Shp.addS s q k).h1 = if q.fr = 0 then s.h1 else s.h1 - q.am := by
  unfold Shp.addS Sta.setH Sta.h
  split <;> exact ⟨rfl, rfl, rfl, rfl, rfl⟩
theorem add_ok_of {op : Int} {s : Sta} {q : Cnd} {k : Nat} (hop : 0 <= op /\ op <= 1) (hf : FineC q) (hp : PutAt s.cs q k) (hn : findC s.cs q.fr q.id = none) (hlen : s.cs.length < 16) (hfu : q.am <= s.h q.fr) (hfree : ¬ freeC op (Shp.addS s q k) op < 0) : AddOk op s q := by
  refine ⟨hf, hn, hlen, hfu, ?_⟩
  unfold freeC at hfree
  rw [if_pos rfl] at hfree
  obtain ⟨e1, e2, e3, _, _⟩ := add_cells s q k
  have he : (Shp.addS s q k).h op = if op = q.fr then s.h q.fr - q.am else s.h op := by
    have := (setH_h { s with cs := putC s.cs q k } (s.h q.fr - q.am) hf.1).2 op hop
    exact this
  rw [e2, e3, putC_len hp.le, he] at hfree
  by_cases e : op = q.fr
  · rw [if_pos e] at hfree ⊢; rw [e]; omega
  · rw [if_neg e] at hfree ⊢; omega
theorem swith_ok (q : Cnd) {s : Sta} {A : Option Addr} {n c : Nat} (w : World) (hC : Vec w condV 5 A n s.cs) (hlen : s.cs.length <= 16) (hs : s.cs.Pairwise ltC) : Calls prog 43 #[.agg #[.int .i64 (s.no), .int .i64 (s.h0), .int .i64 (s.h1), .slice A n c, .int .i64 (s.rt)], .agg (condV q).toArray] w fun r w' => ∃ (k : Nat) (A' : Option Addr) (c' : Nat), r = .returned (.agg #[.int .i64 s.no, .int .i64 s.h0, .int .i64 s.h1, .slice A' (n + 1) c', .int .i64 s.rt]) /\ PutAt s.cs q k /\ OVec w' w.heap.size 66 condV 5 A' (n + 1) c' (putC s.cs q k) /\ Le w w' := by
 have hl := hC.1
 refine enter func43 rfl rfl ?_
 have L0 := Le.refl w
 refine WC.sr (W.ef rfl rfl rfl ?_)
 refine Ef.boxA rfl ?_
 intro g0_0 w0_0 hg0_0 b0_0 h0_0
 have L1 := L0.trans h0_0
 have b0_0 : Blk w0_0 g0_0 51 #[.int .i64 (s.no), .int .i64 (s.h0), .int .i64 (s.h1), .slice A n c, .int .i64 (s.rt)] := b0_0
 refine W.ef rfl rfl rfl ?_
 refine Ef.boxA rfl ?_
 intro g0_1 w0_1 hg0_1 b0_1 h0_1
 have L2 := L1.trans h0_1
 have b0_1 : Blk w0_1 g0_1 66 (condV q).toArray := b0_1
 refine W.ef rfl rfl rfl ?_
 refine Ef.allocA z51 ?_
 intro g0_2 w0_2 hg0_2 b0_2 h0_2
 have L3 := L2.trans h0_2
 have b0_2 : Blk w0_2 g0_2 51 #[.int .i64 (0), .int .i64 (0), .int .i64 (0), .slice none 0 0, .int .i64 (0)] := b0_2
 refine W.nx (WC.sr ?_)
 refine W.a (.field0 fa51_2 rfl) ?_
 have f4 := (b0_0.le (h0_1.trans h0_2))
 refine W.r (.loadB (v := .slice A n c) na49 rfl f4 rfl) ?_
 have f5 := (b0_1.le h0_2)
 refine W.r (.loadAll ag66 (by rfl) rfl f5) ?_
 refine W.cl go76 rfl rfl (sbins_ok (c := c) q go72 w0_2 (hC.le L3) (by omega) hs (fun a b w1 _ => sahead_ok a b w1)) ?_
 rintro _ w1_3 ⟨k1_3, b1_3, rfl, hk1_3, h1_3⟩
 have L6 := L3.trans h1_3
 refine W.run 5 rfl (W.nx (WC.seq ?_))
 refine WC.drawT (fun o => (app o [0, 1, 3, 4] (.br (app o [2, 5, 6, 7, 8] .nil) (app o [5, 2, 6, 7, 8] .nil)))) mixed (by kernel_rfl) ?_
 intro w2 d2
 have L7 := L6.trans d2
 refine GT.app ?_
 refine G.a rfl (.field0 fa51_2 rfl) ?_
 have f8 := (f4.le (h1_3.trans d2))
 refine G.r rfl (.loadB (v := .slice A n c) na49 rfl f8 rfl) ?_
 refine G.run 1 rfl ?_
 have f9 := (f5.le (h1_3.trans d2))
 refine G.r rfl (.loadAll ag66 (by rfl) rfl f9) ?_
 refine G.nil ?_
 refine GT.br ?_ ?_
 ·refine GT.last ?_
  refine G.ef rfl rfl rfl rfl rfl ?_
  refine Ef.call go78 rfl rfl (scclone_ok (cq := c) w2 (hC.le L7) (by omega)) ?_
  rintro _ w2_2 ⟨Ac2_2, cc2_2, rfl, oc2_2, h2_2⟩
  refine ⟨_, rfl, ?_⟩
  refine ⟨fun _ => h2_2, ?_⟩
  have L10 := L7.trans h2_2
  refine G.ef rfl rfl rfl rfl rfl ?_
  refine Ef.buildSliceV (len := 1) [_] underlying49 el66 rfl (by simp [Value.cells, condV_row.len]) rfl (by decide) (by decide) ?_
  intro g2_5 w2_5 hg2_5 b2_5 h2_5
  refine ⟨fun _ => h2_5, ?_⟩
  have L11 := L10.trans h2_5
  have b2_5 : Blk w2_5 g2_5 66 (([q]).map condV).flatten.toArray := b2_5
  have o2_5 : OVec w2_5 w2_2.heap.size 66 condV 5 (some ⟨g2_5, 0, none⟩) 1 1 ([q]) := b2_5.ovec hg2_5 condV_row rfl rfl (by decide)
  have f12 := (oc2_2.le h2_5)
  refine G.ef rfl rfl rfl rfl rfl ?_
  refine Ef.call go77 rfl rfl (sins_ok q k1_3 w2_5 f12 o2_5 (fun q h1 h2 => by have := (oc2_2.row h1).2; have := (o2_5.row h2).1; omega) (by have := hk1_3.le; omega) (by omega) (by have := h2_2.size; have := h2_5.size; omega)) ?_
  rintro _ w2_6 ⟨A2_6, c2_6, rfl, o2_6, h2_6⟩
  refine ⟨_, rfl, ?_⟩
  refine noT (by kernel_rfl) ?_
  have L13 := L11.then_ h2_6 (fun q hq => Nat.le_trans L7.size (f12.row hq).1)
  refine G.a rfl (.field0 fa51_2 rfl) ?_
  have f14 := ((f8.le (h2_2.trans h2_5)).ch h2_6 (fun he => by have := (f12.row he).1; have := f8.lt; omega))
  refine G.ef0 rfl rfl rfl rfl ?_
  refine Ef.store sz49 rfl rfl f14 (by first | decide | (simp; done)) (rfl) ?_
  intro w2_8 b2_8 h2_8
  refine noT (by kernel_rfl) ?_
  have b2_8 : Blk w2_8 g0_0 51 #[.int .i64 (s.no), .int .i64 (s.h0), .int .i64 (s.h1), .slice A2_6 (n + 1) c2_6, .int .i64 (s.rt)] := b2_8
  have L15 := L13.tb h2_8 L0 hg0_0
  refine G.nil (E.thenN (WC.sr ?_))
  refine W.r (.loadAll ag51 (by rfl) rfl b2_8) ?_
  have f16 := (((b0_2.le (h1_3.trans (d2.trans (h2_2.trans h2_5)))).ch h2_6 (fun he => by have := (f12.row he).1; have := b0_2.lt; have := h1_3.size; have := d2.size; omega)).ch h2_8 (fun h => (show g0_0 ≠ g0_2 from by have := b0_0.lt; have := h0_1.size; omega) (oI h)))
  refine W.sA sz51 rfl rfl f16 ?_
  intro w3_1 b3_1 h3_1
  have b3_1 : Blk w3_1 g0_2 51 #[.int .i64 (s.no), .int .i64 (s.h0), .int .i64 (s.h1), .slice A2_6 (n + 1) c2_6, .int .i64 (s.rt)] := b3_1
  have L17 := L15.tb h3_1 L2 hg0_2
  refine W.nx (WC.ret ?_)
  have f18 := ((o2_6.ch h2_8 (fun q hq => by cases hq; exact (fun he => by have := (o2_6.row he).1; have := f8.lt; omega))).ch h3_1 (fun q hq => by cases hq; exact (fun he => by have := (o2_6.row he).1; have := b0_2.lt; have := h1_3.size; have := d2.size; omega)))
  refine E.retG1 rfl (resA rfl b3_1 ag51 (by rfl)) ?_
  exact ⟨k1_3, A2_6, c2_6, rfl, hk1_3, (f18.mono L7.size), L17⟩
 refine GT.last ?_
 refine G.ef rfl rfl rfl rfl rfl ?_
 refine Ef.buildSliceV (len := 1) [_] underlying49 el66 rfl (by simp [Value.cells, condV_row.len]) rfl (by decide) (by decide) ?_
 intro g2_5_1 w2_5_1 hg2_5_1 b2_5_1 h2_5_1
 refine ⟨fun _ => h2_5_1, ?_⟩
 have L19 := L7.trans h2_5_1
 have b2_5_1 : Blk w2_5_1 g2_5_1 66 (([q]).map condV).flatten.toArray := b2_5_1
 have o2_5_1 : OVec w2_5_1 w2.heap.size 66 condV 5 (some ⟨g2_5_1, 0, none⟩) 1 1 ([q]) := b2_5_1.ovec hg2_5_1 condV_row rfl rfl (by decide)
 refine G.ef rfl rfl rfl rfl rfl ?_
 refine Ef.call go78 rfl rfl (scclone_ok (cq := c) w2_5_1 (hC.le L19) (by omega)) ?_
 rintro _ w2_2_1 ⟨Ac2_2_1, cc2_2_1, rfl, oc2_2_1, h2_2_1⟩
 refine ⟨_, rfl, ?_⟩
 refine ⟨fun _ => h2_2_1, ?_⟩
 have L20 := L19.trans h2_2_1
 have f21 := (o2_5_1.le h2_2_1)
 refine G.ef rfl rfl rfl rfl rfl ?_
 refine Ef.call go77 rfl rfl (sins_ok q k1_3 w2_2_1 oc2_2_1 f21 (Apart.symm (fun q h1 h2 => by have := (o2_5_1.row h1).2; have := (oc2_2_1.row h2).1; omega)) (by have := hk1_3.le; omega) (by omega) (by have := h2_2_1.size; omega)) ?_
 rintro _ w2_6_1 ⟨A2_6_1, c2_6_1, rfl, o2_6_1, h2_6_1⟩
 refine ⟨_, rfl, ?_⟩
 refine noT (by kernel_rfl) ?_
 have L22 := L20.then_ h2_6_1 (fun q hq => Nat.le_trans L19.size (oc2_2_1.row hq).1)
 refine G.a rfl (.field0 fa51_2 rfl) ?_
 have f23 := ((f8.le (h2_5_1.trans h2_2_1)).ch h2_6_1 (fun he => by have := (oc2_2_1.row he).1; have := f8.lt; have := h2_5_1.size; omega))
 refine G.ef0 rfl rfl rfl rfl ?_
 refine Ef.store sz49 rfl rfl f23 (by first | decide | (simp; done)) (rfl) ?_
 intro w2_8_1 b2_8_1 h2_8_1
 refine noT (by kernel_rfl) ?_
 have b2_8_1 : Blk w2_8_1 g0_0 51 #[.int .i64 (s.no), .int .i64 (s.h0), .int .i64 (s.h1), .slice A2_6_1 (n + 1) c2_6_1, .int .i64 (s.rt)] := b2_8_1
 have L24 := L22.tb h2_8_1 L0 hg0_0
 refine G.nil (E.thenN (WC.sr ?_))
 refine W.r (.loadAll ag51 (by rfl) rfl b2_8_1) ?_
 have f25 := (((b0_2.le (h1_3.trans (d2.trans (h2_5_1.trans h2_2_1)))).ch h2_6_1 (fun he => by have := (oc2_2_1.row he).1; have := b0_2.lt; have := h1_3.size; have := d2.size; have := h2_5_1.size; omega)).ch h2_8_1 (fun h => (show g0_0 ≠ g0_2 from by have := b0_0.lt; have := h0_1.size; omega) (oI h)))
 refine W.sA sz51 rfl rfl f25 ?_
 intro w3_1_1 b3_1_1 h3_1_1
 have b3_1_1 : Blk w3_1_1 g0_2 51 #[.int .i64 (s.no), .int .i64 (s.h0), .int .i64 (s.h1), .slice A2_6_1 (n + 1) c2_6_1, .int .i64 (s.rt)] := b3_1_1
 have L26 := L24.tb h3_1_1 L2 hg0_2
 refine W.nx (WC.ret ?_)
 have f27 := ((o2_6_1.ch h2_8_1 (fun q hq => by cases hq; exact (fun he => by have := (o2_6_1.row he).1; have := f8.lt; have := h2_5_1.size; omega))).ch h3_1_1 (fun q hq => by cases hq; exact (fun he => by have := (o2_6_1.row he).1; have := b0_2.lt; have := h1_3.size; have := d2.size; have := h2_5_1.size; omega)))
 refine E.retG1 rfl (resA rfl b3_1_1 ag51 (by rfl)) ?_
 exact ⟨k1_3, A2_6_1, c2_6_1, rfl, hk1_3, (f27.mono L19.size), L26⟩

theorem swo1_ok (i q : Cnd) {g1 : Nat} (w : World) (hg1 : Blk w g1 66 (condV q).toArray) : Calls prog 80 #[.agg (condV i).toArray, .pointer (some ⟨g1, 0, none⟩)] w fun r w' => r = .returned (.bool (sameC q i)) /\ Le w w' := by
 refine enter func80 rfl rfl ?_
 have L0 := Le.refl w
 refine WC.sr (W.ef rfl rfl rfl ?_)
 refine Ef.boxA rfl ?_
 intro g0_0 w0_0 hg0_0 b0_0 h0_0
 have L1 := L0.trans h0_0
 have b0_0 : Blk w0_0 g0_0 66 (condV i).toArray := b0_0
 refine W.run 1 rfl (W.nx (WC.sr ?_))
 refine W.r (.loadAll ag66 (by rfl) rfl b0_0) ?_
 refine W.r (.loadAll ag66 (by rfl) rfl (hg1.le L1)) ?_
 refine W.cl go72 rfl rfl (sahead_ok i q w0_0) ?_
 rintro _ w1_2 ⟨rfl, h1_2⟩
 have L2 := L1.trans h1_2
 refine W.run 2 rfl (W.nx (WC.ret ?_))
 refine E.retG1 rfl rfl ?_
 exact ⟨(by first | rfl | (simp [sameC]; done) | (simp [sameC]; omega) | (simp [sameC]; split <;> first | (exfalso; omega) | (simp; done) | (simp; omega))), L2⟩

theorem sdel2_ok {base : Nat} {A : Option Addr} {n c : Nat} {xs : List Cnd} (q : Cnd) {F : Nat} {caps : Array Value} (hgo : IsGo prog F) (w : World) (hO : OVec w base 66 condV 5 A n c xs) (hn : n <= 1000000) (hf : ∀ (i : Cnd) (w1 : World), Ch w w1 (rowOf A c) -> Calls prog F (#[.agg (condV i).toArray] ++ caps) w1 fun r w2 => r = .returned (.bool (sameC q i)) /\ Le w1 w2) :
    Calls prog 79 #[.slice A n c, .func (.func F) #[] caps] w fun r w' => r = .returned (.slice A (delC xs q.fr q.id).length c) /\ OVec w' base 66 condV 5 A (delC xs q.fr q.id).length c (delC xs q.fr q.id) /\ Ch w w' (rowOf A c) := by
  have k := sdelf_ok (sameC q) hgo w hO hn hf
  rw [del_eq] at k
  exact k

theorem swithout_ok (q : Cnd) (i : Int) {s : Sta} {amt op : Int} {A : Option Addr} {n c : Nat} (w : World) (hC : Vec w condV 5 A n s.cs) (hr : RightS amt op s) (ha : (0 <= i /\ i <= 1) /\ 0 <= q.am /\ q.am <= 1125899906842624) : Calls prog 46 #[.agg #[.int .i64 (s.no), .int .i64 (s.h0), .int .i64 (s.h1), .slice A n c, .int .i64 (s.rt)], .agg (condV q).toArray, .int .i64 (i)] w fun r w' => ∃ (n' : Nat) (A' : Option Addr) (c' : Nat), r = .returned (.agg #[.int .i64 (endS s q i).no, .int .i64 (endS s q i).h0, .int .i64 (endS s q i).h1, .slice A' n' c', .int .i64 (endS s q i).rt]) /\ OVec w' w.heap.size 66 condV 5 A' n' c' (endS s q i).cs /\ Le w w' := by
 have hl := hC.1; have hlen := hr.len; have hh0 := hr.h0_; have hh1 := hr.h1_
 obtain ⟨hi, ha⟩ := ha
 refine enter func46 rfl rfl ?_
 have L0 := Le.refl w
 refine WC.sr (W.ef rfl rfl rfl ?_)
 refine Ef.boxA rfl ?_
 intro g0_0 w0_0 hg0_0 b0_0 h0_0
 have L1 := L0.trans h0_0
 have b0_0 : Blk w0_0 g0_0 51 #[.int .i64 (s.no), .int .i64 (s.h0), .int .i64 (s.h1), .slice A n c, .int .i64 (s.rt)] := b0_0
 refine W.ef rfl rfl rfl ?_
 refine Ef.boxA rfl ?_
 intro g0_1 w0_1 hg0_1 b0_1 h0_1
 have L2 := L1.trans h0_1
 have b0_1 : Blk w0_1 g0_1 66 (condV q).toArray := b0_1
 refine W.ef rfl rfl rfl ?_
 refine Ef.allocA z51 ?_
 intro g0_2 w0_2 hg0_2 b0_2 h0_2
 have L3 := L2.trans h0_2
 have b0_2 : Blk w0_2 g0_2 51 #[.int .i64 (0), .int .i64 (0), .int .i64 (0), .slice none 0 0, .int .i64 (0)] := b0_2
 refine W.nx (WC.sr ?_)
 refine W.a (.field0 fa51_2 rfl) ?_
 have f4 := (b0_0.le (h0_1.trans h0_2))
 refine W.r (.loadB (v := .slice A n c) na49 rfl f4 rfl) ?_
 refine W.cl go78 rfl rfl (scclone_ok (cq := c) w0_2 (hC.le L3) (by omega)) ?_
 rintro _ w1_2 ⟨Ac1_2, cc1_2, rfl, oc1_2, h1_2⟩
 have L5 := L3.trans h1_2
 refine W.a (.makeFunc rfl) ?_
 have f6 := (b0_1.le (h0_2.trans h1_2))
 refine W.cl go79 rfl rfl (sdel2_ok q go80 w1_2 oc1_2 (by omega) (fun i w1 hl => swo1_ok i q w1 (f6.ch hl (fun he => by have := (oc1_2.row he).1; have := b0_1.lt; have := h0_2.size; omega)))) ?_
 rintro _ w1_4 ⟨rfl, o1_4, h1_4⟩
 have L7 := L5.then_ h1_4 (fun q hq => Nat.le_trans L3.size (oc1_2.row hq).1)
 refine W.a (.field0 fa51_2 rfl) ?_
 have f8 := ((f4.le h1_2).ch h1_4 (fun he => by have := (oc1_2.row he).1; have := f4.lt; omega))
 refine W.ef0 rfl rfl ?_
 refine Ef.store sz49 rfl rfl f8 (by first | decide | (simp; done)) (rfl) ?_
 intro w1_6 b1_6 h1_6
 have b1_6 : Blk w1_6 g0_0 51 #[.int .i64 (s.no), .int .i64 (s.h0), .int .i64 (s.h1), .slice Ac1_2 ((delC s.cs q.fr q.id).length) cc1_2, .int .i64 (s.rt)] := b1_6
 have L9 := L7.tb h1_6 L0 hg0_0
 refine W.nx (WC.seq ?_)
 refine WC.draw [0, 1, 2, 3, 4, 5, 6, 7, 8, 9] mixed (by kernel_rfl) ?_
 intro w2 d2
 have L10 := L9.trans d2
 by_cases qc2_0 : i = 0
 ·refine G.run 1 rfl ?_
  refine G.a rfl (.field0 fa51_1 rfl) ?_
  refine G.a rfl (.idxAo (0) underlying48 sz3 rfl rfl (by omega) (by omega)) ?_
  have f11 := (b1_6.le d2)
  refine G.r rfl (.loadB (v := .int .i64 (s.h0)) na3 rfl f11 rfl) ?_
  refine G.a rfl (.field0 fa66_2 rfl) ?_
  have f12 := (((f6.ch h1_4 (fun he => by have := (oc1_2.row he).1; have := b0_1.lt; have := h0_2.size; omega)).ch h1_6 (fun h => (show g0_0 ≠ g0_1 from by have := b0_0.lt; omega) (oI h))).le d2)
  refine G.r rfl (.loadB (v := .int .i64 (q.am)) na3 rfl f12 rfl) ?_
  refine G.a rfl (.add rfl rfl (by omega)) ?_
  refine G.a rfl (.field0 fa51_1 rfl) ?_
  refine G.a rfl (.idxAo (0) underlying48 sz3 rfl rfl (by omega) (by omega)) ?_
  refine G.ef0 rfl rfl rfl rfl ?_
  refine Ef.store sz3 rfl rfl f11 (by first | decide | (simp; done)) (rfl) ?_
  intro w2_9 b2_9 h2_9
  refine noT (by kernel_rfl) ?_
  have b2_9 : Blk w2_9 g0_0 51 #[.int .i64 (s.no), .int .i64 ((s.h0 + q.am)), .int .i64 (s.h1), .slice Ac1_2 ((delC s.cs q.fr q.id).length) cc1_2, .int .i64 (s.rt)] := b2_9
  have L13 := L10.tb h2_9 L0 hg0_0
  refine G.nil (E.thenN (WC.sr ?_))
  refine W.r (.loadAll ag51 (by rfl) rfl b2_9) ?_
  have f14 := (((((b0_2.le h1_2).ch h1_4 (fun he => by have := (oc1_2.row he).1; have := b0_2.lt; omega)).ch h1_6 (fun h => (show g0_0 ≠ g0_2 from by have := b0_0.lt; have := h0_1.size; omega) (oI h))).le d2).ch h2_9 (fun h => (show g0_0 ≠ g0_2 from by have := b0_0.lt; have := h0_1.size; omega) (oI h)))
  refine W.sA sz51 rfl rfl f14 ?_
  intro w3_1 b3_1 h3_1
  have b3_1 : Blk w3_1 g0_2 51 #[.int .i64 (s.no), .int .i64 ((s.h0 + q.am)), .int .i64 (s.h1), .slice Ac1_2 ((delC s.cs q.fr q.id).length) cc1_2, .int .i64 (s.rt)] := b3_1
  have L15 := L13.tb h3_1 L2 hg0_2
  refine W.nx (WC.ret ?_)
  have f16 := ((((o1_4.ch h1_6 (fun q hq => by cases hq; exact (fun he => by have := (o1_4.row he).1; have := f4.lt; omega))).le d2).ch h2_9 (fun q hq => by cases hq; exact (fun he => by have := (o1_4.row he).1; have := f4.lt; omega))).ch h3_1 (fun q hq => by cases hq; exact (fun he => by have := (o1_4.row he).1; have := b0_2.lt; omega)))
  refine E.retG1 rfl (resA rfl b3_1 ag51 (by rfl)) ?_
  obtain ⟨e1, e2, e3, e4, e5⟩ := end_cells s q i
  exact ⟨_, Ac1_2, cc1_2, by rw [e1, e2, e4, e5, if_pos (by assumption), if_pos (by assumption)], (f16.mono L3.size).cast rfl e3.symm, L15⟩
 refine G.run 1 rfl ?_
 refine G.a rfl (.field0 fa51_1 rfl) ?_
 refine G.a rfl (.idxAo (1) underlying48 sz3 rfl rfl (by omega) (by omega)) ?_
 have f17 := (b1_6.le d2)
 refine G.r rfl (.loadB (v := .int .i64 (s.h1)) na3 rfl f17 rfl) ?_
 refine G.a rfl (.field0 fa66_2 rfl) ?_
 have f18 := (((f6.ch h1_4 (fun he => by have := (oc1_2.row he).1; have := b0_1.lt; have := h0_2.size; omega)).ch h1_6 (fun h => (show g0_0 ≠ g0_1 from by have := b0_0.lt; omega) (oI h))).le d2)
 refine G.r rfl (.loadB (v := .int .i64 (q.am)) na3 rfl f18 rfl) ?_
 refine G.a rfl (.add rfl rfl (by omega)) ?_
 refine G.a rfl (.field0 fa51_1 rfl) ?_
 refine G.a rfl (.idxAo (1) underlying48 sz3 rfl rfl (by omega) (by omega)) ?_
 refine G.ef0 rfl rfl rfl rfl ?_
 refine Ef.store sz3 rfl rfl f17 (by first | decide | (simp; done)) (rfl) ?_
 intro w2_9_1 b2_9_1 h2_9_1
 refine noT (by kernel_rfl) ?_
 have b2_9_1 : Blk w2_9_1 g0_0 51 #[.int .i64 (s.no), .int .i64 (s.h0), .int .i64 ((s.h1 + q.am)), .slice Ac1_2 ((delC s.cs q.fr q.id).length) cc1_2, .int .i64 (s.rt)] := b2_9_1
 have L19 := L10.tb h2_9_1 L0 hg0_0
 refine G.nil (E.thenN (WC.sr ?_))
 refine W.r (.loadAll ag51 (by rfl) rfl b2_9_1) ?_
 have f20 := (((((b0_2.le h1_2).ch h1_4 (fun he => by have := (oc1_2.row he).1; have := b0_2.lt; omega)).ch h1_6 (fun h => (show g0_0 ≠ g0_2 from by have := b0_0.lt; have := h0_1.size; omega) (oI h))).le d2).ch h2_9_1 (fun h => (show g0_0 ≠ g0_2 from by have := b0_0.lt; have := h0_1.size; omega) (oI h)))
 refine W.sA sz51 rfl rfl f20 ?_
 intro w3_1_1 b3_1_1 h3_1_1
 have b3_1_1 : Blk w3_1_1 g0_2 51 #[.int .i64 (s.no), .int .i64 (s.h0), .int .i64 ((s.h1 + q.am)), .slice Ac1_2 ((delC s.cs q.fr q.id).length) cc1_2, .int .i64 (s.rt)] := b3_1_1
 have L21 := L19.tb h3_1_1 L2 hg0_2
 refine W.nx (WC.ret ?_)
 have f22 := ((((o1_4.ch h1_6 (fun q hq => by cases hq; exact (fun he => by have := (o1_4.row he).1; have := f4.lt; omega))).le d2).ch h2_9_1 (fun q hq => by cases hq; exact (fun he => by have := (o1_4.row he).1; have := f4.lt; omega))).ch h3_1_1 (fun q hq => by cases hq; exact (fun he => by have := (o1_4.row he).1; have := b0_2.lt; omega)))
 refine E.retG1 rfl (resA rfl b3_1_1 ag51 (by rfl)) ?_
 obtain ⟨e1, e2, e3, e4, e5⟩ := end_cells s q i
 exact ⟨_, Ac1_2, cc1_2, by rw [e1, e2, e4, e5, if_neg (by assumption), if_neg (by assumption)], (f22.mono L3.size).cast rfl e3.symm, L21⟩

theorem sfail_ok (ch : Chn) (hch : ChnOk ch) (fr id : Int) {s : Sta} {A : Option Addr} {n c : Nat} (w : World) (hC : Vec w condV 5 A n s.cs) (hr : RightS ch.am ch.op s) (hfr : 0 <= fr /\ fr <= 1) : Calls prog 14 #[.agg (chnV ch).toArray, .agg #[.int .i64 (s.no), .int .i64 (s.h0), .int .i64 (s.h1), .slice A n c, .int .i64 (s.rt)], .int .i64 (fr), .int .i64 (id)] w fun r w' => ∃ (t : Sta) (n' : Nat) (A' : Option Addr) (c' : Nat), r = .returned (.tuple #[.agg #[.int .i64 t.no, .int .i64 t.h0, .int .i64 t.h1, .slice A' n' c', .int .i64 t.rt], .int .i64 (failE s fr id)]) /\ OVec w' w.heap.size 66 condV 5 A' n' c' t.cs /\ t = failT s fr id /\ Le w w' := by
 have hl := hC.1; have hlen := hr.len
 refine enter func14 rfl rfl ?_
 have L0 := Le.refl w
 refine WC.sr (W.ef rfl rfl rfl ?_)
 refine Ef.boxA rfl ?_
 intro g0_0 w0_0 hg0_0 b0_0 h0_0
 have L1 := L0.trans h0_0
 have b0_0 : Blk w0_0 g0_0 43 (chnV ch).toArray := b0_0
 refine W.ef rfl rfl rfl ?_
 refine Ef.boxA rfl ?_
 intro g0_1 w0_1 hg0_1 b0_1 h0_1
 have L2 := L1.trans h0_1
 have b0_1 : Blk w0_1 g0_1 51 #[.int .i64 (s.no), .int .i64 (s.h0), .int .i64 (s.h1), .slice A n c, .int .i64 (s.rt)] := b0_1
 refine W.ef rfl rfl rfl ?_
 refine Ef.allocA z51 ?_
 intro g0_2 w0_2 hg0_2 b0_2 h0_2
 have L3 := L2.trans h0_2
 have b0_2 : Blk w0_2 g0_2 51 #[.int .i64 (0), .int .i64 (0), .int .i64 (0), .slice none 0 0, .int .i64 (0)] := b0_2
 refine W.run 1 rfl (W.nx (WC.seq (WC.sr ?_)))
 have f4 := (b0_0.le (h0_1.trans h0_2))
 refine W.r (.loadAll ag43 (by rfl) rfl f4) ?_
 have f5 := (b0_1.le h0_2)
 refine W.r (.loadAll ag51 (by rfl) rfl f5) ?_
 refine W.cl go39 rfl rfl (sright_ok (c := c) ch hch w0_2 (hC.le L3) hr) ?_
 rintro _ w1_2 ⟨rfl, h1_2⟩
 have L6 := L3.trans h1_2
 refine W.run 1 rfl (W.nx (WC.condF rfl (WC.sn (WC.sr ?_))))
 have f7 := (f5.le h1_2)
 refine W.r (.loadAll ag51 (by rfl) rfl f7) ?_
 refine W.run 2 rfl ?_
 refine W.cl go42 rfl rfl (sfind_ok (c := c) fr id w1_2 (hC.le L6) hr.len) ?_
 rintro _ w3_3 ⟨rfl, h3_3⟩
 have L8 := L6.trans h3_3
 refine W.run 1 rfl ?_
 refine W.a (.extract (v := .agg (condV ((findC s.cs fr id).getD noCnd)).toArray) rfl rfl) ?_
 refine W.run 1 rfl (W.ef rfl rfl rfl ?_)
 refine Ef.allocA z66 ?_
 intro g3_7 w3_7 hg3_7 b3_7 h3_7
 have L9 := L8.trans h3_7
 have b3_7 : Blk w3_7 g3_7 66 (condV noCnd).toArray := b3_7
 refine W.ef0 rfl rfl ?_
 refine Ef.storeAll sz66 (by rfl) rfl rfl b3_7 (by simp only [List.size_toArray, condV_row.len]) (condV_row.one ((findC s.cs fr id).getD noCnd)) ?_
 intro w3_8 b3_8 h3_8
 have b3_8 : Blk w3_8 g3_7 66 (condV ((findC s.cs fr id).getD noCnd)).toArray := b3_8
 have L10 := L9.tb h3_8 L8 hg3_7
 refine W.run 1 rfl (W.nx (WC.seq (WC.sr (W.run 2 rfl (W.nx ?_)))))
 by_cases c1 : ((findC s.cs fr id).isSome) = true
 ·refine WC.condN rfl (congrArg not (c1)) ?_
  obtain ⟨qf, hqf⟩ := Option.isSome_iff_exists.1 (show (findC s.cs fr id).isSome = true by first | (simpa using c1) | (simpa using c0))
  have hqm := hr.fine qf (find_mem hqf).1; have hqa := hqm.2.2.1
  refine WC.sn (WC.sr ?_)
  have f11 := ((f7.le (h3_3.trans h3_7)).ch h3_8 (fun h => (show g3_7 ≠ g0_1 from by have := f7.lt; have := h3_3.size; omega) (oI h)))
  refine W.r (.loadAll ag51 (by rfl) rfl f11) ?_
  refine W.r (.loadAll ag66 (by rfl) rfl b3_8) ?_
  refine W.run 1 rfl ?_
  refine W.cl go46 rfl rfl (swithout_ok (c := c) ((findC s.cs fr id).getD noCnd) fr w3_8 (hC.le L10) hr ⟨hfr, by rw [hqf]; show 0 <= qf.am; omega, by rw [hqf]; exact hqa.2⟩) ?_
  rintro _ w6_3 ⟨n6_3, A6_3, c6_3, rfl, o6_3, h6_3⟩
  have L12 := L10.trans h6_3
  have f13 := (((b0_2.le (h1_2.trans (h3_3.trans h3_7))).ch h3_8 (fun h => (show g3_7 ≠ g0_2 from by have := b0_2.lt; have := h1_2.size; have := h3_3.size; omega) (oI h))).le h6_3)
  refine W.sA sz51 rfl rfl f13 ?_
  intro w6_4 b6_4 h6_4
  have b6_4 : Blk w6_4 g0_2 51 #[.int .i64 ((endS s ((findC s.cs fr id).getD noCnd) fr).no), .int .i64 ((endS s ((findC s.cs fr id).getD noCnd) fr).h0), .int .i64 ((endS s ((findC s.cs fr id).getD noCnd) fr).h1), .slice A6_3 n6_3 c6_3, .int .i64 ((endS s ((findC s.cs fr id).getD noCnd) fr).rt)] := b6_4
  have L14 := L12.tb h6_4 L2 hg0_2
  refine W.run 1 rfl (W.nx (WC.ret ?_))
  have f15 := (o6_3.ch h6_4 (fun q hq => by cases hq; exact (fun he => by have := (o6_3.row he).1; have := b0_2.lt; have := h1_2.size; have := h3_3.size; have := h3_7.size; have := h3_8.size; omega)))
  refine E.retG2 rfl (resA rfl b6_4 ag51 (by rfl)) rfl ?_
  have he : failE s fr id = 0 := by unfold failE; rw [hqf]
  exact ⟨endS s ((findC s.cs fr id).getD noCnd) fr, _, A6_3, c6_3, by rw [he], (f15.mono L10.size), by unfold failT; rw [hqf]; rfl, L14⟩
 refine WC.condY rfl (congrArg not ((Bool.eq_false_iff.2 c1))) ?_
 have hfn : (findC s.cs fr id) = none := by first | (simpa using c1) | (simpa using c0)
 refine WC.sr ?_
 refine W.a (.buildP [.int .i64 (0), .int .i64 (0), .int .i64 (0), .slice none 0 0, .int .i64 (0)] pl51 z51 rfl rfl) ?_
 have f16 := ((b0_2.le (h1_2.trans (h3_3.trans h3_7))).ch h3_8 (fun h => (show g3_7 ≠ g0_2 from by have := b0_2.lt; have := h1_2.size; have := h3_3.size; omega) (oI h)))
 refine W.sA sz51 rfl rfl f16 ?_
 intro w5_1 b5_1 h5_1
 have b5_1 : Blk w5_1 g0_2 51 #[.int .i64 (0), .int .i64 (0), .int .i64 (0), .slice none 0 0, .int .i64 (0)] := b5_1
 have L17 := L10.tb h5_1 L2 hg0_2
 refine W.run 1 rfl (W.nx (WC.ret (E.thenR ?_)))
 refine E.retG2 rfl (resA rfl b5_1 ag51 (by rfl)) rfl ?_
 have he : failE s fr id = 5 := by unfold failE; rw [hfn]
 exact ⟨noSta, 0, none, 0, by rw [he]; rfl, OVec.nil _ _ _ _ _ _, (by unfold failT; rw [hfn]), L17⟩

theorem ssettle_ok (ch : Chn) (hch : ChnOk ch) (fr id : Int) (sec : Nat) {s : Sta} {A : Option Addr} {n c : Nat} (w : World) (hC : Vec w condV 5 A n s.cs) (hr : RightS ch.am ch.op s) (hfr : 0 <= fr /\ fr <= 1) : Calls prog 12 #[.agg (chnV ch).toArray, .agg #[.int .i64 (s.no), .int .i64 (s.h0), .int .i64 (s.h1), .slice A n c, .int .i64 (s.rt)], .int .i64 (fr), .int .i64 (id), .int .u64 (((sec : Nat) : Int))] w fun r w' => ∃ (t : Sta) (n' : Nat) (A' : Option Addr) (c' : Nat), r = .returned (.tuple #[.agg #[.int .i64 t.no, .int .i64 t.h0, .int .i64 t.h1, .slice A' n' c', .int .i64 t.rt], .int .i64 (setE s fr id sec)]) /\ OVec w' w.heap.size 66 condV 5 A' n' c' t.cs /\ t = setT s fr id sec /\ Le w w' := by
 have hl := hC.1; have hlen := hr.len
 refine enter func12 rfl rfl ?_
 have L0 := Le.refl w
 refine WC.sr (W.ef rfl rfl rfl ?_)
 refine Ef.boxA rfl ?_
 intro g0_0 w0_0 hg0_0 b0_0 h0_0
 have L1 := L0.trans h0_0
 have b0_0 : Blk w0_0 g0_0 43 (chnV ch).toArray := b0_0
 refine W.ef rfl rfl rfl ?_
 refine Ef.boxA rfl ?_
 intro g0_1 w0_1 hg0_1 b0_1 h0_1
 have L2 := L1.trans h0_1
 have b0_1 : Blk w0_1 g0_1 51 #[.int .i64 (s.no), .int .i64 (s.h0), .int .i64 (s.h1), .slice A n c, .int .i64 (s.rt)] := b0_1
 refine W.ef rfl rfl rfl ?_
 refine Ef.allocA z51 ?_
 intro g0_2 w0_2 hg0_2 b0_2 h0_2
 have L3 := L2.trans h0_2
 have b0_2 : Blk w0_2 g0_2 51 #[.int .i64 (0), .int .i64 (0), .int .i64 (0), .slice none 0 0, .int .i64 (0)] := b0_2
 refine W.run 1 rfl (W.nx (WC.seq (WC.sr ?_)))
 have f4 := (b0_0.le (h0_1.trans h0_2))
 refine W.r (.loadAll ag43 (by rfl) rfl f4) ?_
 have f5 := (b0_1.le h0_2)
 refine W.r (.loadAll ag51 (by rfl) rfl f5) ?_
 refine W.cl go39 rfl rfl (sright_ok (c := c) ch hch w0_2 (hC.le L3) hr) ?_
 rintro _ w1_2 ⟨rfl, h1_2⟩
 have L6 := L3.trans h1_2
 refine W.run 1 rfl (W.nx (WC.condF rfl (WC.sn (WC.sr ?_))))
 have f7 := (f5.le h1_2)
 refine W.r (.loadAll ag51 (by rfl) rfl f7) ?_
 refine W.run 2 rfl ?_
 refine W.cl go42 rfl rfl (sfind_ok (c := c) fr id w1_2 (hC.le L6) hr.len) ?_
 rintro _ w3_3 ⟨rfl, h3_3⟩
 have L8 := L6.trans h3_3
 refine W.run 1 rfl ?_
 refine W.a (.extract (v := .agg (condV ((findC s.cs fr id).getD noCnd)).toArray) rfl rfl) ?_
 refine W.run 1 rfl (W.ef rfl rfl rfl ?_)
 refine Ef.allocA z66 ?_
 intro g3_7 w3_7 hg3_7 b3_7 h3_7
 have L9 := L8.trans h3_7
 have b3_7 : Blk w3_7 g3_7 66 (condV noCnd).toArray := b3_7
 refine W.ef0 rfl rfl ?_
 refine Ef.storeAll sz66 (by rfl) rfl rfl b3_7 (by simp only [List.size_toArray, condV_row.len]) (condV_row.one ((findC s.cs fr id).getD noCnd)) ?_
 intro w3_8 b3_8 h3_8
 have b3_8 : Blk w3_8 g3_7 66 (condV ((findC s.cs fr id).getD noCnd)).toArray := b3_8
 have L10 := L9.tb h3_8 L8 hg3_7
 refine W.run 1 rfl (W.nx (WC.seq (WC.block (WC.sr (W.run 3 rfl (W.nx ?_))))))
 by_cases c1 : ((findC s.cs fr id).isSome) = true
 ·refine WC.condN rfl (congrArg not (c1)) ?_
  obtain ⟨qf, hqf⟩ := Option.isSome_iff_exists.1 (show (findC s.cs fr id).isSome = true by first | (simpa using c1) | (simpa using c0))
  have hqm := hr.fine qf (find_mem hqf).1; have hqa := hqm.2.2.1; have hqg : (findC s.cs fr id).getD noCnd = qf := by rw [hqf]; rfl
  refine WC.seq ?_
  refine WC.draw [0, 2, 3, 1, 4, 5] mixed (by kernel_rfl) ?_
  intro w6 d6
  have L11 := L10.trans d6
  refine G.run 1 rfl ?_
  refine G.a rfl (.field0 fa66_3 rfl) ?_
  have f12 := (b3_8.le d6)
  refine G.r rfl (.loadB (v := .int .u64 (((((findC s.cs fr id).getD noCnd).pt : Nat) : Int))) na35 rfl f12 rfl) ?_
  refine G.ef rfl rfl rfl rfl rfl ?_
  refine Ef.call go8 rfl rfl (base_ok sec w6) ?_
  rintro _ w6_1 ⟨rfl, h6_1⟩
  refine ⟨_, rfl, ?_⟩
  refine ⟨fun _ => h6_1, ?_⟩
  have L13 := L11.trans h6_1
  refine G.run 2 rfl (G.nil (E.thenN ?_))
  by_cases c2 : ((base sec : Nat) : Int) ≠ ((((findC s.cs fr id).getD noCnd).pt : Nat) : Int)
  ·refine WC.condY rfl (decide_eq_true c2) ?_
   refine WC.sr ?_
   refine W.a (.buildP [.int .i64 (0), .int .i64 (0), .int .i64 (0), .slice none 0 0, .int .i64 (0)] pl51 z51 rfl rfl) ?_
   have f14 := (((b0_2.le (h1_2.trans (h3_3.trans h3_7))).ch h3_8 (fun h => (show g3_7 ≠ g0_2 from by have := b0_2.lt; have := h1_2.size; have := h3_3.size; omega) (oI h))).le (d6.trans h6_1))
   refine W.sA sz51 rfl rfl f14 ?_
   intro w7_1 b7_1 h7_1
   have b7_1 : Blk w7_1 g0_2 51 #[.int .i64 (0), .int .i64 (0), .int .i64 (0), .slice none 0 0, .int .i64 (0)] := b7_1
   have L15 := L13.tb h7_1 L2 hg0_2
   refine W.run 1 rfl (W.nx (WC.ret (E.blkR (E.thenR ?_))))
   refine E.retG2 rfl (resA rfl b7_1 ag51 (by rfl)) rfl ?_
   have he : setE s fr id sec = 23 := by unfold setE; rw [hqf]; rw [hqg] at c2; exact if_pos (fun e => by first | exact absurd e c2 | (simp_all; done) | omega)
   exact ⟨noSta, 0, none, 0, by rw [he]; rfl, OVec.nil _ _ _ _ _ _, (by unfold setT; rw [hqf]; rw [hqg] at c2; exact (if_pos (fun e => by first | exact absurd e c2 | (simp_all; done) | omega)).symm), L15⟩
  refine WC.condN rfl (decide_eq_false c2) ?_
  refine WC.skip (E.blkN (E.thenN (WC.sr ?_)))
  have f16 := (((f7.le (h3_3.trans h3_7)).ch h3_8 (fun h => (show g3_7 ≠ g0_1 from by have := f7.lt; have := h3_3.size; omega) (oI h))).le (d6.trans h6_1))
  refine W.r (.loadAll ag51 (by rfl) rfl f16) ?_
  have f17 := (f12.le h6_1)
  refine W.r (.loadAll ag66 (by rfl) rfl f17) ?_
  refine W.run 1 rfl ?_
  refine W.a (.sub rfl rfl (by omega)) ?_
  refine W.cl go46 rfl rfl (swithout_ok (c := c) ((findC s.cs fr id).getD noCnd) (1 - fr) w6_1 (hC.le L13) hr ⟨⟨by omega, by omega⟩, by rw [hqf]; show 0 <= qf.am; omega, by rw [hqf]; exact hqa.2⟩) ?_
  rintro _ w8_4 ⟨n8_4, A8_4, c8_4, rfl, o8_4, h8_4⟩
  have L18 := L13.trans h8_4
  have f19 := (((b0_2.le (h1_2.trans (h3_3.trans h3_7))).ch h3_8 (fun h => (show g3_7 ≠ g0_2 from by have := b0_2.lt; have := h1_2.size; have := h3_3.size; omega) (oI h))).le (d6.trans (h6_1.trans h8_4)))
  refine W.sA sz51 rfl rfl f19 ?_
  intro w8_5 b8_5 h8_5
  have b8_5 : Blk w8_5 g0_2 51 #[.int .i64 ((endS s ((findC s.cs fr id).getD noCnd) (1 - fr)).no), .int .i64 ((endS s ((findC s.cs fr id).getD noCnd) (1 - fr)).h0), .int .i64 ((endS s ((findC s.cs fr id).getD noCnd) (1 - fr)).h1), .slice A8_4 n8_4 c8_4, .int .i64 ((endS s ((findC s.cs fr id).getD noCnd) (1 - fr)).rt)] := b8_5
  have L20 := L18.tb h8_5 L2 hg0_2
  refine W.run 1 rfl (W.nx (WC.ret ?_))
  have f21 := (o8_4.ch h8_5 (fun q hq => by cases hq; exact (fun he => by have := (o8_4.row he).1; have := b0_2.lt; have := h1_2.size; have := h3_3.size; have := h3_7.size; have := h3_8.size; have := d6.size; have := h6_1.size; omega)))
  refine E.retG2 rfl (resA rfl b8_5 ag51 (by rfl)) rfl ?_
  have he : setE s fr id sec = 0 := by unfold setE; rw [hqf]; rw [hqg] at c2; exact if_neg (fun e => by first | exact absurd e c2 | (simp_all; done) | omega)
  exact ⟨endS s ((findC s.cs fr id).getD noCnd) (1 - fr), _, A8_4, c8_4, by rw [he], (f21.mono L13.size), by unfold setT; rw [hqf]; rw [hqg] at c2; exact (if_neg (fun e => by first | exact absurd e c2 | (simp_all; done) | omega)).symm, L20⟩
 refine WC.condY rfl (congrArg not ((Bool.eq_false_iff.2 c1))) ?_
 have hfn : (findC s.cs fr id) = none := by first | (simpa using c1) | (simpa using c0)
 refine WC.sr ?_
 refine W.a (.buildP [.int .i64 (0), .int .i64 (0), .int .i64 (0), .slice none 0 0, .int .i64 (0)] pl51 z51 rfl rfl) ?_
 have f22 := ((b0_2.le (h1_2.trans (h3_3.trans h3_7))).ch h3_8 (fun h => (show g3_7 ≠ g0_2 from by have := b0_2.lt; have := h1_2.size; have := h3_3.size; omega) (oI h)))
 refine W.sA sz51 rfl rfl f22 ?_
 intro w5_1 b5_1 h5_1
 have b5_1 : Blk w5_1 g0_2 51 #[.int .i64 (0), .int .i64 (0), .int .i64 (0), .slice none 0 0, .int .i64 (0)] := b5_1
 have L23 := L10.tb h5_1 L2 hg0_2
 refine W.run 1 rfl (W.nx (WC.ret (E.blkR (E.thenR ?_))))
 refine E.retG2 rfl (resA rfl b5_1 ag51 (by rfl)) rfl ?_
 have he : setE s fr id sec = 5 := by unfold setE; rw [hfn]
 exact ⟨noSta, 0, none, 0, by rw [he]; rfl, OVec.nil _ _ _ _ _ _, (by unfold setT; rw [hfn]), L23⟩

theorem ssettle2_ok (ch : Chn) (hch : ChnOk ch) (fr id : Int) (sec : Nat) {s : Sta} {A : Option Addr} {n c : Nat} (w : World) (hC : Vec w condV 5 A n s.cs) (hr : RightS ch.am ch.op s) (hfr : 0 <= fr /\ fr <= 1) : Calls prog 12 #[.agg (chnV ch).toArray, .agg #[.int .i64 s.no, .int .i64 s.h0, .int .i64 s.h1, .slice A n c, .int .i64 s.rt], .int .i64 fr, .int .i64 id, .int .u64 ((sec : Nat) : Int)] w fun r w' => ∃ (A' : Option Addr) (c' : Nat), r = .returned (.tuple #[.agg #[.int .i64 (setT s fr id sec).no, .int .i64 (setT s fr id sec).h0, .int .i64 (setT s fr id sec).h1, .slice A' (setT s fr id sec).cs.length c', .int .i64 (setT s fr id sec).rt], .int .i64 (setE s fr id sec)]) /\ OVec w' w.heap.size 66 condV 5 A' (setT s fr id sec).cs.length c' (setT s fr id sec).cs /\ Le w w' := by
  refine (ssettle_ok ch hch fr id sec w hC hr hfr).mono fun r w' hx => ?_
  obtain ⟨t, n', A', c', rfl, hO, rfl, hl⟩ := hx
  have hn := hO.1
  subst hn
  exact ⟨A', c', rfl, hO, hl⟩

theorem sfail2_ok (ch : Chn) (hch : ChnOk ch) (fr id : Int) {s : Sta} {A : Option Addr} {n c : Nat} (w : World) (hC : Vec w condV 5 A n s.cs) (hr : RightS ch.am ch.op s) (hfr : 0 <= fr /\ fr <= 1) : Calls prog 14 #[.agg (chnV ch).toArray, .agg #[.int .i64 s.no, .int .i64 s.h0, .int .i64 s.h1, .slice A n c, .int .i64 s.rt], .int .i64 fr, .int .i64 id] w fun r w' => ∃ (A' : Option Addr) (c' : Nat), r = .returned (.tuple #[.agg #[.int .i64 (failT s fr id).no, .int .i64 (failT s fr id).h0, .int .i64 (failT s fr id).h1, .slice A' (failT s fr id).cs.length c', .int .i64 (failT s fr id).rt], .int .i64 (failE s fr id)]) /\ OVec w' w.heap.size 66 condV 5 A' (failT s fr id).cs.length c' (failT s fr id).cs /\ Le w w' := by
  refine (sfail_ok ch hch fr id  w hC hr hfr).mono fun r w' hx => ?_
  obtain ⟨t, n', A', c', rfl, hO, rfl, hl⟩ := hx
  have hn := hO.1
  subst hn
  exact ⟨A', c', rfl, hO, hl⟩

set_option maxHeartbeats 4000000 in
theorem sadd_ok (q : Cnd) (hf : FineC q) (ch : Chn) (hch : ChnOk ch) {s : Sta} {A : Option Addr} {n c : Nat} (w : World) (hC : Vec w condV 5 A n s.cs) (hr : RightS ch.am ch.op s) : Calls prog 10 #[.agg (chnV ch).toArray, .agg #[.int .i64 (s.no), .int .i64 (s.h0), .int .i64 (s.h1), .slice A n c, .int .i64 (s.rt)], .agg (condV q).toArray] w fun r w' => ∃ (t : Sta) (n' : Nat) (A' : Option Addr) (c' : Nat) (e : Int), r = .returned (.tuple #[.agg #[.int .i64 t.no, .int .i64 t.h0, .int .i64 t.h1, .slice A' n' c', .int .i64 t.rt], .int .i64 e]) /\ OVec w' w.heap.size 66 condV 5 A' n' c' t.cs /\ (e = 0 -> AddOk ch.op s q /\ ∃ k, PutAt s.cs q k /\ t = Shp.addS s q k) /\ Le w w' := by
 have hl := hC.1; have hlen := hr.len
 have hfr := hf.1; have hfa := hf.2.2.1; have hop := hch.op; have hh0 := hr.h0_; have hh1 := hr.h1_; have hs0 := rs_all hr (1 - (1 - q.fr))
 refine enter func10 rfl rfl ?_
 have L0 := Le.refl w
 refine WC.sr (W.ef rfl rfl rfl ?_)
 refine Ef.boxA rfl ?_
 intro g0_0 w0_0 hg0_0 b0_0 h0_0
 have L1 := L0.trans h0_0
 have b0_0 : Blk w0_0 g0_0 43 (chnV ch).toArray := b0_0
 refine W.ef rfl rfl rfl ?_
 refine Ef.boxA rfl ?_
 intro g0_1 w0_1 hg0_1 b0_1 h0_1
 have L2 := L1.trans h0_1
 have b0_1 : Blk w0_1 g0_1 51 #[.int .i64 (s.no), .int .i64 (s.h0), .int .i64 (s.h1), .slice A n c, .int .i64 (s.rt)] := b0_1
 refine W.ef rfl rfl rfl ?_
 refine Ef.boxA rfl ?_
 intro g0_2 w0_2 hg0_2 b0_2 h0_2
 have L3 := L2.trans h0_2
 have b0_2 : Blk w0_2 g0_2 66 (condV q).toArray := b0_2
 refine W.ef rfl rfl rfl ?_
 refine Ef.allocA z51 ?_
 intro g0_3 w0_3 hg0_3 b0_3 h0_3
 have L4 := L3.trans h0_3
 have b0_3 : Blk w0_3 g0_3 51 #[.int .i64 (0), .int .i64 (0), .int .i64 (0), .slice none 0 0, .int .i64 (0)] := b0_3
 refine W.run 1 rfl (W.nx (WC.seq (WC.sr ?_)))
 have f5 := (b0_0.le (h0_1.trans (h0_2.trans h0_3)))
 refine W.r (.loadAll ag43 (by rfl) rfl f5) ?_
 have f6 := (b0_1.le (h0_2.trans h0_3))
 refine W.r (.loadAll ag51 (by rfl) rfl f6) ?_
 refine W.cl go39 rfl rfl (sright_ok (c := c) ch hch w0_3 (hC.le L4) hr) ?_
 rintro _ w1_2 ⟨rfl, h1_2⟩
 have L7 := L4.trans h1_2
 refine W.run 2 rfl ?_
 have f8 := (b0_2.le (h0_3.trans h1_2))
 refine W.g (.loadAll ag66 (by rfl) rfl f8) ?_
 refine W.efg rfl rfl rfl (rfl) rfl rfl ?_
 refine Ef.call go40 rfl rfl (sfine_ok q hf w1_2) ?_
 rintro _ w1_6 ⟨rfl, h1_6⟩
 refine ⟨_, rfl, ?_⟩
 have L9 := L7.trans h1_6
 refine W.run 2 rfl (W.nx (WC.condF rfl (WC.sn (WC.sr ?_))))
 refine W.a (.field0 fa66_0 rfl) ?_
 have f10 := (f8.le h1_6)
 refine W.r (.loadB (v := .int .i64 (q.fr)) na3 rfl f10 rfl) ?_
 by_cases qc3_2 : q.fr = 0
 ·refine W.a (.sub rfl rfl (by omega)) ?_
  refine W.a (.field0 fa43_3 rfl) ?_
  refine W.a (.idxA (1) underlying41 sz40 rfl rfl (by omega) (by omega)) ?_
  have f11 := (f5.le (h1_2.trans h1_6))
  refine W.r (.bpart [.int .i64 (100), .int .i64 (200), .int .i64 (6), .int .i64 (16), .int .i64 (1), .int .i64 (1125899906842624)] ag40 rfl (by decide) rfl f11 rfl) ?_
  refine W.ef rfl rfl rfl ?_
  refine Ef.allocA z40 ?_
  intro g3_6 w3_6 hg3_6 b3_6 h3_6
  have L12 := L9.trans h3_6
  have b3_6 : Blk w3_6 g3_6 40 #[.int .i64 (0), .int .i64 (0), .int .i64 (0), .int .i64 (0), .int .i64 (0), .int .i64 (0)] := b3_6
  refine W.sA sz40 rfl rfl b3_6 ?_
  intro w3_7 b3_7 h3_7
  have b3_7 : Blk w3_7 g3_6 40 #[.int .i64 (100), .int .i64 (200), .int .i64 (6), .int .i64 (16), .int .i64 (1), .int .i64 (1125899906842624)] := b3_7
  have L13 := L12.tb h3_7 L9 hg3_6
  refine W.nx (WC.sr ?_)
  have f14 := ((f6.le (h1_2.trans (h1_6.trans h3_6))).ch h3_7 (fun h => (show g3_6 ≠ g0_1 from by have := f6.lt; have := h1_2.size; have := h1_6.size; omega) (oI h)))
  refine W.r (.loadAll ag51 (by rfl) rfl f14) ?_
  refine W.a (.field0 fa66_0 rfl) ?_
  have f15 := ((f10.le h3_6).ch h3_7 (fun h => (show g3_6 ≠ g0_2 from by have := f10.lt; omega) (oI h)))
  refine W.r (.loadB (v := .int .i64 (q.fr)) na3 rfl f15 rfl) ?_
  refine W.a (.sub rfl rfl (by omega)) ?_
  refine W.cl go41 rfl rfl (soffered_ok (c := c) (1 - q.fr) w3_7 (hC.le L13) hr (by omega)) ?_
  rintro _ w4_4 ⟨rfl, h4_4⟩
  have L16 := L13.trans h4_4
  refine W.run 5 rfl (W.nx (WC.sr ?_))
  have f17 := (f14.le h4_4)
  refine W.r (.loadAll ag51 (by rfl) rfl f17) ?_
  refine W.a (.field0 fa66_0 rfl) ?_
  have f18 := (f15.le h4_4)
  refine W.r (.loadB (v := .int .i64 (q.fr)) na3 rfl f18 rfl) ?_
  refine W.a (.field0 fa66_1 rfl) ?_
  refine W.r (.loadB (v := .int .i64 (q.id)) na3 rfl f18 rfl) ?_
  refine W.cl go42 rfl rfl (sfind_ok (c := c) q.fr q.id w4_4 (hC.le L16) hr.len) ?_
  rintro _ w5_5 ⟨rfl, h5_5⟩
  have L19 := L16.trans h5_5
  refine W.run 1 rfl ?_
  refine W.a (.extract (v := .agg (condV ((findC s.cs q.fr q.id).getD noCnd)).toArray) rfl rfl) ?_
  refine W.run 1 rfl (W.ef rfl rfl rfl ?_)
  refine Ef.allocA z66 ?_
  intro g5_9 w5_9 hg5_9 b5_9 h5_9
  have L20 := L19.trans h5_9
  have b5_9 : Blk w5_9 g5_9 66 (condV noCnd).toArray := b5_9
  refine W.ef0 rfl rfl ?_
  refine Ef.storeAll sz66 (by rfl) rfl rfl b5_9 (by simp only [List.size_toArray, condV_row.len]) (condV_row.one ((findC s.cs q.fr q.id).getD noCnd)) ?_
  intro w5_10 b5_10 h5_10
  have L21 := L20.tb h5_10 L19 hg5_9
  refine W.run 1 rfl (W.nx (WC.seq (WC.block (WC.sr (W.run 2 rfl (W.nx ?_))))))
  by_cases c1 : ((findC s.cs q.fr q.id).isSome) = true
  ·refine WC.condY rfl (c1) ?_
   refine WC.sr ?_
   refine W.a (.buildP [.int .i64 (0), .int .i64 (0), .int .i64 (0), .slice none 0 0, .int .i64 (0)] pl51 z51 rfl rfl) ?_
   have f22 := ((((b0_3.le (h1_2.trans (h1_6.trans h3_6))).ch h3_7 (fun h => (show g3_6 ≠ g0_3 from by have := b0_3.lt; have := h1_2.size; have := h1_6.size; omega) (oI h))).le (h4_4.trans (h5_5.trans h5_9))).ch h5_10 (fun h => (show g5_9 ≠ g0_3 from by have := b0_3.lt; have := h1_2.size; have := h1_6.size; have := h3_6.size; have := h3_7.size; have := h4_4.size; have := h5_5.size; omega) (oI h)))
   refine W.sA sz51 rfl rfl f22 ?_
   intro w7_1 b7_1 h7_1
   have b7_1 : Blk w7_1 g0_3 51 #[.int .i64 (0), .int .i64 (0), .int .i64 (0), .slice none 0 0, .int .i64 (0)] := b7_1
   have L23 := L21.tb h7_1 L3 hg0_3
   refine W.run 1 rfl (W.nx (WC.ret (E.blkR (E.thenR ?_))))
   refine E.retG2 rfl (resA rfl b7_1 ag51 (by rfl)) rfl ?_
   exact ⟨(⟨0, 0, 0, [], 0⟩ : Sta), 0, none, 0, 4, rfl, OVec.nil _ _ _ _ _ _, (fun h => absurd h (by decide)), L23⟩
  refine WC.condN rfl ((Bool.eq_false_iff.2 c1)) ?_
  refine WC.sr ?_
  refine W.a (.field0 fa66_2 rfl) ?_
  have f24 := ((f18.le (h5_5.trans h5_9)).ch h5_10 (fun h => (show g5_9 ≠ g0_2 from by have := f18.lt; have := h5_5.size; omega) (oI h)))
  refine W.r (.loadB (v := .int .i64 (q.am)) na3 rfl f24 rfl) ?_
  refine W.a (.field0 fa40_4 rfl) ?_
  have f25 := ((b3_7.le (h4_4.trans (h5_5.trans h5_9))).ch h5_10 (fun h => (show g5_9 ≠ g3_6 from by have := b3_7.lt; have := h4_4.size; have := h5_5.size; omega) (oI h)))
  refine W.r (.loadB (v := .int .i64 (1)) na3 rfl f25 rfl) ?_
  refine W.a (.dec (.lss rfl rfl) (dF (by omega))) ?_
  refine W.run 1 rfl (W.nx (WC.condF rfl (WC.sr ?_)))
  refine W.a (.field0 fa51_2 rfl) ?_
  have f26 := ((f17.le (h5_5.trans h5_9)).ch h5_10 (fun h => (show g5_9 ≠ g0_1 from by have := f17.lt; have := h5_5.size; omega) (oI h)))
  refine W.r (.loadB (v := .slice A n c) na49 rfl f26 rfl) ?_
  refine W.r (.len underlying49 rfl) ?_
  refine W.run 1 rfl ?_
  by_cases q10_4 : 16 <= ((n : Nat) : Int)
  ·refine W.dt q10_4 rfl rfl (W.run 6 rfl (W.nx (WC.condT rfl (WC.sr ?_))))
   refine W.a (.buildP [.int .i64 (0), .int .i64 (0), .int .i64 (0), .slice none 0 0, .int .i64 (0)] pl51 z51 rfl rfl) ?_
   have f27 := ((((b0_3.le (h1_2.trans (h1_6.trans h3_6))).ch h3_7 (fun h => (show g3_6 ≠ g0_3 from by have := b0_3.lt; have := h1_2.size; have := h1_6.size; omega) (oI h))).le (h4_4.trans (h5_5.trans h5_9))).ch h5_10 (fun h => (show g5_9 ≠ g0_3 from by have := b0_3.lt; have := h1_2.size; have := h1_6.size; have := h3_6.size; have := h3_7.size; have := h4_4.size; have := h5_5.size; omega) (oI h)))
   refine W.sA sz51 rfl rfl f27 ?_
   intro w11_1 b11_1 h11_1
   have b11_1 : Blk w11_1 g0_3 51 #[.int .i64 (0), .int .i64 (0), .int .i64 (0), .slice none 0 0, .int .i64 (0)] := b11_1
   have L28 := L21.tb h11_1 L3 hg0_3
   refine W.run 1 rfl (W.nx (WC.ret (E.blkR (E.thenR ?_))))
   refine E.retG2 rfl (resA rfl b11_1 ag51 (by rfl)) rfl ?_
   exact ⟨(⟨0, 0, 0, [], 0⟩ : Sta), 0, none, 0, 3, rfl, OVec.nil _ _ _ _ _ _, (fun h => absurd h (by decide)), L28⟩
  refine W.df q10_4 rfl rfl (W.run 1 rfl ?_)
  refine W.g (Any.rd (.field0 fa40_3 rfl) _) ?_
  refine W.g (.loadB (v := .int .i64 (16)) na3 rfl f25 rfl) ?_
  refine W.run 3 rfl (W.nx ?_)
  by_cases c3 : 16 <= (((ofC s.cs (1 - (1 - q.fr))).length : Nat) : Int)
  ·refine WC.condY rfl (decide_eq_true c3) ?_
   refine WC.sr ?_
   refine W.a (.buildP [.int .i64 (0), .int .i64 (0), .int .i64 (0), .slice none 0 0, .int .i64 (0)] pl51 z51 rfl rfl) ?_
   have f29 := ((((b0_3.le (h1_2.trans (h1_6.trans h3_6))).ch h3_7 (fun h => (show g3_6 ≠ g0_3 from by have := b0_3.lt; have := h1_2.size; have := h1_6.size; omega) (oI h))).le (h4_4.trans (h5_5.trans h5_9))).ch h5_10 (fun h => (show g5_9 ≠ g0_3 from by have := b0_3.lt; have := h1_2.size; have := h1_6.size; have := h3_6.size; have := h3_7.size; have := h4_4.size; have := h5_5.size; omega) (oI h)))
   refine W.sA sz51 rfl rfl f29 ?_
   intro w11_1_1 b11_1_1 h11_1_1
   have b11_1_1 : Blk w11_1_1 g0_3 51 #[.int .i64 (0), .int .i64 (0), .int .i64 (0), .slice none 0 0, .int .i64 (0)] := b11_1_1
   have L30 := L21.tb h11_1_1 L3 hg0_3
   refine W.run 1 rfl (W.nx (WC.ret (E.blkR (E.thenR ?_))))
   refine E.retG2 rfl (resA rfl b11_1_1 ag51 (by rfl)) rfl ?_
   exact ⟨(⟨0, 0, 0, [], 0⟩ : Sta), 0, none, 0, 3, rfl, OVec.nil _ _ _ _ _ _, (fun h => absurd h (by decide)), L30⟩
  refine WC.condN rfl (decide_eq_false c3) ?_
  refine WC.sr (W.run 1 rfl ?_)
  refine W.a (.field0 fa66_2 rfl) ?_
  refine W.r (.loadB (v := .int .i64 (q.am)) na3 rfl f24 rfl) ?_
  refine W.a (.add rfl rfl (by omega)) ?_
  refine W.a (.field0 fa40_5 rfl) ?_
  refine W.r (.loadB (v := .int .i64 (1125899906842624)) na3 rfl f25 rfl) ?_
  refine W.run 2 rfl (W.nx ?_)
  by_cases c4 : 1125899906842624 < ((sumC (ofC s.cs (1 - (1 - q.fr)))) + q.am)
  ·refine WC.condY rfl (decide_eq_true c4) ?_
   refine WC.sr ?_
   refine W.a (.buildP [.int .i64 (0), .int .i64 (0), .int .i64 (0), .slice none 0 0, .int .i64 (0)] pl51 z51 rfl rfl) ?_
   have f31 := ((((b0_3.le (h1_2.trans (h1_6.trans h3_6))).ch h3_7 (fun h => (show g3_6 ≠ g0_3 from by have := b0_3.lt; have := h1_2.size; have := h1_6.size; omega) (oI h))).le (h4_4.trans (h5_5.trans h5_9))).ch h5_10 (fun h => (show g5_9 ≠ g0_3 from by have := b0_3.lt; have := h1_2.size; have := h1_6.size; have := h3_6.size; have := h3_7.size; have := h4_4.size; have := h5_5.size; omega) (oI h)))
   refine W.sA sz51 rfl rfl f31 ?_
   intro w13_1 b13_1 h13_1
   have b13_1 : Blk w13_1 g0_3 51 #[.int .i64 (0), .int .i64 (0), .int .i64 (0), .slice none 0 0, .int .i64 (0)] := b13_1
   have L32 := L21.tb h13_1 L3 hg0_3
   refine W.run 1 rfl (W.nx (WC.ret (E.blkR (E.thenR ?_))))
   refine E.retG2 rfl (resA rfl b13_1 ag51 (by rfl)) rfl ?_
   exact ⟨(⟨0, 0, 0, [], 0⟩ : Sta), 0, none, 0, 6, rfl, OVec.nil _ _ _ _ _ _, (fun h => absurd h (by decide)), L32⟩
  refine WC.condN rfl (decide_eq_false c4) ?_
  refine WC.seq ?_
  refine WC.draw [0, 1, 2, 3, 4, 5, 6, 7, 8] mixed (by kernel_rfl) ?_
  intro w14 d14
  have L33 := L21.trans d14
  refine G.a rfl (.field0 fa66_0 rfl) ?_
  have f34 := (f24.le d14)
  refine G.r rfl (.loadB (v := .int .i64 (q.fr)) na3 rfl f34 rfl) ?_
  refine G.a rfl (.field0 fa51_1 rfl) ?_
  refine G.a rfl (.idxAo (0) underlying48 sz3 rfl rfl (by omega) (by omega)) ?_
  have f35 := (f26.le d14)
  refine G.r rfl (.loadB (v := .int .i64 (s.h0)) na3 rfl f35 rfl) ?_
  refine G.a rfl (.field0 fa66_2 rfl) ?_
  refine G.r rfl (.loadB (v := .int .i64 (q.am)) na3 rfl f34 rfl) ?_
  refine G.run 2 rfl (G.nil (E.thenN ?_))
  by_cases c5 : s.h0 < q.am
  ·refine WC.condY rfl (decide_eq_true c5) ?_
   refine WC.sr ?_
   refine W.a (.buildP [.int .i64 (0), .int .i64 (0), .int .i64 (0), .slice none 0 0, .int .i64 (0)] pl51 z51 rfl rfl) ?_
   have f36 := (((((b0_3.le (h1_2.trans (h1_6.trans h3_6))).ch h3_7 (fun h => (show g3_6 ≠ g0_3 from by have := b0_3.lt; have := h1_2.size; have := h1_6.size; omega) (oI h))).le (h4_4.trans (h5_5.trans h5_9))).ch h5_10 (fun h => (show g5_9 ≠ g0_3 from by have := b0_3.lt; have := h1_2.size; have := h1_6.size; have := h3_6.size; have := h3_7.size; have := h4_4.size; have := h5_5.size; omega) (oI h))).le d14)
   refine W.sA sz51 rfl rfl f36 ?_
   intro w15_1 b15_1 h15_1
   have b15_1 : Blk w15_1 g0_3 51 #[.int .i64 (0), .int .i64 (0), .int .i64 (0), .slice none 0 0, .int .i64 (0)] := b15_1
   have L37 := L33.tb h15_1 L3 hg0_3
   refine W.run 1 rfl (W.nx (WC.ret (E.blkR (E.thenR ?_))))
   refine E.retG2 rfl (resA rfl b15_1 ag51 (by rfl)) rfl ?_
   exact ⟨(⟨0, 0, 0, [], 0⟩ : Sta), 0, none, 0, 8, rfl, OVec.nil _ _ _ _ _ _, (fun h => absurd h (by decide)), L37⟩
  refine WC.condN rfl (decide_eq_false c5) ?_
  refine WC.skip (E.blkN (E.thenN (WC.sr ?_)))
  refine W.r (.loadAll ag51 (by rfl) rfl f35) ?_
  refine W.r (.loadAll ag66 (by rfl) rfl f34) ?_
  refine W.cl go43 rfl rfl (swith_ok (c := c) q w14 (hC.le L33) hr.len hr.ord) ?_
  rintro _ w16_2 ⟨k16_2, A16_2, c16_2, rfl, hk16_2, o16_2, h16_2⟩
  have L38 := L33.trans h16_2
  refine W.ef rfl rfl rfl ?_
  refine Ef.allocA z51 ?_
  intro g16_3 w16_3 hg16_3 b16_3 h16_3
  have L39 := L38.trans h16_3
  have b16_3 : Blk w16_3 g16_3 51 #[.int .i64 (0), .int .i64 (0), .int .i64 (0), .slice none 0 0, .int .i64 (0)] := b16_3
  refine W.sA sz51 rfl rfl b16_3 ?_
  intro w16_4 b16_4 h16_4
  have b16_4 : Blk w16_4 g16_3 51 #[.int .i64 (s.no), .int .i64 (s.h0), .int .i64 (s.h1), .slice A16_2 (n + 1) c16_2, .int .i64 (s.rt)] := b16_4
  have L40 := L39.tb h16_4 L38 hg16_3
  refine W.nx (WC.seq ?_)
  refine WC.draw [0, 1, 2, 3, 4, 5, 6, 7, 8, 9, 10] mixed (by kernel_rfl) ?_
  intro w17 d17
  have L41 := L40.trans d17
  refine G.a rfl (.field0 fa66_0 rfl) ?_
  have f42 := (((f34.le (h16_2.trans h16_3)).ch h16_4 (fun h => (show g16_3 ≠ g0_2 from by have := f34.lt; have := h16_2.size; omega) (oI h))).le d17)
  refine G.r rfl (.loadB (v := .int .i64 (q.fr)) na3 rfl f42 rfl) ?_
  refine G.a rfl (.field0 fa51_1 rfl) ?_
  refine G.a rfl (.idxAo (0) underlying48 sz3 rfl rfl (by omega) (by omega)) ?_
  have f43 := (b16_4.le d17)
  refine G.r rfl (.loadB (v := .int .i64 (s.h0)) na3 rfl f43 rfl) ?_
  refine G.a rfl (.field0 fa66_2 rfl) ?_
  refine G.r rfl (.loadB (v := .int .i64 (q.am)) na3 rfl f42 rfl) ?_
  refine G.a rfl (.sub rfl rfl (by omega)) ?_
  refine G.a rfl (.field0 fa51_1 rfl) ?_
  refine G.a rfl (.idxAo (0) underlying48 sz3 rfl rfl (by omega) (by omega)) ?_
  refine G.ef0 rfl rfl rfl rfl ?_
  refine Ef.store sz3 rfl rfl f43 (by first | decide | (simp; done)) (rfl) ?_
  intro w17_10 b17_10 h17_10
  refine noT (by kernel_rfl) ?_
  have b17_10 : Blk w17_10 g16_3 51 #[.int .i64 (s.no), .int .i64 ((s.h0 - q.am)), .int .i64 (s.h1), .slice A16_2 (n + 1) c16_2, .int .i64 (s.rt)] := b17_10
  have L44 := L41.tb h17_10 L38 hg16_3
  refine G.nil (E.thenN (WC.seq (WC.block (WC.sr ?_))))
  have f45 := ((((((((f11.le h3_6).ch h3_7 (fun h => (show g3_6 ≠ g0_0 from by have := f11.lt; omega) (oI h))).le (h4_4.trans (h5_5.trans h5_9))).ch h5_10 (fun h => (show g5_9 ≠ g0_0 from by have := f11.lt; have := h3_6.size; have := h3_7.size; have := h4_4.size; have := h5_5.size; omega) (oI h))).le (d14.trans (h16_2.trans h16_3))).ch h16_4 (fun h => (show g16_3 ≠ g0_0 from by have := f11.lt; have := h3_6.size; have := h3_7.size; have := h4_4.size; have := h5_5.size; have := h5_9.size; have := h5_10.size; have := d14.size; have := h16_2.size; omega) (oI h))).le d17).ch h17_10 (fun h => (show g16_3 ≠ g0_0 from by have := f11.lt; have := h3_6.size; have := h3_7.size; have := h4_4.size; have := h5_5.size; have := h5_9.size; have := h5_10.size; have := d14.size; have := h16_2.size; omega) (oI h)))
  refine W.r (.loadAll ag43 (by rfl) rfl f45) ?_
  refine W.r (.loadAll ag51 (by rfl) rfl b17_10) ?_
  refine W.a (.field0 fa43_4 rfl) ?_
  refine W.r (.loadB (v := .int .i64 (ch.op)) na3 rfl f45 rfl) ?_
  have f46 := ((((o16_2.le h16_3).ch h16_4 (fun q hq => by cases hq; exact (fun he => by have := (o16_2.row he).2; omega))).le d17).ch h17_10 (fun q hq => by cases hq; exact (fun he => by have := (o16_2.row he).2; omega)))
  refine W.cl go44 rfl rfl (sfree_ok (s := (⟨s.no, (s.h0 - q.am), s.h1, (putC s.cs q k16_2), s.rt⟩ : Sta)) (c := c16_2) ch ch.op (by omega) w17_10 f46.vec (by show (putC s.cs q k16_2).length <= 16; rw [putC_len hk16_2.le]; omega) hr.rt_ (by dsimp only; omega)) ?_
  rintro _ w18_4 ⟨rfl, h18_4⟩
  have L47 := L44.trans h18_4
  refine W.run 2 rfl (W.nx ?_)
  by_cases c6 : (freeC ch.op (⟨s.no, (s.h0 - q.am), s.h1, (putC s.cs q k16_2), s.rt⟩ : Sta) ch.op) < 0
  ·refine WC.condY rfl (decide_eq_true c6) ?_
   refine WC.sr ?_
   refine W.a (.buildP [.int .i64 (0), .int .i64 (0), .int .i64 (0), .slice none 0 0, .int .i64 (0)] pl51 z51 rfl rfl) ?_
   have f48 := (((((((((b0_3.le (h1_2.trans (h1_6.trans h3_6))).ch h3_7 (fun h => (show g3_6 ≠ g0_3 from by have := b0_3.lt; have := h1_2.size; have := h1_6.size; omega) (oI h))).le (h4_4.trans (h5_5.trans h5_9))).ch h5_10 (fun h => (show g5_9 ≠ g0_3 from by have := b0_3.lt; have := h1_2.size; have := h1_6.size; have := h3_6.size; have := h3_7.size; have := h4_4.size; have := h5_5.size; omega) (oI h))).le (d14.trans (h16_2.trans h16_3))).ch h16_4 (fun h => (show g16_3 ≠ g0_3 from by have := b0_3.lt; have := h1_2.size; have := h1_6.size; have := h3_6.size; have := h3_7.size; have := h4_4.size; have := h5_5.size; have := h5_9.size; have := h5_10.size; have := d14.size; have := h16_2.size; omega) (oI h))).le d17).ch h17_10 (fun h => (show g16_3 ≠ g0_3 from by have := b0_3.lt; have := h1_2.size; have := h1_6.size; have := h3_6.size; have := h3_7.size; have := h4_4.size; have := h5_5.size; have := h5_9.size; have := h5_10.size; have := d14.size; have := h16_2.size; omega) (oI h))).le h18_4)
   refine W.sA sz51 rfl rfl f48 ?_
   intro w19_1 b19_1 h19_1
   have b19_1 : Blk w19_1 g0_3 51 #[.int .i64 (0), .int .i64 (0), .int .i64 (0), .slice none 0 0, .int .i64 (0)] := b19_1
   have L49 := L47.tb h19_1 L3 hg0_3
   refine W.run 1 rfl (W.nx (WC.ret (E.blkR (E.thenR ?_))))
   refine E.retG2 rfl (resA rfl b19_1 ag51 (by rfl)) rfl ?_
   exact ⟨(⟨0, 0, 0, [], 0⟩ : Sta), 0, none, 0, 8, rfl, OVec.nil _ _ _ _ _ _, (fun h => absurd h (by decide)), L49⟩
  refine WC.condN rfl (decide_eq_false c6) ?_
  refine WC.seq ?_
  refine WC.draw [0, 1, 2, 3, 5, 6, 4, 7, 8] mixed (by kernel_rfl) ?_
  intro w20 d20
  have L50 := L47.trans d20
  have f51 := (f45.le (h18_4.trans d20))
  refine G.r rfl (.loadAll ag43 (by rfl) rfl f51) ?_
  have f52 := (b17_10.le (h18_4.trans d20))
  refine G.r rfl (.loadAll ag51 (by rfl) rfl f52) ?_
  refine G.a rfl (.field0 fa66_0 rfl) ?_
  have f53 := ((f42.ch h17_10 (fun h => (show g16_3 ≠ g0_2 from by have := f34.lt; have := h16_2.size; omega) (oI h))).le (h18_4.trans d20))
  refine G.r rfl (.loadB (v := .int .i64 (q.fr)) na3 rfl f53 rfl) ?_
  refine G.a rfl (.field0 fa40_1 rfl) ?_
  have f54 := (((((f25.le (d14.trans (h16_2.trans h16_3))).ch h16_4 (fun h => (show g16_3 ≠ g3_6 from by have := f25.lt; have := d14.size; have := h16_2.size; omega) (oI h))).le d17).ch h17_10 (fun h => (show g16_3 ≠ g3_6 from by have := f25.lt; have := d14.size; have := h16_2.size; omega) (oI h))).le (h18_4.trans d20))
  refine G.r rfl (.loadB (v := .int .i64 (200)) na3 rfl f54 rfl) ?_
  have f55 := (f46.le (h18_4.trans d20))
  refine G.ef rfl rfl rfl rfl rfl ?_
  refine Ef.call go44 rfl rfl (sfree_ok (s := (⟨s.no, (s.h0 - q.am), s.h1, (putC s.cs q k16_2), s.rt⟩ : Sta)) (c := c16_2) ch q.fr (by omega) w20 f55.vec (by show (putC s.cs q k16_2).length <= 16; rw [putC_len hk16_2.le]; omega) hr.rt_ (by dsimp only; omega)) ?_
  rintro _ w20_4 ⟨rfl, h20_4⟩
  refine ⟨_, rfl, ?_⟩
  refine ⟨fun _ => h20_4, ?_⟩
  have L56 := L50.trans h20_4
  refine G.run 2 rfl (G.nil (E.thenN ?_))
  by_cases c7 : (freeC ch.op (⟨s.no, (s.h0 - q.am), s.h1, (putC s.cs q k16_2), s.rt⟩ : Sta) q.fr) < 200
  ·refine WC.condY rfl (decide_eq_true c7) ?_
   refine WC.sr ?_
   refine W.a (.buildP [.int .i64 (0), .int .i64 (0), .int .i64 (0), .slice none 0 0, .int .i64 (0)] pl51 z51 rfl rfl) ?_
   have f57 := (((((((((b0_3.le (h1_2.trans (h1_6.trans h3_6))).ch h3_7 (fun h => (show g3_6 ≠ g0_3 from by have := b0_3.lt; have := h1_2.size; have := h1_6.size; omega) (oI h))).le (h4_4.trans (h5_5.trans h5_9))).ch h5_10 (fun h => (show g5_9 ≠ g0_3 from by have := b0_3.lt; have := h1_2.size; have := h1_6.size; have := h3_6.size; have := h3_7.size; have := h4_4.size; have := h5_5.size; omega) (oI h))).le (d14.trans (h16_2.trans h16_3))).ch h16_4 (fun h => (show g16_3 ≠ g0_3 from by have := b0_3.lt; have := h1_2.size; have := h1_6.size; have := h3_6.size; have := h3_7.size; have := h4_4.size; have := h5_5.size; have := h5_9.size; have := h5_10.size; have := d14.size; have := h16_2.size; omega) (oI h))).le d17).ch h17_10 (fun h => (show g16_3 ≠ g0_3 from by have := b0_3.lt; have := h1_2.size; have := h1_6.size; have := h3_6.size; have := h3_7.size; have := h4_4.size; have := h5_5.size; have := h5_9.size; have := h5_10.size; have := d14.size; have := h16_2.size; omega) (oI h))).le (h18_4.trans (d20.trans h20_4)))
   refine W.sA sz51 rfl rfl f57 ?_
   intro w21_1 b21_1 h21_1
   have b21_1 : Blk w21_1 g0_3 51 #[.int .i64 (0), .int .i64 (0), .int .i64 (0), .slice none 0 0, .int .i64 (0)] := b21_1
   have L58 := L56.tb h21_1 L3 hg0_3
   refine W.run 1 rfl (W.nx (WC.ret (E.blkR (E.thenR ?_))))
   refine E.retG2 rfl (resA rfl b21_1 ag51 (by rfl)) rfl ?_
   exact ⟨(⟨0, 0, 0, [], 0⟩ : Sta), 0, none, 0, 10, rfl, OVec.nil _ _ _ _ _ _, (fun h => absurd h (by decide)), L58⟩
  refine WC.condN rfl (decide_eq_false c7) ?_
  refine WC.skip (E.blkN (E.thenN (WC.sr ?_)))
  have f59 := (f52.le h20_4)
  refine W.r (.loadAll ag51 (by rfl) rfl f59) ?_
  have f60 := (((((((((b0_3.le (h1_2.trans (h1_6.trans h3_6))).ch h3_7 (fun h => (show g3_6 ≠ g0_3 from by have := b0_3.lt; have := h1_2.size; have := h1_6.size; omega) (oI h))).le (h4_4.trans (h5_5.trans h5_9))).ch h5_10 (fun h => (show g5_9 ≠ g0_3 from by have := b0_3.lt; have := h1_2.size; have := h1_6.size; have := h3_6.size; have := h3_7.size; have := h4_4.size; have := h5_5.size; omega) (oI h))).le (d14.trans (h16_2.trans h16_3))).ch h16_4 (fun h => (show g16_3 ≠ g0_3 from by have := b0_3.lt; have := h1_2.size; have := h1_6.size; have := h3_6.size; have := h3_7.size; have := h4_4.size; have := h5_5.size; have := h5_9.size; have := h5_10.size; have := d14.size; have := h16_2.size; omega) (oI h))).le d17).ch h17_10 (fun h => (show g16_3 ≠ g0_3 from by have := b0_3.lt; have := h1_2.size; have := h1_6.size; have := h3_6.size; have := h3_7.size; have := h4_4.size; have := h5_5.size; have := h5_9.size; have := h5_10.size; have := d14.size; have := h16_2.size; omega) (oI h))).le (h18_4.trans (d20.trans h20_4)))
  refine W.sA sz51 rfl rfl f60 ?_
  intro w22_1 b22_1 h22_1
  have b22_1 : Blk w22_1 g0_3 51 #[.int .i64 (s.no), .int .i64 ((s.h0 - q.am)), .int .i64 (s.h1), .slice A16_2 (n + 1) c16_2, .int .i64 (s.rt)] := b22_1
  have L61 := L56.tb h22_1 L3 hg0_3
  refine W.run 1 rfl (W.nx (WC.ret ?_))
  have f62 := ((f55.le h20_4).ch h22_1 (fun q hq => by cases hq; exact (fun he => by have := (f55.row he).1; have := b0_3.lt; have := h1_2.size; have := h1_6.size; have := h3_6.size; have := h3_7.size; have := h4_4.size; have := h5_5.size; have := h5_9.size; have := h5_10.size; have := d14.size; omega)))
  refine E.retG2 rfl (resA rfl b22_1 ag51 (by rfl)) rfl ?_
  have hST : (⟨s.no, (s.h0 - q.am), s.h1, (putC s.cs q k16_2), s.rt⟩ : Sta) = Shp.addS s q k16_2 := by unfold Shp.addS Sta.setH; rw [if_pos (by assumption), h_0 s (by assumption)]
  rw [hST] at c6 c7
  exact ⟨(⟨s.no, (s.h0 - q.am), s.h1, (putC s.cs q k16_2), s.rt⟩ : Sta), _, A16_2, c16_2, 0, rfl, (f62.mono L33.size), fun _ => ⟨add_ok_of hch.op hf hk16_2 (by simpa using c1) (by omega) (by rw [h_0 s (by assumption)]; omega) c6, k16_2, hk16_2, hST⟩, L61⟩
 refine W.a (.sub rfl rfl (by omega)) ?_
 refine W.a (.field0 fa43_3 rfl) ?_
 refine W.a (.idxA (0) underlying41 sz40 rfl rfl (by omega) (by omega)) ?_
 have f63 := (f5.le (h1_2.trans h1_6))
 refine W.r (.bpart [.int .i64 (100), .int .i64 (200), .int .i64 (5), .int .i64 (16), .int .i64 (1), .int .i64 (1125899906842624)] ag40 rfl (by decide) rfl f63 rfl) ?_
 refine W.ef rfl rfl rfl ?_
 refine Ef.allocA z40 ?_
 intro g3_6_1 w3_6_1 hg3_6_1 b3_6_1 h3_6_1
 have L64 := L9.trans h3_6_1
 have b3_6_1 : Blk w3_6_1 g3_6_1 40 #[.int .i64 (0), .int .i64 (0), .int .i64 (0), .int .i64 (0), .int .i64 (0), .int .i64 (0)] := b3_6_1
 refine W.sA sz40 rfl rfl b3_6_1 ?_
 intro w3_7_1 b3_7_1 h3_7_1
 have b3_7_1 : Blk w3_7_1 g3_6_1 40 #[.int .i64 (100), .int .i64 (200), .int .i64 (5), .int .i64 (16), .int .i64 (1), .int .i64 (1125899906842624)] := b3_7_1
 have L65 := L64.tb h3_7_1 L9 hg3_6_1
 refine W.nx (WC.sr ?_)
 have f66 := ((f6.le (h1_2.trans (h1_6.trans h3_6_1))).ch h3_7_1 (fun h => (show g3_6_1 ≠ g0_1 from by have := f6.lt; have := h1_2.size; have := h1_6.size; omega) (oI h)))
 refine W.r (.loadAll ag51 (by rfl) rfl f66) ?_
 refine W.a (.field0 fa66_0 rfl) ?_
 have f67 := ((f10.le h3_6_1).ch h3_7_1 (fun h => (show g3_6_1 ≠ g0_2 from by have := f10.lt; omega) (oI h)))
 refine W.r (.loadB (v := .int .i64 (q.fr)) na3 rfl f67 rfl) ?_
 refine W.a (.sub rfl rfl (by omega)) ?_
 refine W.cl go41 rfl rfl (soffered_ok (c := c) (1 - q.fr) w3_7_1 (hC.le L65) hr (by omega)) ?_
 rintro _ w4_4_1 ⟨rfl, h4_4_1⟩
 have L68 := L65.trans h4_4_1
 refine W.run 5 rfl (W.nx (WC.sr ?_))
 have f69 := (f66.le h4_4_1)
 refine W.r (.loadAll ag51 (by rfl) rfl f69) ?_
 refine W.a (.field0 fa66_0 rfl) ?_
 have f70 := (f67.le h4_4_1)
 refine W.r (.loadB (v := .int .i64 (q.fr)) na3 rfl f70 rfl) ?_
 refine W.a (.field0 fa66_1 rfl) ?_
 refine W.r (.loadB (v := .int .i64 (q.id)) na3 rfl f70 rfl) ?_
 refine W.cl go42 rfl rfl (sfind_ok (c := c) q.fr q.id w4_4_1 (hC.le L68) hr.len) ?_
 rintro _ w5_5_1 ⟨rfl, h5_5_1⟩
 have L71 := L68.trans h5_5_1
 refine W.run 1 rfl ?_
 refine W.a (.extract (v := .agg (condV ((findC s.cs q.fr q.id).getD noCnd)).toArray) rfl rfl) ?_
 refine W.run 1 rfl (W.ef rfl rfl rfl ?_)
 refine Ef.allocA z66 ?_
 intro g5_9_1 w5_9_1 hg5_9_1 b5_9_1 h5_9_1
 have L72 := L71.trans h5_9_1
 have b5_9_1 : Blk w5_9_1 g5_9_1 66 (condV noCnd).toArray := b5_9_1
 refine W.ef0 rfl rfl ?_
 refine Ef.storeAll sz66 (by rfl) rfl rfl b5_9_1 (by simp only [List.size_toArray, condV_row.len]) (condV_row.one ((findC s.cs q.fr q.id).getD noCnd)) ?_
 intro w5_10_1 b5_10_1 h5_10_1
 have b5_10_1 : Blk w5_10_1 g5_9_1 66 (condV ((findC s.cs q.fr q.id).getD noCnd)).toArray := b5_10_1
 have L73 := L72.tb h5_10_1 L71 hg5_9_1
 refine W.run 1 rfl (W.nx (WC.seq (WC.block (WC.sr (W.run 2 rfl (W.nx ?_))))))
 by_cases c1 : ((findC s.cs q.fr q.id).isSome) = true
 ·refine WC.condY rfl (c1) ?_
  refine WC.sr ?_
  refine W.a (.buildP [.int .i64 (0), .int .i64 (0), .int .i64 (0), .slice none 0 0, .int .i64 (0)] pl51 z51 rfl rfl) ?_
  have f74 := ((((b0_3.le (h1_2.trans (h1_6.trans h3_6_1))).ch h3_7_1 (fun h => (show g3_6_1 ≠ g0_3 from by have := b0_3.lt; have := h1_2.size; have := h1_6.size; omega) (oI h))).le (h4_4_1.trans (h5_5_1.trans h5_9_1))).ch h5_10_1 (fun h => (show g5_9_1 ≠ g0_3 from by have := b0_3.lt; have := h1_2.size; have := h1_6.size; have := h3_6_1.size; have := h3_7_1.size; have := h4_4_1.size; have := h5_5_1.size; omega) (oI h)))
  refine W.sA sz51 rfl rfl f74 ?_
  intro w7_1_1 b7_1_1 h7_1_1
  have b7_1_1 : Blk w7_1_1 g0_3 51 #[.int .i64 (0), .int .i64 (0), .int .i64 (0), .slice none 0 0, .int .i64 (0)] := b7_1_1
  have L75 := L73.tb h7_1_1 L3 hg0_3
  refine W.run 1 rfl (W.nx (WC.ret (E.blkR (E.thenR ?_))))
  refine E.retG2 rfl (resA rfl b7_1_1 ag51 (by rfl)) rfl ?_
  exact ⟨(⟨0, 0, 0, [], 0⟩ : Sta), 0, none, 0, 4, rfl, OVec.nil _ _ _ _ _ _, (fun h => absurd h (by decide)), L75⟩
 refine WC.condN rfl ((Bool.eq_false_iff.2 c1)) ?_
 refine WC.sr ?_
 refine W.a (.field0 fa66_2 rfl) ?_
 have f76 := ((f70.le (h5_5_1.trans h5_9_1)).ch h5_10_1 (fun h => (show g5_9_1 ≠ g0_2 from by have := f70.lt; have := h5_5_1.size; omega) (oI h)))
 refine W.r (.loadB (v := .int .i64 (q.am)) na3 rfl f76 rfl) ?_
 refine W.a (.field0 fa40_4 rfl) ?_
 have f77 := ((b3_7_1.le (h4_4_1.trans (h5_5_1.trans h5_9_1))).ch h5_10_1 (fun h => (show g5_9_1 ≠ g3_6_1 from by have := b3_7_1.lt; have := h4_4_1.size; have := h5_5_1.size; omega) (oI h)))
 refine W.r (.loadB (v := .int .i64 (1)) na3 rfl f77 rfl) ?_
 refine W.a (.dec (.lss rfl rfl) (dF (by omega))) ?_
 refine W.run 1 rfl (W.nx (WC.condF rfl (WC.sr ?_)))
 refine W.a (.field0 fa51_2 rfl) ?_
 have f78 := ((f69.le (h5_5_1.trans h5_9_1)).ch h5_10_1 (fun h => (show g5_9_1 ≠ g0_1 from by have := f69.lt; have := h5_5_1.size; omega) (oI h)))
 refine W.r (.loadB (v := .slice A n c) na49 rfl f78 rfl) ?_
 refine W.r (.len underlying49 rfl) ?_
 refine W.run 1 rfl ?_
 by_cases q10_4 : 16 <= ((n : Nat) : Int)
 ·refine W.dt q10_4 rfl rfl (W.run 6 rfl (W.nx (WC.condT rfl (WC.sr ?_))))
  refine W.a (.buildP [.int .i64 (0), .int .i64 (0), .int .i64 (0), .slice none 0 0, .int .i64 (0)] pl51 z51 rfl rfl) ?_
  have f79 := ((((b0_3.le (h1_2.trans (h1_6.trans h3_6_1))).ch h3_7_1 (fun h => (show g3_6_1 ≠ g0_3 from by have := b0_3.lt; have := h1_2.size; have := h1_6.size; omega) (oI h))).le (h4_4_1.trans (h5_5_1.trans h5_9_1))).ch h5_10_1 (fun h => (show g5_9_1 ≠ g0_3 from by have := b0_3.lt; have := h1_2.size; have := h1_6.size; have := h3_6_1.size; have := h3_7_1.size; have := h4_4_1.size; have := h5_5_1.size; omega) (oI h)))
  refine W.sA sz51 rfl rfl f79 ?_
  intro w11_1_2 b11_1_2 h11_1_2
  have b11_1_2 : Blk w11_1_2 g0_3 51 #[.int .i64 (0), .int .i64 (0), .int .i64 (0), .slice none 0 0, .int .i64 (0)] := b11_1_2
  have L80 := L73.tb h11_1_2 L3 hg0_3
  refine W.run 1 rfl (W.nx (WC.ret (E.blkR (E.thenR ?_))))
  refine E.retG2 rfl (resA rfl b11_1_2 ag51 (by rfl)) rfl ?_
  exact ⟨(⟨0, 0, 0, [], 0⟩ : Sta), 0, none, 0, 3, rfl, OVec.nil _ _ _ _ _ _, (fun h => absurd h (by decide)), L80⟩
 refine W.df q10_4 rfl rfl (W.run 1 rfl ?_)
 refine W.g (Any.rd (.field0 fa40_3 rfl) _) ?_
 refine W.g (.loadB (v := .int .i64 (16)) na3 rfl f77 rfl) ?_
 refine W.run 3 rfl (W.nx ?_)
 by_cases c3 : 16 <= (((ofC s.cs (1 - (1 - q.fr))).length : Nat) : Int)
 ·refine WC.condY rfl (decide_eq_true c3) ?_
  refine WC.sr ?_
  refine W.a (.buildP [.int .i64 (0), .int .i64 (0), .int .i64 (0), .slice none 0 0, .int .i64 (0)] pl51 z51 rfl rfl) ?_
  have f81 := ((((b0_3.le (h1_2.trans (h1_6.trans h3_6_1))).ch h3_7_1 (fun h => (show g3_6_1 ≠ g0_3 from by have := b0_3.lt; have := h1_2.size; have := h1_6.size; omega) (oI h))).le (h4_4_1.trans (h5_5_1.trans h5_9_1))).ch h5_10_1 (fun h => (show g5_9_1 ≠ g0_3 from by have := b0_3.lt; have := h1_2.size; have := h1_6.size; have := h3_6_1.size; have := h3_7_1.size; have := h4_4_1.size; have := h5_5_1.size; omega) (oI h)))
  refine W.sA sz51 rfl rfl f81 ?_
  intro w11_1_3 b11_1_3 h11_1_3
  have b11_1_3 : Blk w11_1_3 g0_3 51 #[.int .i64 (0), .int .i64 (0), .int .i64 (0), .slice none 0 0, .int .i64 (0)] := b11_1_3
  have L82 := L73.tb h11_1_3 L3 hg0_3
  refine W.run 1 rfl (W.nx (WC.ret (E.blkR (E.thenR ?_))))
  refine E.retG2 rfl (resA rfl b11_1_3 ag51 (by rfl)) rfl ?_
  exact ⟨(⟨0, 0, 0, [], 0⟩ : Sta), 0, none, 0, 3, rfl, OVec.nil _ _ _ _ _ _, (fun h => absurd h (by decide)), L82⟩
 refine WC.condN rfl (decide_eq_false c3) ?_
 refine WC.sr (W.run 1 rfl ?_)
 refine W.a (.field0 fa66_2 rfl) ?_
 refine W.r (.loadB (v := .int .i64 (q.am)) na3 rfl f76 rfl) ?_
 refine W.a (.add rfl rfl (by omega)) ?_
 refine W.a (.field0 fa40_5 rfl) ?_
 refine W.r (.loadB (v := .int .i64 (1125899906842624)) na3 rfl f77 rfl) ?_
 refine W.run 2 rfl (W.nx ?_)
 by_cases c4 : 1125899906842624 < ((sumC (ofC s.cs (1 - (1 - q.fr)))) + q.am)
 ·refine WC.condY rfl (decide_eq_true c4) ?_
  refine WC.sr ?_
  refine W.a (.buildP [.int .i64 (0), .int .i64 (0), .int .i64 (0), .slice none 0 0, .int .i64 (0)] pl51 z51 rfl rfl) ?_
  have f83 := ((((b0_3.le (h1_2.trans (h1_6.trans h3_6_1))).ch h3_7_1 (fun h => (show g3_6_1 ≠ g0_3 from by have := b0_3.lt; have := h1_2.size; have := h1_6.size; omega) (oI h))).le (h4_4_1.trans (h5_5_1.trans h5_9_1))).ch h5_10_1 (fun h => (show g5_9_1 ≠ g0_3 from by have := b0_3.lt; have := h1_2.size; have := h1_6.size; have := h3_6_1.size; have := h3_7_1.size; have := h4_4_1.size; have := h5_5_1.size; omega) (oI h)))
  refine W.sA sz51 rfl rfl f83 ?_
  intro w13_1_1 b13_1_1 h13_1_1
  have b13_1_1 : Blk w13_1_1 g0_3 51 #[.int .i64 (0), .int .i64 (0), .int .i64 (0), .slice none 0 0, .int .i64 (0)] := b13_1_1
  have L84 := L73.tb h13_1_1 L3 hg0_3
  refine W.run 1 rfl (W.nx (WC.ret (E.blkR (E.thenR ?_))))
  refine E.retG2 rfl (resA rfl b13_1_1 ag51 (by rfl)) rfl ?_
  exact ⟨(⟨0, 0, 0, [], 0⟩ : Sta), 0, none, 0, 6, rfl, OVec.nil _ _ _ _ _ _, (fun h => absurd h (by decide)), L84⟩
 refine WC.condN rfl (decide_eq_false c4) ?_
 refine WC.seq ?_
 refine WC.draw [0, 1, 2, 3, 4, 5, 6, 7, 8] mixed (by kernel_rfl) ?_
 intro w14 d14
 have L85 := L73.trans d14
 refine G.a rfl (.field0 fa66_0 rfl) ?_
 have f86 := (f76.le d14)
 refine G.r rfl (.loadB (v := .int .i64 (q.fr)) na3 rfl f86 rfl) ?_
 refine G.a rfl (.field0 fa51_1 rfl) ?_
 refine G.a rfl (.idxAo (1) underlying48 sz3 rfl rfl (by omega) (by omega)) ?_
 have f87 := (f78.le d14)
 refine G.r rfl (.loadB (v := .int .i64 (s.h1)) na3 rfl f87 rfl) ?_
 refine G.a rfl (.field0 fa66_2 rfl) ?_
 refine G.r rfl (.loadB (v := .int .i64 (q.am)) na3 rfl f86 rfl) ?_
 refine G.run 2 rfl (G.nil (E.thenN ?_))
 by_cases c5 : s.h1 < q.am
 ·refine WC.condY rfl (decide_eq_true c5) ?_
  refine WC.sr ?_
  refine W.a (.buildP [.int .i64 (0), .int .i64 (0), .int .i64 (0), .slice none 0 0, .int .i64 (0)] pl51 z51 rfl rfl) ?_
  have f88 := (((((b0_3.le (h1_2.trans (h1_6.trans h3_6_1))).ch h3_7_1 (fun h => (show g3_6_1 ≠ g0_3 from by have := b0_3.lt; have := h1_2.size; have := h1_6.size; omega) (oI h))).le (h4_4_1.trans (h5_5_1.trans h5_9_1))).ch h5_10_1 (fun h => (show g5_9_1 ≠ g0_3 from by have := b0_3.lt; have := h1_2.size; have := h1_6.size; have := h3_6_1.size; have := h3_7_1.size; have := h4_4_1.size; have := h5_5_1.size; omega) (oI h))).le d14)
  refine W.sA sz51 rfl rfl f88 ?_
  intro w15_1_1 b15_1_1 h15_1_1
  have b15_1_1 : Blk w15_1_1 g0_3 51 #[.int .i64 (0), .int .i64 (0), .int .i64 (0), .slice none 0 0, .int .i64 (0)] := b15_1_1
  have L89 := L85.tb h15_1_1 L3 hg0_3
  refine W.run 1 rfl (W.nx (WC.ret (E.blkR (E.thenR ?_))))
  refine E.retG2 rfl (resA rfl b15_1_1 ag51 (by rfl)) rfl ?_
  exact ⟨(⟨0, 0, 0, [], 0⟩ : Sta), 0, none, 0, 8, rfl, OVec.nil _ _ _ _ _ _, (fun h => absurd h (by decide)), L89⟩
 refine WC.condN rfl (decide_eq_false c5) ?_
 refine WC.skip (E.blkN (E.thenN (WC.sr ?_)))
 refine W.r (.loadAll ag51 (by rfl) rfl f87) ?_
 refine W.r (.loadAll ag66 (by rfl) rfl f86) ?_
 refine W.cl go43 rfl rfl (swith_ok (c := c) q w14 (hC.le L85) hr.len hr.ord) ?_
 rintro _ w16_2_1 ⟨k16_2_1, A16_2_1, c16_2_1, rfl, hk16_2_1, o16_2_1, h16_2_1⟩
 have L90 := L85.trans h16_2_1
 refine W.ef rfl rfl rfl ?_
 refine Ef.allocA z51 ?_
 intro g16_3_1 w16_3_1 hg16_3_1 b16_3_1 h16_3_1
 have L91 := L90.trans h16_3_1
 have b16_3_1 : Blk w16_3_1 g16_3_1 51 #[.int .i64 (0), .int .i64 (0), .int .i64 (0), .slice none 0 0, .int .i64 (0)] := b16_3_1
 refine W.sA sz51 rfl rfl b16_3_1 ?_
 intro w16_4_1 b16_4_1 h16_4_1
 have b16_4_1 : Blk w16_4_1 g16_3_1 51 #[.int .i64 (s.no), .int .i64 (s.h0), .int .i64 (s.h1), .slice A16_2_1 (n + 1) c16_2_1, .int .i64 (s.rt)] := b16_4_1
 have L92 := L91.tb h16_4_1 L90 hg16_3_1
 refine W.nx (WC.seq ?_)
 refine WC.draw [0, 1, 2, 3, 4, 5, 6, 7, 8, 9, 10] mixed (by kernel_rfl) ?_
 intro w17 d17
 have L93 := L92.trans d17
 refine G.a rfl (.field0 fa66_0 rfl) ?_
 have f94 := (((f86.le (h16_2_1.trans h16_3_1)).ch h16_4_1 (fun h => (show g16_3_1 ≠ g0_2 from by have := f86.lt; have := h16_2_1.size; omega) (oI h))).le d17)
 refine G.r rfl (.loadB (v := .int .i64 (q.fr)) na3 rfl f94 rfl) ?_
 refine G.a rfl (.field0 fa51_1 rfl) ?_
 refine G.a rfl (.idxAo (1) underlying48 sz3 rfl rfl (by omega) (by omega)) ?_
 have f95 := (b16_4_1.le d17)
 refine G.r rfl (.loadB (v := .int .i64 (s.h1)) na3 rfl f95 rfl) ?_
 refine G.a rfl (.field0 fa66_2 rfl) ?_
 refine G.r rfl (.loadB (v := .int .i64 (q.am)) na3 rfl f94 rfl) ?_
 refine G.a rfl (.sub rfl rfl (by omega)) ?_
 refine G.a rfl (.field0 fa51_1 rfl) ?_
 refine G.a rfl (.idxAo (1) underlying48 sz3 rfl rfl (by omega) (by omega)) ?_
 refine G.ef0 rfl rfl rfl rfl ?_
 refine Ef.store sz3 rfl rfl f95 (by first | decide | (simp; done)) (rfl) ?_
 intro w17_10_1 b17_10_1 h17_10_1
 refine noT (by kernel_rfl) ?_
 have b17_10_1 : Blk w17_10_1 g16_3_1 51 #[.int .i64 (s.no), .int .i64 (s.h0), .int .i64 ((s.h1 - q.am)), .slice A16_2_1 (n + 1) c16_2_1, .int .i64 (s.rt)] := b17_10_1
 have L96 := L93.tb h17_10_1 L90 hg16_3_1
 refine G.nil (E.thenN (WC.seq (WC.block (WC.sr ?_))))
 have f97 := ((((((((f63.le h3_6_1).ch h3_7_1 (fun h => (show g3_6_1 ≠ g0_0 from by have := f63.lt; omega) (oI h))).le (h4_4_1.trans (h5_5_1.trans h5_9_1))).ch h5_10_1 (fun h => (show g5_9_1 ≠ g0_0 from by have := f63.lt; have := h3_6_1.size; have := h3_7_1.size; have := h4_4_1.size; have := h5_5_1.size; omega) (oI h))).le (d14.trans (h16_2_1.trans h16_3_1))).ch h16_4_1 (fun h => (show g16_3_1 ≠ g0_0 from by have := f63.lt; have := h3_6_1.size; have := h3_7_1.size; have := h4_4_1.size; have := h5_5_1.size; have := h5_9_1.size; have := h5_10_1.size; have := d14.size; have := h16_2_1.size; omega) (oI h))).le d17).ch h17_10_1 (fun h => (show g16_3_1 ≠ g0_0 from by have := f63.lt; have := h3_6_1.size; have := h3_7_1.size; have := h4_4_1.size; have := h5_5_1.size; have := h5_9_1.size; have := h5_10_1.size; have := d14.size; have := h16_2_1.size; omega) (oI h)))
 refine W.r (.loadAll ag43 (by rfl) rfl f97) ?_
 refine W.r (.loadAll ag51 (by rfl) rfl b17_10_1) ?_
 refine W.a (.field0 fa43_4 rfl) ?_
 refine W.r (.loadB (v := .int .i64 (ch.op)) na3 rfl f97 rfl) ?_
 have f98 := ((((o16_2_1.le h16_3_1).ch h16_4_1 (fun q hq => by cases hq; exact (fun he => by have := (o16_2_1.row he).2; omega))).le d17).ch h17_10_1 (fun q hq => by cases hq; exact (fun he => by have := (o16_2_1.row he).2; omega)))
 refine W.cl go44 rfl rfl (sfree_ok (s := (⟨s.no, s.h0, (s.h1 - q.am), (putC s.cs q k16_2_1), s.rt⟩ : Sta)) (c := c16_2_1) ch ch.op (by omega) w17_10_1 f98.vec (by show (putC s.cs q k16_2_1).length <= 16; rw [putC_len hk16_2_1.le]; omega) hr.rt_ (by dsimp only; omega)) ?_
 rintro _ w18_4_1 ⟨rfl, h18_4_1⟩
 have L99 := L96.trans h18_4_1
 refine W.run 2 rfl (W.nx ?_)
 by_cases c6 : (freeC ch.op (⟨s.no, s.h0, (s.h1 - q.am), (putC s.cs q k16_2_1), s.rt⟩ : Sta) ch.op) < 0
 ·refine WC.condY rfl (decide_eq_true c6) ?_
  refine WC.sr ?_
  refine W.a (.buildP [.int .i64 (0), .int .i64 (0), .int .i64 (0), .slice none 0 0, .int .i64 (0)] pl51 z51 rfl rfl) ?_
  have f100 := (((((((((b0_3.le (h1_2.trans (h1_6.trans h3_6_1))).ch h3_7_1 (fun h => (show g3_6_1 ≠ g0_3 from by have := b0_3.lt; have := h1_2.size; have := h1_6.size; omega) (oI h))).le (h4_4_1.trans (h5_5_1.trans h5_9_1))).ch h5_10_1 (fun h => (show g5_9_1 ≠ g0_3 from by have := b0_3.lt; have := h1_2.size; have := h1_6.size; have := h3_6_1.size; have := h3_7_1.size; have := h4_4_1.size; have := h5_5_1.size; omega) (oI h))).le (d14.trans (h16_2_1.trans h16_3_1))).ch h16_4_1 (fun h => (show g16_3_1 ≠ g0_3 from by have := b0_3.lt; have := h1_2.size; have := h1_6.size; have := h3_6_1.size; have := h3_7_1.size; have := h4_4_1.size; have := h5_5_1.size; have := h5_9_1.size; have := h5_10_1.size; have := d14.size; have := h16_2_1.size; omega) (oI h))).le d17).ch h17_10_1 (fun h => (show g16_3_1 ≠ g0_3 from by have := b0_3.lt; have := h1_2.size; have := h1_6.size; have := h3_6_1.size; have := h3_7_1.size; have := h4_4_1.size; have := h5_5_1.size; have := h5_9_1.size; have := h5_10_1.size; have := d14.size; have := h16_2_1.size; omega) (oI h))).le h18_4_1)
  refine W.sA sz51 rfl rfl f100 ?_
  intro w19_1_1 b19_1_1 h19_1_1
  have b19_1_1 : Blk w19_1_1 g0_3 51 #[.int .i64 (0), .int .i64 (0), .int .i64 (0), .slice none 0 0, .int .i64 (0)] := b19_1_1
  have L101 := L99.tb h19_1_1 L3 hg0_3
  refine W.run 1 rfl (W.nx (WC.ret (E.blkR (E.thenR ?_))))
  refine E.retG2 rfl (resA rfl b19_1_1 ag51 (by rfl)) rfl ?_
  exact ⟨(⟨0, 0, 0, [], 0⟩ : Sta), 0, none, 0, 8, rfl, OVec.nil _ _ _ _ _ _, (fun h => absurd h (by decide)), L101⟩
 refine WC.condN rfl (decide_eq_false c6) ?_
 refine WC.seq ?_
 refine WC.draw [0, 1, 2, 3, 5, 6, 4, 7, 8] mixed (by kernel_rfl) ?_
 intro w20 d20
 have L102 := L99.trans d20
 have f103 := (f97.le (h18_4_1.trans d20))
 refine G.r rfl (.loadAll ag43 (by rfl) rfl f103) ?_
 have f104 := (b17_10_1.le (h18_4_1.trans d20))
 refine G.r rfl (.loadAll ag51 (by rfl) rfl f104) ?_
 refine G.a rfl (.field0 fa66_0 rfl) ?_
 have f105 := ((f94.ch h17_10_1 (fun h => (show g16_3_1 ≠ g0_2 from by have := f86.lt; have := h16_2_1.size; omega) (oI h))).le (h18_4_1.trans d20))
 refine G.r rfl (.loadB (v := .int .i64 (q.fr)) na3 rfl f105 rfl) ?_
 refine G.a rfl (.field0 fa40_1 rfl) ?_
 have f106 := (((((f77.le (d14.trans (h16_2_1.trans h16_3_1))).ch h16_4_1 (fun h => (show g16_3_1 ≠ g3_6_1 from by have := f77.lt; have := d14.size; have := h16_2_1.size; omega) (oI h))).le d17).ch h17_10_1 (fun h => (show g16_3_1 ≠ g3_6_1 from by have := f77.lt; have := d14.size; have := h16_2_1.size; omega) (oI h))).le (h18_4_1.trans d20))
 refine G.r rfl (.loadB (v := .int .i64 (200)) na3 rfl f106 rfl) ?_
 have f107 := (f98.le (h18_4_1.trans d20))
 refine G.ef rfl rfl rfl rfl rfl ?_
 refine Ef.call go44 rfl rfl (sfree_ok (s := (⟨s.no, s.h0, (s.h1 - q.am), (putC s.cs q k16_2_1), s.rt⟩ : Sta)) (c := c16_2_1) ch q.fr (by omega) w20 f107.vec (by show (putC s.cs q k16_2_1).length <= 16; rw [putC_len hk16_2_1.le]; omega) hr.rt_ (by dsimp only; omega)) ?_
 rintro _ w20_4_1 ⟨rfl, h20_4_1⟩
 refine ⟨_, rfl, ?_⟩
 refine ⟨fun _ => h20_4_1, ?_⟩
 have L108 := L102.trans h20_4_1
 refine G.run 2 rfl (G.nil (E.thenN ?_))
 by_cases c7 : (freeC ch.op (⟨s.no, s.h0, (s.h1 - q.am), (putC s.cs q k16_2_1), s.rt⟩ : Sta) q.fr) < 200
 ·refine WC.condY rfl (decide_eq_true c7) ?_
  refine WC.sr ?_
  refine W.a (.buildP [.int .i64 (0), .int .i64 (0), .int .i64 (0), .slice none 0 0, .int .i64 (0)] pl51 z51 rfl rfl) ?_
  have f109 := (((((((((b0_3.le (h1_2.trans (h1_6.trans h3_6_1))).ch h3_7_1 (fun h => (show g3_6_1 ≠ g0_3 from by have := b0_3.lt; have := h1_2.size; have := h1_6.size; omega) (oI h))).le (h4_4_1.trans (h5_5_1.trans h5_9_1))).ch h5_10_1 (fun h => (show g5_9_1 ≠ g0_3 from by have := b0_3.lt; have := h1_2.size; have := h1_6.size; have := h3_6_1.size; have := h3_7_1.size; have := h4_4_1.size; have := h5_5_1.size; omega) (oI h))).le (d14.trans (h16_2_1.trans h16_3_1))).ch h16_4_1 (fun h => (show g16_3_1 ≠ g0_3 from by have := b0_3.lt; have := h1_2.size; have := h1_6.size; have := h3_6_1.size; have := h3_7_1.size; have := h4_4_1.size; have := h5_5_1.size; have := h5_9_1.size; have := h5_10_1.size; have := d14.size; have := h16_2_1.size; omega) (oI h))).le d17).ch h17_10_1 (fun h => (show g16_3_1 ≠ g0_3 from by have := b0_3.lt; have := h1_2.size; have := h1_6.size; have := h3_6_1.size; have := h3_7_1.size; have := h4_4_1.size; have := h5_5_1.size; have := h5_9_1.size; have := h5_10_1.size; have := d14.size; have := h16_2_1.size; omega) (oI h))).le (h18_4_1.trans (d20.trans h20_4_1)))
  refine W.sA sz51 rfl rfl f109 ?_
  intro w21_1_1 b21_1_1 h21_1_1
  have b21_1_1 : Blk w21_1_1 g0_3 51 #[.int .i64 (0), .int .i64 (0), .int .i64 (0), .slice none 0 0, .int .i64 (0)] := b21_1_1
  have L110 := L108.tb h21_1_1 L3 hg0_3
  refine W.run 1 rfl (W.nx (WC.ret (E.blkR (E.thenR ?_))))
  refine E.retG2 rfl (resA rfl b21_1_1 ag51 (by rfl)) rfl ?_
  exact ⟨(⟨0, 0, 0, [], 0⟩ : Sta), 0, none, 0, 10, rfl, OVec.nil _ _ _ _ _ _, (fun h => absurd h (by decide)), L110⟩
 refine WC.condN rfl (decide_eq_false c7) ?_
 refine WC.skip (E.blkN (E.thenN (WC.sr ?_)))
 have f111 := (f104.le h20_4_1)
 refine W.r (.loadAll ag51 (by rfl) rfl f111) ?_
 have f112 := (((((((((b0_3.le (h1_2.trans (h1_6.trans h3_6_1))).ch h3_7_1 (fun h => (show g3_6_1 ≠ g0_3 from by have := b0_3.lt; have := h1_2.size; have := h1_6.size; omega) (oI h))).le (h4_4_1.trans (h5_5_1.trans h5_9_1))).ch h5_10_1 (fun h => (show g5_9_1 ≠ g0_3 from by have := b0_3.lt; have := h1_2.size; have := h1_6.size; have := h3_6_1.size; have := h3_7_1.size; have := h4_4_1.size; have := h5_5_1.size; omega) (oI h))).le (d14.trans (h16_2_1.trans h16_3_1))).ch h16_4_1 (fun h => (show g16_3_1 ≠ g0_3 from by have := b0_3.lt; have := h1_2.size; have := h1_6.size; have := h3_6_1.size; have := h3_7_1.size; have := h4_4_1.size; have := h5_5_1.size; have := h5_9_1.size; have := h5_10_1.size; have := d14.size; have := h16_2_1.size; omega) (oI h))).le d17).ch h17_10_1 (fun h => (show g16_3_1 ≠ g0_3 from by have := b0_3.lt; have := h1_2.size; have := h1_6.size; have := h3_6_1.size; have := h3_7_1.size; have := h4_4_1.size; have := h5_5_1.size; have := h5_9_1.size; have := h5_10_1.size; have := d14.size; have := h16_2_1.size; omega) (oI h))).le (h18_4_1.trans (d20.trans h20_4_1)))
 refine W.sA sz51 rfl rfl f112 ?_
 intro w22_1_1 b22_1_1 h22_1_1
 have b22_1_1 : Blk w22_1_1 g0_3 51 #[.int .i64 (s.no), .int .i64 (s.h0), .int .i64 ((s.h1 - q.am)), .slice A16_2_1 (n + 1) c16_2_1, .int .i64 (s.rt)] := b22_1_1
 have L113 := L108.tb h22_1_1 L3 hg0_3
 refine W.run 1 rfl (W.nx (WC.ret ?_))
 have f114 := ((f107.le h20_4_1).ch h22_1_1 (fun q hq => by cases hq; exact (fun he => by have := (f107.row he).1; have := b0_3.lt; have := h1_2.size; have := h1_6.size; have := h3_6_1.size; have := h3_7_1.size; have := h4_4_1.size; have := h5_5_1.size; have := h5_9_1.size; have := h5_10_1.size; have := d14.size; omega)))
 refine E.retG2 rfl (resA rfl b22_1_1 ag51 (by rfl)) rfl ?_
 have hST : (⟨s.no, s.h0, (s.h1 - q.am), (putC s.cs q k16_2_1), s.rt⟩ : Sta) = Shp.addS s q k16_2_1 := by unfold Shp.addS Sta.setH; rw [if_neg (by assumption), h_1 s (by assumption)]
 rw [hST] at c6 c7
 exact ⟨(⟨s.no, s.h0, (s.h1 - q.am), (putC s.cs q k16_2_1), s.rt⟩ : Sta), _, A16_2_1, c16_2_1, 0, rfl, (f114.mono L85.size), fun _ => ⟨add_ok_of hch.op hf hk16_2_1 (by simpa using c1) (by omega) (by rw [h_1 s (by assumption)]; omega) c6, k16_2_1, hk16_2_1, hST⟩, L113⟩
end Go.Proofs.YtgpaekbdbpkogaaGreat

namespace Go.Proofs.YtgpaekbdbpkogaaGreat
open Tryz
open Go Go.Sx Go.Hsp Go.Num Go.Osp Go.Gsp Go.Lsp Go.Shp
set_option maxRecDepth 20000
abbrev Byte := BitVec 8
def h32V (h : List Byte) : List Value := (List.range 32).map fun j => u8v (h.getD j 0)
def noH : List Byte := List.replicate 32 0
theorem h32V_eq {h : List Byte} (hl : h.length = 32) : h32V h = h.map u8v := by
  unfold h32V
  apply List.ext_getElem
  · simp [hl]
  · intro i h1 h2
    have : i < h.length := by simpa using h2
    simp [List.getD, this]
theorem h32V_row : RowF h32V 32 := ⟨fun _ => by simp [h32V], fun x v hv => by obtain ⟨j, _, rfl⟩ := List.mem_map.1 hv; rfl, by decide⟩
structure Kt where
  f : Nat
  p : Nat
  l : Nat
  c : Nat
  r : Nat
  ch : List Byte
def noKit : Kt := ⟨0, 0, 0, 0, 0, noH⟩
def kitV (k : Kt) : List Value := [.int .u64 ((k.f : Nat) : Int), .int .u64 ((k.p : Nat) : Int), .int .u64 ((k.l : Nat) : Int), .int .u64 ((k.c : Nat) : Int), .int .u64 ((k.r : Nat) : Int)] ++ h32V k.ch
def kit2V (k : Kt × Kt) : List Value := kitV k.1 ++ kitV k.2
structure Bas where
  f : Nat
  p : Nat
  l : Nat
  c : Nat
  r : Nat
def noBas : Bas := ⟨0, 0, 0, 0, 0⟩
def basV (b : Bas) : List Value := [.int .u64 ((b.f : Nat) : Int), .int .u64 ((b.p : Nat) : Int), .int .u64 ((b.l : Nat) : Int), .int .u64 ((b.c : Nat) : Int), .int .u64 ((b.r : Nat) : Int)]
theorem h32_one (h : List Byte) : ∀ v ∈ h32V h, v.oneCell' = true := h32V_row.one h
theorem kitV_row : RowF kitV 37 := ⟨fun k => by simp [kitV, h32V], fun x v hv => by
  rcases List.mem_append.1 hv with hv | hv
  · simp at hv; rcases hv with rfl | rfl | rfl | rfl | rfl <;> rfl
  · exact h32_one _ v hv, by decide⟩
theorem kit2V_row : RowF kit2V 74 := ⟨fun k => by simp [kit2V, kitV_row.len], fun x v hv => (List.mem_append.1 hv).elim (kitV_row.one _ v) (kitV_row.one _ v), by decide⟩
theorem basV_row : RowF basV 5 := ⟨fun _ => rfl, fun x v hv => by simp [basV] at hv; rcases hv with rfl | rfl | rfl | rfl | rfl <;> rfl, by decide⟩
def nKit : List Byte := [107, 105, 116]
def partB (seed : List Byte) (n : Nat) : List Byte := tag nKit [seed, [BitVec.ofNat 8 n]]
def kitB (seed : List Byte) : Kt := ⟨fromB (partB seed 1), fromB (partB seed 2), fromB (partB seed 3), fromB (partB seed 4), fromB (partB seed 5), partB seed 6⟩
def basB (k : Kt) : Bas := ⟨base k.f, base k.p, base k.l, base k.c, base k.r⟩
theorem ptOk_base {k : Nat} (h : k % q ≠ 0) : PtOk (base k) := ⟨right_base k, base_ne_one h, base_lt k⟩
theorem rfrom32_ok (h : List Byte) (hl : h.length = 32) (w : World) : Calls prog 56 #[.agg (h32V h).toArray] w fun e w' => e = .returned (.int .u64 ((fromB h : Nat) : Int)) /\ Le w w' := by
  rw [h32V_eq hl]
  exact rfrom_ok h hl w

theorem r19in_ok (n lo hi : Int) (w : World) : Calls prog 90 #[.int .i64 (n), .int .i64 (lo), .int .i64 (hi)] w fun r w' => r = .returned (.bool (inB n lo hi)) /\ Le w w' := by
 refine enter func90 rfl rfl ?_
 have L0 := Le.refl w
 refine WC.sr (W.run 1 rfl (W.nx (WC.sr (W.run 3 rfl ?_))))
 by_cases q1_3 : lo <= n
 ·refine W.dt q1_3 rfl rfl (W.run 5 rfl (W.nx (WC.ret ?_)))
  refine E.retG1 rfl rfl ?_
  exact ⟨(by first | rfl | (simp [inB, q1_3]; done) | (simp [inB, q1_3]; omega) | (simp [inB, q1_3]; split <;> first | (exfalso; omega) | (simp; done) | (simp; omega))), L0⟩
 refine W.df q1_3 rfl rfl (W.run 5 rfl (W.nx (WC.ret ?_)))
 refine E.retG1 rfl rfl ?_
 exact ⟨(by first | rfl | (simp [inB, q1_3]; done) | (simp [inB, q1_3]; omega) | (simp [inB, q1_3]; split <;> first | (exfalso; omega) | (simp; done) | (simp; omega))), L0⟩

theorem r19right_ok (d r de co le mo : Int) (h : (0 <= d /\ d <= 65536) /\ (d <= r /\ r <= 1125899906842624) /\ (1 <= de /\ de <= 4096) /\ (0 <= co /\ co <= 16) /\ (1 <= le /\ le <= 1125899906842624) /\ 0 <= mo /\ mo <= 1125899906842624) (w : World) : Calls prog 91 #[.agg #[.int .i64 (d), .int .i64 (r), .int .i64 (de), .int .i64 (co), .int .i64 (le), .int .i64 (mo)]] w fun r w' => r = .returned (.bool true) /\ Le w w' := by
 refine enter func91 rfl rfl ?_
 have L0 := Le.refl w
 refine WC.sr (W.ef rfl rfl rfl ?_)
 refine Ef.boxA rfl ?_
 intro g0_0 w0_0 hg0_0 b0_0 h0_0
 have L1 := L0.trans h0_0
 have b0_0 : Blk w0_0 g0_0 40 #[.int .i64 (d), .int .i64 (r), .int .i64 (de), .int .i64 (co), .int .i64 (le), .int .i64 (mo)] := b0_0
 refine W.run 1 rfl (W.nx (WC.sr ?_))
 refine W.a (.field0 fa40_0 rfl) ?_
 refine W.r (.loadB (v := .int .i64 (d)) na3 rfl b0_0 rfl) ?_
 refine W.cl go90 rfl rfl (r19in_ok d 0 65536 w0_0) ?_
 rintro _ w1_2 ⟨rfl, h1_2⟩
 have L2 := L1.trans h1_2
 by_cases q1_3 : (inB d 0 65536) = true
 ·refine W.a (.dec (.move rfl) (q1_3)) ?_
  refine W.g (Any.rd (.field0 fa40_1 rfl) _) ?_
  have f3 := (b0_0.le h1_2)
  refine W.g (.loadB (v := .int .i64 (r)) na3 rfl f3 rfl) ?_
  refine W.g (Any.rd (.field0 fa40_0 rfl) _) ?_
  refine W.g (.loadB (v := .int .i64 (d)) na3 rfl f3 rfl) ?_
  refine W.efg rfl rfl rfl (rfl) rfl rfl ?_
  refine Ef.call go90 rfl rfl (r19in_ok r d 1125899906842624 w1_2) ?_
  rintro _ w1_8 ⟨rfl, h1_8⟩
  refine ⟨_, rfl, ?_⟩
  have L4 := L2.trans h1_8
  refine W.run 1 rfl ?_
  by_cases q1_10 : (inB r d 1125899906842624) = true
  ·refine W.a (.dec (.move rfl) (q1_10)) ?_
   refine W.g (Any.rd (.field0 fa40_2 rfl) _) ?_
   have f5 := (f3.le h1_8)
   refine W.g (.loadB (v := .int .i64 (de)) na3 rfl f5 rfl) ?_
   refine W.efg rfl rfl rfl (rfl) rfl rfl ?_
   refine Ef.call go90 rfl rfl (r19in_ok de 1 4096 w1_8) ?_
   rintro _ w1_13 ⟨rfl, h1_13⟩
   refine ⟨_, rfl, ?_⟩
   have L6 := L4.trans h1_13
   refine W.run 2 rfl (W.nx (WC.sr (W.run 1 rfl ?_)))
   by_cases q2_1 : (inB de 1 4096) = true
   ·refine W.a (.dec (.move rfl) (q2_1)) ?_
    refine W.g (Any.rd (.field0 fa40_3 rfl) _) ?_
    have f7 := (f5.le h1_13)
    refine W.g (.loadB (v := .int .i64 (co)) na3 rfl f7 rfl) ?_
    refine W.efg rfl rfl rfl (rfl) rfl rfl ?_
    refine Ef.call go90 rfl rfl (r19in_ok co 0 16 w1_13) ?_
    rintro _ w2_4 ⟨rfl, h2_4⟩
    refine ⟨_, rfl, ?_⟩
    have L8 := L6.trans h2_4
    refine W.run 1 rfl ?_
    by_cases q2_6 : (inB co 0 16) = true
    ·refine W.a (.dec (.move rfl) (q2_6)) ?_
     refine W.g (Any.rd (.field0 fa40_4 rfl) _) ?_
     have f9 := (f7.le h2_4)
     refine W.g (.loadB (v := .int .i64 (le)) na3 rfl f9 rfl) ?_
     refine W.efg rfl rfl rfl (rfl) rfl rfl ?_
     refine Ef.call go90 rfl rfl (r19in_ok le 1 1125899906842624 w2_4) ?_
     rintro _ w2_9 ⟨rfl, h2_9⟩
     refine ⟨_, rfl, ?_⟩
     have L10 := L8.trans h2_9
     refine W.run 1 rfl ?_
     by_cases q2_11 : (inB le 1 1125899906842624) = true
     ·refine W.a (.dec (.move rfl) (q2_11)) ?_
      refine W.g (Any.rd (.field0 fa40_5 rfl) _) ?_
      have f11 := (f9.le h2_9)
      refine W.g (.loadB (v := .int .i64 (mo)) na3 rfl f11 rfl) ?_
      refine W.efg rfl rfl rfl (rfl) rfl rfl ?_
      refine Ef.call go90 rfl rfl (r19in_ok mo 0 1125899906842624 w2_9) ?_
      rintro _ w2_14 ⟨rfl, h2_14⟩
      refine ⟨_, rfl, ?_⟩
      have L12 := L10.trans h2_14
      refine W.run 2 rfl (W.nx (WC.ret ?_))
      refine E.retG1 rfl rfl ?_
      exact ⟨rB (by simp [inB]; omega), L12⟩
     refine W.a (.dec (.move rfl) ((Bool.eq_false_iff.2 q2_11))) ?_
     refine W.run 5 rfl (W.nx (WC.ret ?_))
     refine E.retG1 rfl rfl ?_
     exfalso; simp only [inB, decide_eq_true_eq] at *; omega
    refine W.a (.dec (.move rfl) ((Bool.eq_false_iff.2 q2_6))) ?_
    refine W.run 10 rfl (W.nx (WC.ret ?_))
    refine E.retG1 rfl rfl ?_
    exfalso; simp only [inB, decide_eq_true_eq] at *; omega
   refine W.a (.dec (.move rfl) ((Bool.eq_false_iff.2 q2_1))) ?_
   refine W.run 15 rfl (W.nx (WC.ret ?_))
   refine E.retG1 rfl rfl ?_
   exfalso; simp only [inB, decide_eq_true_eq] at *; omega
  refine W.a (.dec (.move rfl) ((Bool.eq_false_iff.2 q1_10))) ?_
  refine W.run 5 rfl (W.nx (WC.sr (W.run 17 rfl (W.nx (WC.ret ?_)))))
  refine E.retG1 rfl rfl ?_
  exfalso; simp only [inB, decide_eq_true_eq] at *; omega
 refine W.a (.dec (.move rfl) ((Bool.eq_false_iff.2 q1_3))) ?_
 refine W.run 12 rfl (W.nx (WC.sr (W.run 17 rfl (W.nx (WC.ret ?_)))))
 refine E.retG1 rfl rfl ?_
 exfalso; simp only [inB, decide_eq_true_eq] at *; omega

theorem r19own_ok (p : Nat) (hp : PtOk p) (w : World) : Calls prog 92 #[.int .u64 (((p : Nat) : Int))] w fun r w' => r = .returned (.bool true) /\ Le w w' := by
 have hp1 := hp.1; have hp2 := hp.2.1; have hp3 := hp.2.2
 refine enter func92 rfl rfl ?_
 have L0 := Le.refl w
 refine WC.sr (W.run 1 rfl (W.nx (WC.sr (W.run 1 rfl ?_))))
 refine W.cl go93 rfl rfl (rpright_ok p (by first | assumption | omega) w) ?_
 rintro _ w1_1 ⟨rfl, h1_1⟩
 have L1 := L0.trans h1_1
 by_cases q1_2 : (right p) = true
 ·refine W.a (.dec (.move rfl) (q1_2)) ?_
  refine W.run 4 rfl (W.nx (WC.ret ?_))
  refine E.retG1 rfl rfl ?_
  exact ⟨rB (by simp [hp1]; omega), L1⟩
 refine W.a (.dec (.move rfl) ((Bool.eq_false_iff.2 q1_2))) ?_
 refine W.run 4 rfl (W.nx (WC.ret ?_))
 refine E.retG1 rfl rfl ?_
 exfalso; first | omega | simp_all

theorem r19weight_ok (k : Nat) (hk : k <= 16) (w : World) : Calls prog 110 #[.int .i64 (((k : Nat) : Int))] w fun r w' => r = .returned (.int .i64 (68 + 8 * ((k : Nat) : Int))) /\ Le w w' := by
 refine enter func110 rfl rfl ?_
 have L0 := Le.refl w
 refine WC.sr (W.run 1 rfl (W.nx (WC.seq (WC.sr (W.run 1 rfl ?_)))))
 refine W.cl go90 rfl rfl (r19in_ok ((k : Nat) : Int) 0 16 w) ?_
 rintro _ w1_1 ⟨rfl, h1_1⟩
 have L1 := L0.trans h1_1
 refine W.run 1 rfl (W.nx ?_)
 by_cases c0 : (inB ((k : Nat) : Int) 0 16) = true
 ·refine WC.condN rfl (congrArg not (c0)) ?_
  refine WC.sn (WC.sr (W.run 1 rfl ?_))
  refine W.a (.add rfl rfl (by omega)) ?_
  refine W.a (.mul rfl rfl (by omega)) ?_
  refine W.a (.add rfl rfl (by omega)) ?_
  refine W.run 1 rfl (W.nx (WC.ret ?_))
  refine E.retG1 rfl rfl ?_
  exact ⟨congrArg (fun i => Ending.returned (Value.int .i64 i)) (by omega), L1⟩
 refine WC.condY rfl (congrArg not ((Bool.eq_false_iff.2 c0))) ?_
 refine WC.sr (W.run 1 rfl (W.nx (WC.ret (E.thenR ?_))))
 refine E.retG1 rfl rfl ?_
 exfalso; simp only [inB, decide_eq_true_eq] at *; omega

theorem r19fee_ok (rt : Int) (k : Nat) (hr : 0 <= rt /\ rt <= 1000) (hk : k <= 16) (w : World) : Calls prog 94 #[.int .i64 (rt), .int .i64 (((k : Nat) : Int))] w fun r w' => r = .returned (.int .i64 (rt * (68 + 8 * ((k : Nat) : Int)))) /\ Le w w' := by
 have hmul := mul_b hr hk
 refine enter func94 rfl rfl ?_
 have L0 := Le.refl w
 refine WC.sr (W.run 1 rfl (W.nx (WC.seq (WC.sr (W.run 1 rfl ?_)))))
 refine W.cl go90 rfl rfl (r19in_ok rt 0 1000 w) ?_
 rintro _ w1_1 ⟨rfl, h1_1⟩
 have L1 := L0.trans h1_1
 refine W.run 1 rfl (W.nx ?_)
 by_cases c0 : (inB rt 0 1000) = true
 ·refine WC.condN rfl (congrArg not (c0)) ?_
  refine WC.sn (WC.sr (W.run 2 rfl ?_))
  refine W.cl go110 rfl rfl (r19weight_ok k (by omega) w1_1) ?_
  rintro _ w3_2 ⟨rfl, h3_2⟩
  have L2 := L1.trans h3_2
  refine W.a (.mul rfl rfl (by omega)) ?_
  refine W.run 1 rfl (W.nx (WC.ret ?_))
  refine E.retG1 rfl rfl ?_
  exact ⟨rfl, L2⟩
 refine WC.condY rfl (congrArg not ((Bool.eq_false_iff.2 c0))) ?_
 refine WC.sr (W.run 1 rfl (W.nx (WC.ret (E.thenR ?_))))
 refine E.retG1 rfl rfl ?_
 exfalso; simp only [inB, decide_eq_true_eq] at *; omega

theorem r19fit_ok (ch : Chn) (hch : ChnOk ch) (w : World) : Calls prog 59 #[.agg (chnV ch).toArray] w fun r w' => r = .returned (.int .i64 0) /\ Le w w' := by
 have ham := hch.am; have hop := hch.op
 obtain ⟨k0, k1, k2, k3, k4, k5, k6, k7, k8, k9⟩ := hch.pts
 refine enter func59 rfl rfl ?_
 have L0 := Le.refl w
 refine WC.sr (W.ef rfl rfl rfl ?_)
 refine Ef.boxA rfl ?_
 intro g0_0 w0_0 hg0_0 b0_0 h0_0
 have L1 := L0.trans h0_0
 have b0_0 : Blk w0_0 g0_0 43 (chnV ch).toArray := b0_0
 refine W.run 1 rfl (W.nx (WC.seq (WC.sr ?_)))
 refine W.a (.field0 fa43_1 rfl) ?_
 refine W.r (.loadB (v := .int .i64 (ch.am)) na3 rfl b0_0 rfl) ?_
 refine W.cl go90 rfl rfl (r19in_ok ch.am 1 1125899906842624 w0_0) ?_
 rintro _ w1_2 ⟨rfl, h1_2⟩
 have L2 := L1.trans h1_2
 refine W.run 1 rfl ?_
 by_cases q1_4 : (inB ch.am 1 1125899906842624) = true
 ·refine W.a (.dec (.move rfl) (congrArg not (q1_4))) ?_
  refine W.g (Any.rd (.field0 fa43_0 rfl) _) ?_
  refine W.g (Any.rd (.field0 fa33_1 rfl) _) ?_
  have f3 := (b0_0.le h1_2)
  refine W.g (.loadB (v := .int .i64 (0)) na3 rfl f3 rfl) ?_
  refine W.efg rfl rfl rfl (rfl) rfl rfl ?_
  refine Ef.call go90 rfl rfl (r19in_ok 0 0 63 w1_2) ?_
  rintro _ w1_8 ⟨rfl, h1_8⟩
  refine ⟨_, rfl, ?_⟩
  have L4 := L2.trans h1_8
  refine W.run 2 rfl ?_
  by_cases q1_11 : (inB 0 0 63) = true
  ·refine W.a (.dec (.move rfl) (congrArg not (q1_11))) ?_
   refine W.g (Any.rd (.field0 fa43_4 rfl) _) ?_
   have f5 := (f3.le h1_8)
   refine W.g (.loadB (v := .int .i64 (ch.op)) na3 rfl f5 rfl) ?_
   refine W.efg rfl rfl rfl (rfl) rfl rfl ?_
   refine Ef.call go90 rfl rfl (r19in_ok ch.op 0 1 w1_8) ?_
   rintro _ w1_14 ⟨rfl, h1_14⟩
   refine ⟨_, rfl, ?_⟩
   have L6 := L4.trans h1_14
   refine W.run 2 rfl (W.nx ?_)
   by_cases c0 : (inB ch.op 0 1) = true
   ·refine WC.condN rfl (congrArg not (c0)) ?_
    refine WC.sn (WC.seq (WC.sr (W.run 1 rfl (W.nx (WC.block ?_)))))
    refine WC.rounds 3 ?_
    refine RCn.step ?_
    refine WC.seq (WC.sr (W.run 1 rfl ?_))
    refine W.a (.dec (.lss rfl rfl) (show _ = true from by first | decide | rfl)) ?_
    refine W.nx (WC.condT rfl (WC.sn (WC.seq (WC.block (WC.sr (W.run 1 rfl ?_))))))
    refine W.a (.field0 fa43_2 rfl) ?_
    refine W.a (.idxA (0) underlying38 sz37 rfl rfl (rfl) (by omega)) ?_
    have f7 := (f5.le h1_14)
    refine W.r (.bpart [.int .u64 (((ch.p0 : Nat) : Int)), .int .u64 (((ch.p1 : Nat) : Int)), .int .u64 (((ch.p2 : Nat) : Int)), .int .u64 (((ch.p3 : Nat) : Int)), .int .u64 (((ch.p4 : Nat) : Int))] ag37 rfl (by decide) rfl f7 rfl) ?_
    refine W.ef rfl rfl rfl ?_
    refine Ef.allocA z37 ?_
    intro g6_4 w6_4 hg6_4 b6_4 h6_4
    have L8 := L6.trans h6_4
    have b6_4 : Blk w6_4 g6_4 37 (basV noBas).toArray := b6_4
    refine W.sA sz37 rfl rfl b6_4 ?_
    intro w6_5 b6_5 h6_5
    have b6_5 : Blk w6_5 g6_4 37 #[.int .u64 (((ch.p0 : Nat) : Int)), .int .u64 (((ch.p1 : Nat) : Int)), .int .u64 (((ch.p2 : Nat) : Int)), .int .u64 (((ch.p3 : Nat) : Int)), .int .u64 (((ch.p4 : Nat) : Int))] := b6_5
    have L9 := L8.tb h6_5 L6 hg6_4
    refine W.nx (WC.sr ?_)
    refine W.a (.field0 fa37_0 rfl) ?_
    refine W.r (.loadB (v := .int .u64 (((ch.p0 : Nat) : Int))) na35 rfl b6_5 rfl) ?_
    refine W.a (.field0 fa37_1 rfl) ?_
    refine W.r (.loadB (v := .int .u64 (((ch.p1 : Nat) : Int))) na35 rfl b6_5 rfl) ?_
    refine W.a (.field0 fa37_2 rfl) ?_
    refine W.r (.loadB (v := .int .u64 (((ch.p2 : Nat) : Int))) na35 rfl b6_5 rfl) ?_
    refine W.a (.field0 fa37_3 rfl) ?_
    refine W.r (.loadB (v := .int .u64 (((ch.p3 : Nat) : Int))) na35 rfl b6_5 rfl) ?_
    refine W.a (.field0 fa37_4 rfl) ?_
    refine W.r (.loadB (v := .int .u64 (((ch.p4 : Nat) : Int))) na35 rfl b6_5 rfl) ?_
    refine W.ef rfl rfl rfl ?_
    refine Ef.buildSliceV (len := 5) [_, _, _, _, _] underlying150 el35 rfl (by simp [Value.cells]) rfl (by decide) (by decide) ?_
    intro g7_10 w7_10 hg7_10 b7_10 h7_10
    have L10 := L9.trans h7_10
    have b7_10 : Blk w7_10 g7_10 35 (([ch.p0, ch.p1, ch.p2, ch.p3, ch.p4]).map pv1).flatten.toArray := b7_10
    have o7_10 : OVec w7_10 w6_5.heap.size 35 pv1 1 (some ⟨g7_10, 0, none⟩) 5 5 ([ch.p0, ch.p1, ch.p2, ch.p3, ch.p4]) := b7_10.ovec hg7_10 pv1_row rfl rfl (by decide)
    refine W.run 1 rfl (W.nx (WC.seq (WC.sr (W.run 1 rfl ?_))))
    refine W.a (.field0 fa43_3 rfl) ?_
    refine W.a (.idxA (0) underlying41 sz40 rfl rfl (rfl) (by omega)) ?_
    have f11 := (((f7.le h6_4).ch h6_5 (fun h => (show g6_4 ≠ g0_0 from by have := f7.lt; omega) (oI h))).le h7_10)
    refine W.r (.bpart [.int .i64 (100), .int .i64 (200), .int .i64 (5), .int .i64 (16), .int .i64 (1), .int .i64 (1125899906842624)] ag40 rfl (by decide) rfl f11 rfl) ?_
    refine W.cl go91 rfl rfl (r19right_ok 100 200 5 16 1 1125899906842624 (by decide) w7_10) ?_
    rintro _ w8_4 ⟨rfl, h8_4⟩
    have L12 := L10.trans h8_4
    refine W.run 1 rfl (W.nx (WC.condF rfl (WC.sn (WC.sr (W.run 1 rfl (W.nx (WC.block ?_)))))))
    refine WC.rounds 6 ?_
    refine RCn.step ?_
    refine WC.seq (WC.sr (W.run 1 rfl ?_))
    refine W.a (.dec (.lss rfl rfl) (show _ = true from by first | decide | rfl)) ?_
    refine W.nx (WC.condT rfl (WC.sn (WC.seq (WC.block (WC.sr (W.run 2 rfl ?_))))))
    refine W.a (.idxS (0) underlying150 sz35 rfl rfl (o7_10.vec.isSome pv1_row (by omega)) (rfl) (by omega)) ?_
    have f13 := (o7_10.le h8_4)
    refine W.r (.vone (v := .int .u64 ((((([ch.p0, ch.p1, ch.p2, ch.p3, ch.p4]).getD 0 0) : Nat) : Int))) na35 rfl f13.vec pv1_row (getS ([ch.p0, ch.p1, ch.p2, ch.p3, ch.p4]) 0 (by first | omega | (simp only [List.length_cons, List.length_nil]; omega))) rfl) ?_
    refine W.cl go92 rfl rfl (r19own_ok (([ch.p0, ch.p1, ch.p2, ch.p3, ch.p4]).getD 0 0) (by assumption) w8_4) ?_
    rintro _ w13_4 ⟨rfl, h13_4⟩
    have L14 := L12.trans h13_4
    refine W.run 1 rfl (W.nx (WC.condF rfl (WC.skip (E.blkN (E.thenN (WC.region (W.run 1 rfl ?_)))))))
    refine W.a (.as (.add rfl rfl (by decide)) rfl) ?_
    refine W.run 1 rfl (W.nil ?_)
    refine E.round ?_
    refine RCn.step ?_
    refine WC.seq (WC.sr (W.run 1 rfl ?_))
    refine W.a (.dec (.lss rfl rfl) (show _ = true from by first | decide | rfl)) ?_
    refine W.nx (WC.condT rfl (WC.sn (WC.seq (WC.block (WC.sr (W.run 2 rfl ?_))))))
    refine W.a (.idxS (1) underlying150 sz35 rfl rfl (o7_10.vec.isSome pv1_row (by omega)) (rfl) (by omega)) ?_
    have f15 := (f13.le h13_4)
    refine W.r (.vone (v := .int .u64 ((((([ch.p0, ch.p1, ch.p2, ch.p3, ch.p4]).getD 1 0) : Nat) : Int))) na35 rfl f15.vec pv1_row (getS ([ch.p0, ch.p1, ch.p2, ch.p3, ch.p4]) 0 (by first | omega | (simp only [List.length_cons, List.length_nil]; omega))) rfl) ?_
    refine W.cl go92 rfl rfl (r19own_ok (([ch.p0, ch.p1, ch.p2, ch.p3, ch.p4]).getD 1 0) (by assumption) w13_4) ?_
    rintro _ w13_4_1 ⟨rfl, h13_4_1⟩
    have L16 := L14.trans h13_4_1
    refine W.run 1 rfl (W.nx (WC.condF rfl (WC.skip (E.blkN (E.thenN (WC.region (W.run 1 rfl ?_)))))))
    refine W.a (.as (.add rfl rfl (by decide)) rfl) ?_
    refine W.run 1 rfl (W.nil ?_)
    refine E.round ?_
    refine RCn.step ?_
    refine WC.seq (WC.sr (W.run 1 rfl ?_))
    refine W.a (.dec (.lss rfl rfl) (show _ = true from by first | decide | rfl)) ?_
    refine W.nx (WC.condT rfl (WC.sn (WC.seq (WC.block (WC.sr (W.run 2 rfl ?_))))))
    refine W.a (.idxS (2) underlying150 sz35 rfl rfl (o7_10.vec.isSome pv1_row (by omega)) (rfl) (by omega)) ?_
    have f17 := (f15.le h13_4_1)
    refine W.r (.vone (v := .int .u64 ((((([ch.p0, ch.p1, ch.p2, ch.p3, ch.p4]).getD 2 0) : Nat) : Int))) na35 rfl f17.vec pv1_row (getS ([ch.p0, ch.p1, ch.p2, ch.p3, ch.p4]) 0 (by first | omega | (simp only [List.length_cons, List.length_nil]; omega))) rfl) ?_
    refine W.cl go92 rfl rfl (r19own_ok (([ch.p0, ch.p1, ch.p2, ch.p3, ch.p4]).getD 2 0) (by assumption) w13_4_1) ?_
    rintro _ w13_4_2 ⟨rfl, h13_4_2⟩
    have L18 := L16.trans h13_4_2
    refine W.run 1 rfl (W.nx (WC.condF rfl (WC.skip (E.blkN (E.thenN (WC.region (W.run 1 rfl ?_)))))))
    refine W.a (.as (.add rfl rfl (by decide)) rfl) ?_
    refine W.run 1 rfl (W.nil ?_)
    refine E.round ?_
    refine RCn.step ?_
    refine WC.seq (WC.sr (W.run 1 rfl ?_))
    refine W.a (.dec (.lss rfl rfl) (show _ = true from by first | decide | rfl)) ?_
    refine W.nx (WC.condT rfl (WC.sn (WC.seq (WC.block (WC.sr (W.run 2 rfl ?_))))))
    refine W.a (.idxS (3) underlying150 sz35 rfl rfl (o7_10.vec.isSome pv1_row (by omega)) (rfl) (by omega)) ?_
    have f19 := (f17.le h13_4_2)
    refine W.r (.vone (v := .int .u64 ((((([ch.p0, ch.p1, ch.p2, ch.p3, ch.p4]).getD 3 0) : Nat) : Int))) na35 rfl f19.vec pv1_row (getS ([ch.p0, ch.p1, ch.p2, ch.p3, ch.p4]) 0 (by first | omega | (simp only [List.length_cons, List.length_nil]; omega))) rfl) ?_
    refine W.cl go92 rfl rfl (r19own_ok (([ch.p0, ch.p1, ch.p2, ch.p3, ch.p4]).getD 3 0) (by assumption) w13_4_2) ?_
    rintro _ w13_4_3 ⟨rfl, h13_4_3⟩
    have L20 := L18.trans h13_4_3
    refine W.run 1 rfl (W.nx (WC.condF rfl (WC.skip (E.blkN (E.thenN (WC.region (W.run 1 rfl ?_)))))))
    refine W.a (.as (.add rfl rfl (by decide)) rfl) ?_
    refine W.run 1 rfl (W.nil ?_)
    refine E.round ?_
    refine RCn.step ?_
    refine WC.seq (WC.sr (W.run 1 rfl ?_))
    refine W.a (.dec (.lss rfl rfl) (show _ = true from by first | decide | rfl)) ?_
    refine W.nx (WC.condT rfl (WC.sn (WC.seq (WC.block (WC.sr (W.run 2 rfl ?_))))))
    refine W.a (.idxS (4) underlying150 sz35 rfl rfl (o7_10.vec.isSome pv1_row (by omega)) (rfl) (by omega)) ?_
    have f21 := (f19.le h13_4_3)
    refine W.r (.vone (v := .int .u64 ((((([ch.p0, ch.p1, ch.p2, ch.p3, ch.p4]).getD 4 0) : Nat) : Int))) na35 rfl f21.vec pv1_row (getS ([ch.p0, ch.p1, ch.p2, ch.p3, ch.p4]) 0 (by first | omega | (simp only [List.length_cons, List.length_nil]; omega))) rfl) ?_
    refine W.cl go92 rfl rfl (r19own_ok (([ch.p0, ch.p1, ch.p2, ch.p3, ch.p4]).getD 4 0) (by assumption) w13_4_3) ?_
    rintro _ w13_4_4 ⟨rfl, h13_4_4⟩
    have L22 := L20.trans h13_4_4
    refine W.run 1 rfl (W.nx (WC.condF rfl (WC.skip (E.blkN (E.thenN (WC.region (W.run 1 rfl ?_)))))))
    refine W.a (.as (.add rfl rfl (by decide)) rfl) ?_
    refine W.run 1 rfl (W.nil ?_)
    refine E.round ?_
    refine RCn.step ?_
    refine WC.seq (WC.sr (W.run 1 rfl ?_))
    refine W.a (.dec (.lss rfl rfl) (show _ = false from by first | decide | rfl)) ?_
    refine W.nx (WC.condF rfl (WC.exit (E.thenX (E.thenX (E.blkH (E.blkN (E.thenN (WC.region (W.run 1 rfl ?_)))))))))
    refine W.a (.as (.add rfl rfl (by decide)) rfl) ?_
    refine W.run 1 rfl (W.nil ?_)
    refine E.round ?_
    refine RCn.step ?_
    refine WC.seq (WC.sr (W.run 1 rfl ?_))
    refine W.a (.dec (.lss rfl rfl) (show _ = true from by first | decide | rfl)) ?_
    refine W.nx (WC.condT rfl (WC.sn (WC.seq (WC.block (WC.sr (W.run 1 rfl ?_))))))
    refine W.a (.field0 fa43_2 rfl) ?_
    refine W.a (.idxA (1) underlying38 sz37 rfl rfl (rfl) (by omega)) ?_
    have f23 := (f11.le (h8_4.trans (h13_4.trans (h13_4_1.trans (h13_4_2.trans (h13_4_3.trans h13_4_4))))))
    refine W.r (.bpart [.int .u64 (((ch.p5 : Nat) : Int)), .int .u64 (((ch.p6 : Nat) : Int)), .int .u64 (((ch.p7 : Nat) : Int)), .int .u64 (((ch.p8 : Nat) : Int)), .int .u64 (((ch.p9 : Nat) : Int))] ag37 rfl (by decide) rfl f23 rfl) ?_
    refine W.ef rfl rfl rfl ?_
    refine Ef.allocA z37 ?_
    intro g6_4_1 w6_4_1 hg6_4_1 b6_4_1 h6_4_1
    have L24 := L22.trans h6_4_1
    have b6_4_1 : Blk w6_4_1 g6_4_1 37 (basV noBas).toArray := b6_4_1
    refine W.sA sz37 rfl rfl b6_4_1 ?_
    intro w6_5_1 b6_5_1 h6_5_1
    have b6_5_1 : Blk w6_5_1 g6_4_1 37 #[.int .u64 (((ch.p5 : Nat) : Int)), .int .u64 (((ch.p6 : Nat) : Int)), .int .u64 (((ch.p7 : Nat) : Int)), .int .u64 (((ch.p8 : Nat) : Int)), .int .u64 (((ch.p9 : Nat) : Int))] := b6_5_1
    have L25 := L24.tb h6_5_1 L22 hg6_4_1
    refine W.nx (WC.sr ?_)
    refine W.a (.field0 fa37_0 rfl) ?_
    refine W.r (.loadB (v := .int .u64 (((ch.p5 : Nat) : Int))) na35 rfl b6_5_1 rfl) ?_
    refine W.a (.field0 fa37_1 rfl) ?_
    refine W.r (.loadB (v := .int .u64 (((ch.p6 : Nat) : Int))) na35 rfl b6_5_1 rfl) ?_
    refine W.a (.field0 fa37_2 rfl) ?_
    refine W.r (.loadB (v := .int .u64 (((ch.p7 : Nat) : Int))) na35 rfl b6_5_1 rfl) ?_
    refine W.a (.field0 fa37_3 rfl) ?_
    refine W.r (.loadB (v := .int .u64 (((ch.p8 : Nat) : Int))) na35 rfl b6_5_1 rfl) ?_
    refine W.a (.field0 fa37_4 rfl) ?_
    refine W.r (.loadB (v := .int .u64 (((ch.p9 : Nat) : Int))) na35 rfl b6_5_1 rfl) ?_
    refine W.ef rfl rfl rfl ?_
    refine Ef.buildSliceV (len := 5) [_, _, _, _, _] underlying150 el35 rfl (by simp [Value.cells]) rfl (by decide) (by decide) ?_
    intro g7_10_1 w7_10_1 hg7_10_1 b7_10_1 h7_10_1
    have L26 := L25.trans h7_10_1
    have b7_10_1 : Blk w7_10_1 g7_10_1 35 (([ch.p5, ch.p6, ch.p7, ch.p8, ch.p9]).map pv1).flatten.toArray := b7_10_1
    have o7_10_1 : OVec w7_10_1 w6_5_1.heap.size 35 pv1 1 (some ⟨g7_10_1, 0, none⟩) 5 5 ([ch.p5, ch.p6, ch.p7, ch.p8, ch.p9]) := b7_10_1.ovec hg7_10_1 pv1_row rfl rfl (by decide)
    refine W.run 1 rfl (W.nx (WC.seq (WC.sr (W.run 1 rfl ?_))))
    refine W.a (.field0 fa43_3 rfl) ?_
    refine W.a (.idxA (1) underlying41 sz40 rfl rfl (rfl) (by omega)) ?_
    have f27 := (((f23.le h6_4_1).ch h6_5_1 (fun h => (show g6_4_1 ≠ g0_0 from by have := f23.lt; omega) (oI h))).le h7_10_1)
    refine W.r (.bpart [.int .i64 (100), .int .i64 (200), .int .i64 (6), .int .i64 (16), .int .i64 (1), .int .i64 (1125899906842624)] ag40 rfl (by decide) rfl f27 rfl) ?_
    refine W.cl go91 rfl rfl (r19right_ok 100 200 6 16 1 1125899906842624 (by decide) w7_10_1) ?_
    rintro _ w8_4_1 ⟨rfl, h8_4_1⟩
    have L28 := L26.trans h8_4_1
    refine W.run 1 rfl (W.nx (WC.condF rfl (WC.sn (WC.sr (W.run 1 rfl (W.nx (WC.block ?_)))))))
    refine WC.rounds 6 ?_
    refine RCn.step ?_
    refine WC.seq (WC.sr (W.run 1 rfl ?_))
    refine W.a (.dec (.lss rfl rfl) (show _ = true from by first | decide | rfl)) ?_
    refine W.nx (WC.condT rfl (WC.sn (WC.seq (WC.block (WC.sr (W.run 2 rfl ?_))))))
    refine W.a (.idxS (0) underlying150 sz35 rfl rfl (o7_10_1.vec.isSome pv1_row (by omega)) (rfl) (by omega)) ?_
    have f29 := (o7_10_1.le h8_4_1)
    refine W.r (.vone (v := .int .u64 ((((([ch.p5, ch.p6, ch.p7, ch.p8, ch.p9]).getD 0 0) : Nat) : Int))) na35 rfl f29.vec pv1_row (getS ([ch.p5, ch.p6, ch.p7, ch.p8, ch.p9]) 0 (by first | omega | (simp only [List.length_cons, List.length_nil]; omega))) rfl) ?_
    refine W.cl go92 rfl rfl (r19own_ok (([ch.p5, ch.p6, ch.p7, ch.p8, ch.p9]).getD 0 0) (by assumption) w8_4_1) ?_
    rintro _ w13_4_5 ⟨rfl, h13_4_5⟩
    have L30 := L28.trans h13_4_5
    refine W.run 1 rfl (W.nx (WC.condF rfl (WC.skip (E.blkN (E.thenN (WC.region (W.run 1 rfl ?_)))))))
    refine W.a (.as (.add rfl rfl (by decide)) rfl) ?_
    refine W.run 1 rfl (W.nil ?_)
    refine E.round ?_
    refine RCn.step ?_
    refine WC.seq (WC.sr (W.run 1 rfl ?_))
    refine W.a (.dec (.lss rfl rfl) (show _ = true from by first | decide | rfl)) ?_
    refine W.nx (WC.condT rfl (WC.sn (WC.seq (WC.block (WC.sr (W.run 2 rfl ?_))))))
    refine W.a (.idxS (1) underlying150 sz35 rfl rfl (o7_10_1.vec.isSome pv1_row (by omega)) (rfl) (by omega)) ?_
    have f31 := (f29.le h13_4_5)
    refine W.r (.vone (v := .int .u64 ((((([ch.p5, ch.p6, ch.p7, ch.p8, ch.p9]).getD 1 0) : Nat) : Int))) na35 rfl f31.vec pv1_row (getS ([ch.p5, ch.p6, ch.p7, ch.p8, ch.p9]) 0 (by first | omega | (simp only [List.length_cons, List.length_nil]; omega))) rfl) ?_
    refine W.cl go92 rfl rfl (r19own_ok (([ch.p5, ch.p6, ch.p7, ch.p8, ch.p9]).getD 1 0) (by assumption) w13_4_5) ?_
    rintro _ w13_4_6 ⟨rfl, h13_4_6⟩
    have L32 := L30.trans h13_4_6
    refine W.run 1 rfl (W.nx (WC.condF rfl (WC.skip (E.blkN (E.thenN (WC.region (W.run 1 rfl ?_)))))))
    refine W.a (.as (.add rfl rfl (by decide)) rfl) ?_
    refine W.run 1 rfl (W.nil ?_)
    refine E.round ?_
    refine RCn.step ?_
    refine WC.seq (WC.sr (W.run 1 rfl ?_))
    refine W.a (.dec (.lss rfl rfl) (show _ = true from by first | decide | rfl)) ?_
    refine W.nx (WC.condT rfl (WC.sn (WC.seq (WC.block (WC.sr (W.run 2 rfl ?_))))))
    refine W.a (.idxS (2) underlying150 sz35 rfl rfl (o7_10_1.vec.isSome pv1_row (by omega)) (rfl) (by omega)) ?_
    have f33 := (f31.le h13_4_6)
    refine W.r (.vone (v := .int .u64 ((((([ch.p5, ch.p6, ch.p7, ch.p8, ch.p9]).getD 2 0) : Nat) : Int))) na35 rfl f33.vec pv1_row (getS ([ch.p5, ch.p6, ch.p7, ch.p8, ch.p9]) 0 (by first | omega | (simp only [List.length_cons, List.length_nil]; omega))) rfl) ?_
    refine W.cl go92 rfl rfl (r19own_ok (([ch.p5, ch.p6, ch.p7, ch.p8, ch.p9]).getD 2 0) (by assumption) w13_4_6) ?_
    rintro _ w13_4_7 ⟨rfl, h13_4_7⟩
    have L34 := L32.trans h13_4_7
    refine W.run 1 rfl (W.nx (WC.condF rfl (WC.skip (E.blkN (E.thenN (WC.region (W.run 1 rfl ?_)))))))
    refine W.a (.as (.add rfl rfl (by decide)) rfl) ?_
    refine W.run 1 rfl (W.nil ?_)
    refine E.round ?_
    refine RCn.step ?_
    refine WC.seq (WC.sr (W.run 1 rfl ?_))
    refine W.a (.dec (.lss rfl rfl) (show _ = true from by first | decide | rfl)) ?_
    refine W.nx (WC.condT rfl (WC.sn (WC.seq (WC.block (WC.sr (W.run 2 rfl ?_))))))
    refine W.a (.idxS (3) underlying150 sz35 rfl rfl (o7_10_1.vec.isSome pv1_row (by omega)) (rfl) (by omega)) ?_
    have f35 := (f33.le h13_4_7)
    refine W.r (.vone (v := .int .u64 ((((([ch.p5, ch.p6, ch.p7, ch.p8, ch.p9]).getD 3 0) : Nat) : Int))) na35 rfl f35.vec pv1_row (getS ([ch.p5, ch.p6, ch.p7, ch.p8, ch.p9]) 0 (by first | omega | (simp only [List.length_cons, List.length_nil]; omega))) rfl) ?_
    refine W.cl go92 rfl rfl (r19own_ok (([ch.p5, ch.p6, ch.p7, ch.p8, ch.p9]).getD 3 0) (by assumption) w13_4_7) ?_
    rintro _ w13_4_8 ⟨rfl, h13_4_8⟩
    have L36 := L34.trans h13_4_8
    refine W.run 1 rfl (W.nx (WC.condF rfl (WC.skip (E.blkN (E.thenN (WC.region (W.run 1 rfl ?_)))))))
    refine W.a (.as (.add rfl rfl (by decide)) rfl) ?_
    refine W.run 1 rfl (W.nil ?_)
    refine E.round ?_
    refine RCn.step ?_
    refine WC.seq (WC.sr (W.run 1 rfl ?_))
    refine W.a (.dec (.lss rfl rfl) (show _ = true from by first | decide | rfl)) ?_
    refine W.nx (WC.condT rfl (WC.sn (WC.seq (WC.block (WC.sr (W.run 2 rfl ?_))))))
    refine W.a (.idxS (4) underlying150 sz35 rfl rfl (o7_10_1.vec.isSome pv1_row (by omega)) (rfl) (by omega)) ?_
    have f37 := (f35.le h13_4_8)
    refine W.r (.vone (v := .int .u64 ((((([ch.p5, ch.p6, ch.p7, ch.p8, ch.p9]).getD 4 0) : Nat) : Int))) na35 rfl f37.vec pv1_row (getS ([ch.p5, ch.p6, ch.p7, ch.p8, ch.p9]) 0 (by first | omega | (simp only [List.length_cons, List.length_nil]; omega))) rfl) ?_
    refine W.cl go92 rfl rfl (r19own_ok (([ch.p5, ch.p6, ch.p7, ch.p8, ch.p9]).getD 4 0) (by assumption) w13_4_8) ?_
    rintro _ w13_4_9 ⟨rfl, h13_4_9⟩
    have L38 := L36.trans h13_4_9
    refine W.run 1 rfl (W.nx (WC.condF rfl (WC.skip (E.blkN (E.thenN (WC.region (W.run 1 rfl ?_)))))))
    refine W.a (.as (.add rfl rfl (by decide)) rfl) ?_
    refine W.run 1 rfl (W.nil ?_)
    refine E.round ?_
    refine RCn.step ?_
    refine WC.seq (WC.sr (W.run 1 rfl ?_))
    refine W.a (.dec (.lss rfl rfl) (show _ = false from by first | decide | rfl)) ?_
    refine W.nx (WC.condF rfl (WC.exit (E.thenX (E.thenX (E.blkH (E.blkN (E.thenN (WC.region (W.run 1 rfl ?_)))))))))
    refine W.a (.as (.add rfl rfl (by decide)) rfl) ?_
    refine W.run 1 rfl (W.nil ?_)
    refine E.round ?_
    refine RCn.step ?_
    refine WC.seq (WC.sr (W.run 1 rfl ?_))
    refine W.a (.dec (.lss rfl rfl) (show _ = false from by first | decide | rfl)) ?_
    refine W.nx (WC.condF rfl (WC.exit (E.thenX (E.thenX (E.blkH (E.thenN (WC.seq (WC.sr ?_))))))))
    refine W.a (.field0 fa43_3 rfl) ?_
    refine W.a (.idxA (0) underlying41 sz40 rfl rfl (rfl) (by omega)) ?_
    refine W.a (.field2 fa40_1 rfl) ?_
    have f39 := (f27.le (h8_4_1.trans (h13_4_5.trans (h13_4_6.trans (h13_4_7.trans (h13_4_8.trans h13_4_9))))))
    refine W.r (.loadB (v := .int .i64 (200)) na3 rfl f39 rfl) ?_
    refine W.a (.field0 fa43_3 rfl) ?_
    refine W.a (.idxA (1) underlying41 sz40 rfl rfl (rfl) (by omega)) ?_
    refine W.a (.field2 fa40_1 rfl) ?_
    refine W.r (.loadB (v := .int .i64 (200)) na3 rfl f39 rfl) ?_
    refine W.a (.as (.add rfl rfl (by decide)) rfl) ?_
    refine W.a (.field0 fa43_1 rfl) ?_
    refine W.r (.loadB (v := .int .i64 (ch.am)) na3 rfl f39 rfl) ?_
    refine W.run 1 rfl (W.nx ?_)
    by_cases c5 : ch.am < 400
    ·refine WC.condY rfl (decide_eq_true c5) ?_
     refine WC.sr (W.run 1 rfl (W.nx (WC.ret (E.thenR ?_))))
     refine E.retG1 rfl rfl ?_
     exfalso; simp only [inB, decide_eq_true_eq] at *; omega
    refine WC.condN rfl (decide_eq_false c5) ?_
    refine WC.sn (WC.sr (W.run 1 rfl (W.nx (WC.ret ?_))))
    refine E.retG1 rfl rfl ?_
    exact ⟨rfl, L38⟩
   refine WC.condY rfl (congrArg not ((Bool.eq_false_iff.2 c0))) ?_
   refine WC.sr (W.run 1 rfl (W.nx (WC.ret (E.thenR ?_))))
   refine E.retG1 rfl rfl ?_
   exfalso; simp only [inB, decide_eq_true_eq] at *; omega
  refine W.a (.dec (.move rfl) (congrArg not ((Bool.eq_false_iff.2 q1_11)))) ?_
  refine W.run 5 rfl (W.nx (WC.condT rfl (WC.sr (W.run 1 rfl (W.nx (WC.ret (E.thenR ?_)))))))
  refine E.retG1 rfl rfl ?_
  exfalso; simp only [inB, decide_eq_true_eq] at *; omega
 refine W.a (.dec (.move rfl) (congrArg not ((Bool.eq_false_iff.2 q1_4)))) ?_
 refine W.run 12 rfl (W.nx (WC.condT rfl (WC.sr (W.run 1 rfl (W.nx (WC.ret (E.thenR ?_)))))))
 refine E.retG1 rfl rfl ?_
 exfalso; simp only [inB, decide_eq_true_eq] at *; omega

theorem puthash32_ok (h : List Byte) (hh : h.length = 32) {g : Nat} (w : World) : Calls prog 88 #[.slice (some ⟨g, 0, none⟩) 0 0, .agg (h32V h).toArray] w fun r w' => ∃ A' c', r = .returned (.slice A' 32 c') /\ OVec w' w.heap.size 5 byteV 1 A' 32 c' h /\ Le w w' := by
  rw [h32V_eq hh]
  refine (puthash_ok h hh w (byte_sb (OVec.nil w 0 0 byteV 1 (some ⟨g, 0, none⟩)).vec) (by decide) (c := 0)).mono fun r w' hx => ?_
  obtain ⟨A', c', rfl, hO, hl⟩ := hx
  exact ⟨A', c', by rw [Nat.zero_add], by rw [Nat.zero_add, List.nil_append] at hO; exact byte_ovec hO, hl⟩
theorem rtag32_ok {A : Option Addr} {n c : Nat} {vs : List Value} {ps : List (List Byte)} {name : ByteArray} (nm : List Byte) (w : World) (hnm : byteCells name = nm.map u8v) (hV : Sl w 1 A n vs) (hP : Parts w vs ps) (hT : (tagBytes nm ps).length <= 1099511627776) : Calls prog 87 #[.string name, .slice A n c] w fun e w' => e = .returned (.agg (h32V (tag nm ps)).toArray) /\ Le w w' := by
  rw [h32V_eq (tag_length _ _)]
  exact rtag_ok name nm w hnm hV hP hT

theorem rpart_ok (seed : List Byte) (hse : seed.length = 32) (j : Nat) (w : World) : Calls prog 57 #[.agg (h32V seed).toArray, u8v ((BitVec.ofNat 8 j))] w fun r w' => r = .returned (.agg (h32V (partB seed j)).toArray) /\ Le w w' := by
 refine enter func57 rfl rfl ?_
 have L0 := Le.refl w
 refine WC.sr (W.ef rfl rfl rfl ?_)
 refine Ef.boxA rfl ?_
 intro g0_0 w0_0 hg0_0 b0_0 h0_0
 have L1 := L0.trans h0_0
 have b0_0 : Blk w0_0 g0_0 23 (h32V seed).toArray := b0_0
 refine W.ef rfl rfl rfl ?_
 refine Ef.allocA z23 ?_
 intro g0_1 w0_1 hg0_1 b0_1 h0_1
 have L2 := L1.trans h0_1
 have b0_1 : Blk w0_1 g0_1 23 (h32V noH).toArray := b0_1
 refine W.nx (WC.sr (W.ef rfl rfl rfl ?_))
 refine Ef.buildSlice0 underlying30 el5 ?_
 intro g1_0 w1_0 hg1_0 b1_0 h1_0
 have L3 := L2.trans h1_0
 have o1_0 : OVec w1_0 w0_1.heap.size 5 byteV 1 (some ⟨g1_0, 0, none⟩) 0 0 [] := OVec.nil _ _ _ _ _ _
 have f4 := (b0_0.le (h0_1.trans h1_0))
 refine W.r (.loadAll ag23 (by rfl) rfl f4) ?_
 refine W.cl go88 rfl rfl (puthash32_ok seed hse w1_0) ?_
 rintro _ w1_2 ⟨Ap1_2, cp1_2, rfl, op1_2, h1_2⟩
 have L5 := L3.trans h1_2
 refine W.run 1 rfl (W.ef rfl rfl rfl ?_)
 refine Ef.buildSliceV (len := 1) [_] underlying30 el5 rfl (by simp [Value.cells, u8v]) rfl (by decide) (by decide) ?_
 intro g1_4 w1_4 hg1_4 b1_4 h1_4
 have L6 := L5.trans h1_4
 have b1_4 : Blk w1_4 g1_4 5 (([(BitVec.ofNat 8 j)]).map byteV).flatten.toArray := b1_4
 have o1_4 : OVec w1_4 w1_2.heap.size 5 byteV 1 (some ⟨g1_4, 0, none⟩) 1 1 ([(BitVec.ofNat 8 j)]) := b1_4.ovec hg1_4 byteV_row rfl rfl (by decide)
 refine W.ef rfl rfl rfl ?_
 refine Ef.buildSliceN [_, _] underlying159 el30 rfl (by intro v hv; simp at hv; rcases hv with rfl | rfl <;> rfl) rfl (by decide) (by decide) ?_
 intro g1_5 w1_5 hg1_5 b1_5 h1_5
 have L7 := L6.trans h1_5
 have b1_5 : Blk w1_5 g1_5 30 #[.slice Ap1_2 32 cp1_2, .slice (some ⟨g1_4, 0, none⟩) 1 1] := b1_5
 have f8 := (op1_2.le (h1_4.trans h1_5))
 have f9 := (o1_4.le h1_5)
 refine W.cl go87 rfl rfl (rtag32_ok nKit (ps := [seed, [(BitVec.ofNat 8 j)]]) w1_5 rfl (b1_5.sl (s := 1) (n := 2) rfl) (.cons (byte_sb f8.vec) (.cons (byte_sb f9.vec) (.nil _))) (by simp [tagBytes, hse, nKit]; decide)) ?_
 rintro _ w1_6 ⟨rfl, h1_6⟩
 have L10 := L7.trans h1_6
 have f11 := (b0_1.le (h1_0.trans (h1_2.trans (h1_4.trans (h1_5.trans h1_6)))))
 refine W.ef0 rfl rfl ?_
 refine Ef.storeAll sz23 (by rfl) rfl rfl f11 (by simp only [List.size_toArray, h32V_row.len]) (h32V_row.one (tag nKit [seed, [(BitVec.ofNat 8 j)]])) ?_
 intro w1_7 b1_7 h1_7
 have b1_7 : Blk w1_7 g0_1 23 (h32V (tag nKit [seed, [(BitVec.ofNat 8 j)]])).toArray := b1_7
 have L12 := L10.tb h1_7 L1 hg0_1
 refine W.nx (WC.ret ?_)
 refine E.retG1 rfl (resA rfl b1_7 ag23 (by rfl)) ?_
 exact ⟨rfl, L12⟩

theorem rkit_ok (seed : List Byte) (hse : seed.length = 32) (w : World) : Calls prog 29 #[.agg (h32V seed).toArray] w fun r w' => r = .returned (.agg (kitV (kitB seed)).toArray) /\ Le w w' := by
 refine enter func29 rfl rfl ?_
 have L0 := Le.refl w
 refine WC.sr (W.ef rfl rfl rfl ?_)
 refine Ef.boxA rfl ?_
 intro g0_0 w0_0 hg0_0 b0_0 h0_0
 have L1 := L0.trans h0_0
 have b0_0 : Blk w0_0 g0_0 23 (h32V seed).toArray := b0_0
 refine W.ef rfl rfl rfl ?_
 refine Ef.allocA z46 ?_
 intro g0_1 w0_1 hg0_1 b0_1 h0_1
 have L2 := L1.trans h0_1
 have b0_1 : Blk w0_1 g0_1 46 (kitV noKit).toArray := b0_1
 refine W.nx (WC.seq ?_)
 refine WC.draw [0, 3, 6, 9, 12, 15, 1, 2, 4, 5, 7, 8, 10, 11, 13, 14, 16, 17, 18] mixed (by kernel_rfl) ?_
 intro w1 d1
 have L3 := L2.trans d1
 have f4 := (b0_0.le (h0_1.trans d1))
 refine G.r rfl (.loadAll ag23 (by rfl) rfl f4) ?_
 refine G.r rfl (.loadAll ag23 (by rfl) rfl f4) ?_
 refine G.r rfl (.loadAll ag23 (by rfl) rfl f4) ?_
 refine G.r rfl (.loadAll ag23 (by rfl) rfl f4) ?_
 refine G.r rfl (.loadAll ag23 (by rfl) rfl f4) ?_
 refine G.r rfl (.loadAll ag23 (by rfl) rfl f4) ?_
 refine G.ef rfl rfl rfl rfl rfl ?_
 refine Ef.call go57 rfl rfl (rpart_ok seed hse 1 w1) ?_
 rintro _ w1_1 ⟨rfl, h1_1⟩
 refine ⟨_, rfl, ?_⟩
 refine ⟨fun _ => h1_1, ?_⟩
 have L5 := L3.trans h1_1
 refine G.ef rfl rfl rfl rfl rfl ?_
 refine Ef.call go56 rfl rfl (rfrom32_ok (partB seed 1) (by first | assumption | exact tag_length _ _) w1_1) ?_
 rintro _ w1_2 ⟨rfl, h1_2⟩
 refine ⟨_, rfl, ?_⟩
 refine ⟨fun _ => h1_2, ?_⟩
 have L6 := L5.trans h1_2
 refine G.ef rfl rfl rfl rfl rfl ?_
 refine Ef.call go57 rfl rfl (rpart_ok seed hse 2 w1_2) ?_
 rintro _ w1_4 ⟨rfl, h1_4⟩
 refine ⟨_, rfl, ?_⟩
 refine ⟨fun _ => h1_4, ?_⟩
 have L7 := L6.trans h1_4
 refine G.ef rfl rfl rfl rfl rfl ?_
 refine Ef.call go56 rfl rfl (rfrom32_ok (partB seed 2) (by first | assumption | exact tag_length _ _) w1_4) ?_
 rintro _ w1_5 ⟨rfl, h1_5⟩
 refine ⟨_, rfl, ?_⟩
 refine ⟨fun _ => h1_5, ?_⟩
 have L8 := L7.trans h1_5
 refine G.ef rfl rfl rfl rfl rfl ?_
 refine Ef.call go57 rfl rfl (rpart_ok seed hse 3 w1_5) ?_
 rintro _ w1_7 ⟨rfl, h1_7⟩
 refine ⟨_, rfl, ?_⟩
 refine ⟨fun _ => h1_7, ?_⟩
 have L9 := L8.trans h1_7
 refine G.ef rfl rfl rfl rfl rfl ?_
 refine Ef.call go56 rfl rfl (rfrom32_ok (partB seed 3) (by first | assumption | exact tag_length _ _) w1_7) ?_
 rintro _ w1_8 ⟨rfl, h1_8⟩
 refine ⟨_, rfl, ?_⟩
 refine ⟨fun _ => h1_8, ?_⟩
 have L10 := L9.trans h1_8
 refine G.ef rfl rfl rfl rfl rfl ?_
 refine Ef.call go57 rfl rfl (rpart_ok seed hse 4 w1_8) ?_
 rintro _ w1_10 ⟨rfl, h1_10⟩
 refine ⟨_, rfl, ?_⟩
 refine ⟨fun _ => h1_10, ?_⟩
 have L11 := L10.trans h1_10
 refine G.ef rfl rfl rfl rfl rfl ?_
 refine Ef.call go56 rfl rfl (rfrom32_ok (partB seed 4) (by first | assumption | exact tag_length _ _) w1_10) ?_
 rintro _ w1_11 ⟨rfl, h1_11⟩
 refine ⟨_, rfl, ?_⟩
 refine ⟨fun _ => h1_11, ?_⟩
 have L12 := L11.trans h1_11
 refine G.ef rfl rfl rfl rfl rfl ?_
 refine Ef.call go57 rfl rfl (rpart_ok seed hse 5 w1_11) ?_
 rintro _ w1_13 ⟨rfl, h1_13⟩
 refine ⟨_, rfl, ?_⟩
 refine ⟨fun _ => h1_13, ?_⟩
 have L13 := L12.trans h1_13
 refine G.ef rfl rfl rfl rfl rfl ?_
 refine Ef.call go56 rfl rfl (rfrom32_ok (partB seed 5) (by first | assumption | exact tag_length _ _) w1_13) ?_
 rintro _ w1_14 ⟨rfl, h1_14⟩
 refine ⟨_, rfl, ?_⟩
 refine ⟨fun _ => h1_14, ?_⟩
 have L14 := L13.trans h1_14
 refine G.ef rfl rfl rfl rfl rfl ?_
 refine Ef.call go57 rfl rfl (rpart_ok seed hse 6 w1_14) ?_
 rintro _ w1_16 ⟨rfl, h1_16⟩
 refine ⟨_, rfl, ?_⟩
 refine ⟨fun _ => h1_16, ?_⟩
 have L15 := L14.trans h1_16
 refine G.a rfl (.buildP (kitV (⟨fromB (partB seed 1), fromB (partB seed 2), fromB (partB seed 3), fromB (partB seed 4), fromB (partB seed 5), (partB seed 6)⟩)) pl46 z46 rfl rfl) ?_
 have f16 := (b0_1.le (d1.trans (h1_1.trans (h1_2.trans (h1_4.trans (h1_5.trans (h1_7.trans (h1_8.trans (h1_10.trans (h1_11.trans (h1_13.trans (h1_14.trans h1_16))))))))))))
 refine G.ef0 rfl rfl rfl rfl ?_
 refine Ef.storeAll sz46 (by rfl) rfl rfl f16 (by simp only [List.size_toArray, kitV_row.len]) (kitV_row.one (⟨fromB (partB seed 1), fromB (partB seed 2), fromB (partB seed 3), fromB (partB seed 4), fromB (partB seed 5), (partB seed 6)⟩)) ?_
 intro w1_18 b1_18 h1_18
 refine noT (by kernel_rfl) ?_
 have b1_18 : Blk w1_18 g0_1 46 (kitV (⟨fromB (partB seed 1), fromB (partB seed 2), fromB (partB seed 3), fromB (partB seed 4), fromB (partB seed 5), (partB seed 6)⟩)).toArray := b1_18
 have L17 := L15.tb h1_18 L1 hg0_1
 refine G.nil (E.thenN (WC.ret ?_))
 refine E.retG1 rfl (resA rfl b1_18 ag46 (by rfl)) ?_
 exact ⟨rfl, L17⟩

theorem rbasics_ok (k : Kt) (w : World) : Calls prog 30 #[.agg (kitV k).toArray] w fun r w' => r = .returned (.agg (basV (basB k)).toArray) /\ Le w w' := by
 refine enter func30 rfl rfl ?_
 have L0 := Le.refl w
 refine WC.sr (W.ef rfl rfl rfl ?_)
 refine Ef.boxA rfl ?_
 intro g0_0 w0_0 hg0_0 b0_0 h0_0
 have L1 := L0.trans h0_0
 have b0_0 : Blk w0_0 g0_0 46 (kitV k).toArray := b0_0
 refine W.ef rfl rfl rfl ?_
 refine Ef.allocA z37 ?_
 intro g0_1 w0_1 hg0_1 b0_1 h0_1
 have L2 := L1.trans h0_1
 have b0_1 : Blk w0_1 g0_1 37 (basV noBas).toArray := b0_1
 refine W.nx (WC.seq ?_)
 refine WC.draw [0, 1, 3, 4, 6, 7, 9, 10, 12, 13, 2, 5, 8, 11, 14, 15, 16] mixed (by kernel_rfl) ?_
 intro w1 d1
 have L3 := L2.trans d1
 refine G.a rfl (.field0 fa46_0 rfl) ?_
 have f4 := (b0_0.le (h0_1.trans d1))
 refine G.r rfl (.loadB (v := .int .u64 (((k.f : Nat) : Int))) na44 rfl f4 rfl) ?_
 refine G.a rfl (.field0 fa46_1 rfl) ?_
 refine G.r rfl (.loadB (v := .int .u64 (((k.p : Nat) : Int))) na44 rfl f4 rfl) ?_
 refine G.a rfl (.field0 fa46_2 rfl) ?_
 refine G.r rfl (.loadB (v := .int .u64 (((k.l : Nat) : Int))) na44 rfl f4 rfl) ?_
 refine G.a rfl (.field0 fa46_3 rfl) ?_
 refine G.r rfl (.loadB (v := .int .u64 (((k.c : Nat) : Int))) na44 rfl f4 rfl) ?_
 refine G.a rfl (.field0 fa46_4 rfl) ?_
 refine G.r rfl (.loadB (v := .int .u64 (((k.r : Nat) : Int))) na44 rfl f4 rfl) ?_
 refine G.ef rfl rfl rfl rfl rfl ?_
 refine Ef.call go58 rfl rfl (rbase_ok k.f w1) ?_
 rintro _ w1_2 ⟨rfl, h1_2⟩
 refine ⟨_, rfl, ?_⟩
 refine ⟨fun _ => h1_2, ?_⟩
 have L5 := L3.trans h1_2
 refine G.ef rfl rfl rfl rfl rfl ?_
 refine Ef.call go58 rfl rfl (rbase_ok k.p w1_2) ?_
 rintro _ w1_5 ⟨rfl, h1_5⟩
 refine ⟨_, rfl, ?_⟩
 refine ⟨fun _ => h1_5, ?_⟩
 have L6 := L5.trans h1_5
 refine G.ef rfl rfl rfl rfl rfl ?_
 refine Ef.call go58 rfl rfl (rbase_ok k.l w1_5) ?_
 rintro _ w1_8 ⟨rfl, h1_8⟩
 refine ⟨_, rfl, ?_⟩
 refine ⟨fun _ => h1_8, ?_⟩
 have L7 := L6.trans h1_8
 refine G.ef rfl rfl rfl rfl rfl ?_
 refine Ef.call go58 rfl rfl (rbase_ok k.c w1_8) ?_
 rintro _ w1_11 ⟨rfl, h1_11⟩
 refine ⟨_, rfl, ?_⟩
 refine ⟨fun _ => h1_11, ?_⟩
 have L8 := L7.trans h1_11
 refine G.ef rfl rfl rfl rfl rfl ?_
 refine Ef.call go58 rfl rfl (rbase_ok k.r w1_11) ?_
 rintro _ w1_14 ⟨rfl, h1_14⟩
 refine ⟨_, rfl, ?_⟩
 refine ⟨fun _ => h1_14, ?_⟩
 have L9 := L8.trans h1_14
 refine G.a rfl (.buildP (basV (⟨base k.f, base k.p, base k.l, base k.c, base k.r⟩)) pl37 z37 rfl rfl) ?_
 have f10 := (b0_1.le (d1.trans (h1_2.trans (h1_5.trans (h1_8.trans (h1_11.trans h1_14))))))
 refine G.ef0 rfl rfl rfl rfl ?_
 refine Ef.storeAll sz37 (by rfl) rfl rfl f10 (by simp only [List.size_toArray, basV_row.len]) (basV_row.one (⟨base k.f, base k.p, base k.l, base k.c, base k.r⟩)) ?_
 intro w1_16 b1_16 h1_16
 refine noT (by kernel_rfl) ?_
 have b1_16 : Blk w1_16 g0_1 37 (basV (⟨base k.f, base k.p, base k.l, base k.c, base k.r⟩)).toArray := b1_16
 have L11 := L9.tb h1_16 L1 hg0_1
 refine G.nil (E.thenN (WC.ret ?_))
 refine E.retG1 rfl (resA rfl b1_16 ag37 (by rfl)) ?_
 exact ⟨rfl, L11⟩
end Go.Proofs.YtgpaekbdbpkogaaGreat

