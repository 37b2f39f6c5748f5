/- The document's Wrap, walked: it computes what the program's does. -/
import Derived.Test.YtpmjdiccekkadaaRef31w
namespace Go.Sx
open Go Go.RowKit
theorem Any.fieldS {P : Program} {env : Env} {n : Nat} {d : Option Nat} {T : TypeId} {p : String} {af : Array Edge} {g : Option (Nat × Bool)} {t i off : Nat} {x : Operand} {A : Option Addr} {j : Nat} (hf : Fat P t i off) (hA : A.isSome = true) (hx : ev env x = some (ptr A j)) : Any P env n ⟨d, .fieldAddr t x i, T, p, af, g⟩ (ptr A (j + off)) := fun a ha w => by
  obtain ⟨fs, f, s, h1, h2, h3, h4, h5⟩ := hf
  obtain ⟨ad, rfl⟩ := Option.isSome_iff_exists.1 hA
  have h6 : ¬ s = 0 := by omega
  simp [execOp, ha.eval hx, Instr.fieldAt, run_underlying h1, h2, Instr.sureAddr, fieldPlace, h4.run, h6, h3, ptr, add_add]
end Go.Sx
namespace Go.Proofs.Ytpmjdiccekkadaa
open Go Go.Sx Go.Hsp Go.Num Go.Osp
set_option maxRecDepth 20000
theorem stepR_T (l : List Stop) (hs : List Hop) (st : List Byte × List Byte) (k : Nat) (h : k + 1 = l.length) : stepR l hs st k = (put (layer (l.getD k (0, [])) (hs.getD k noHop) st.2 st.1) (filler l), macB (l.getD k (0, [])) (put (layer (l.getD k (0, [])) (hs.getD k noHop) st.2 st.1) (filler l))) := by
  simp only [stepR, if_pos h]
theorem stepR_F (l : List Stop) (hs : List Hop) (st : List Byte × List Byte) (k : Nat) (h : ¬ k + 1 = l.length) : stepR l hs st k = (layer (l.getD k (0, [])) (hs.getD k noHop) st.2 st.1, macB (l.getD k (0, [])) (layer (l.getD k (0, [])) (hs.getD k noHop) st.2 st.1)) := by
  simp only [stepR, if_neg h]
set_option maxHeartbeats 4000000 in
theorem rwrap_ok (seed : List Byte) (hse : seed.length = 32) {A Ah : Option Addr} {n c nh ch : Nat} {ks : List Nat} {hs : List Hop} (w : World) (hK : Sl w 1 A n (ks.map pv)) (hks : ∀ k ∈ ks, k < 18446744073709551616) (hn : n ≤ 1000000) (hH : Rws w 6 Ah nh (hs.map hopV)) (hhs : ∀ h ∈ hs, HopOk h) (_hnh : nh ≤ 1000000) : Calls Try.prog 28 #[.slice A n c, .slice Ah nh ch, .agg (seed.map u8v).toArray] w (fun e w' => Le w w' ∧ (((keysOk ks && hopsOk ks hs) = true ∧ ∃ A' c', e = .returned (.tuple #[.slice A' 680 c', .int .i64 0]) ∧ Sx.Own w' w.heap.size 5 1 A' 680 c' ((wrapB ks hs seed).map u8v)) ∨ ((keysOk ks && hopsOk ks hs) = false ∧ e = .returned (.tuple #[.slice none 0 0, .int .i64 1])))) := by
  have hkl0 := hK.1
  rw [List.length_map, Nat.mul_one] at hkl0
  have hhl := hH.1
  rw [List.length_map] at hhl
  refine enter Try.func28 rfl rfl ?_
  have L0 := Le.refl w
  refine WC.seq ?_
  refine WC.region ?_
  refine W.ef rfl rfl rfl ?_
  refine Ef.boxA rfl ?_
  intro g0_0 w0_0 hg0_0 b0_0 h0_0
  have L0_0 := L0.trans h0_0
  have LL := Le.refl w0_0
  refine W.any (.assign rfl) rfl rfl rfl ?_
  refine W.any (.assign rfl) rfl rfl rfl ?_
  refine W.nil ?_
  refine E.thenN ?_
  refine WC.seq ?_
  refine WC.seq ?_
  refine WC.region ?_
  refine W.any (.move rfl) rfl rfl rfl ?_
  by_cases hk : keysOk ks = true
  · refine W.ef rfl rfl rfl ?_
    refine Ef.call go71 rfl rfl (rkeys_T w0_0 (hK.le (h0_0.trans LL)) hks hn hk) ?_
    rintro _ w1_1 ⟨rfl, h1_1⟩
    refine ⟨_, rfl, ?_⟩
    have L1_1 := LL.trans h1_1
    refine W.any (.not rfl) rfl rfl rfl ?_
    refine W.any (.move rfl) rfl rfl rfl ?_
    refine W.rdg (Any.rd (.move rfl) _) rfl rfl rfl (rfl) rfl rfl ?_
    refine W.rdg (.len Try.underlying42 rfl) rfl rfl rfl (rfl) rfl rfl ?_
    refine W.rdg (Any.rd (.move rfl) _) rfl rfl rfl (rfl) rfl rfl ?_
    refine W.rdg (.len Try.underlying41 rfl) rfl rfl rfl (rfl) rfl rfl ?_
    by_cases hln : nh = n
    · refine W.rdg (Any.rd (.dec (.neq rfl rfl) (decide_eq_false (by omega))) _) rfl rfl rfl (rfl) rfl rfl ?_
      refine W.any (.pickF rfl rfl rfl) rfl rfl rfl ?_
      refine W.nil ?_
      refine E.thenN ?_
      refine WC.condF rfl ?_
      refine WC.skip ?_
      refine E.thenN ?_
      refine WC.seq ?_
      refine WC.seq ?_
      refine WC.region ?_
      refine W.any (.assign rfl) rfl rfl rfl ?_
      refine W.nil ?_
      refine E.thenN ?_
      refine WC.block ?_
      refine WC.loop (ι := Nat) (fun k => [(0, .slice A n c), (1, .slice Ah nh ch), (5, .pointer (some ⟨g0_0, 0, none⟩)), (8, .int .i64 (k : Int))]) (fun k wl => k ≤ nh ∧ Le w0_0 wl ∧ ∀ i, i < k → (mayB (hs.getD i noHop) && decide (decide ((hs.getD i noHop).1 < 0) = decide (i + 1 = hs.length))) = true) (fun k => nh - k) 0 ?_ ?_ ?_
      · exact .cons rfl (.cons rfl (.cons rfl (.cons rfl (.nil _))))
      · exact ⟨Nat.zero_le _, L1_1, fun i hi => by omega⟩
      · rintro k wl ⟨hkn, Ll, hall⟩
        refine WC.seq ?_
        refine WC.seq ?_
        refine WC.region ?_
        refine W.any (.move rfl) rfl rfl rfl ?_
        refine W.any (.move rfl) rfl rfl rfl ?_
        refine W.rd (.len Try.underlying42 rfl) rfl rfl rfl ?_
        refine W.any (.lss rfl rfl) rfl rfl rfl ?_
        refine W.nil ?_
        refine E.thenN ?_
        refine WC.cond rfl (fun c1 => ?_) (fun c1 => ?_)
        · have hkh := geth hs (show k < hs.length by omega)
          have hho : HopOk (hs.getD k noHop) := hhs _ (List.mem_of_getElem? hkh)
          refine WC.skip ?_
          refine E.thenN ?_
          refine WC.seq ?_
          refine WC.block ?_
          refine WC.seq ?_
          refine WC.region ?_
          refine W.any (.move rfl) rfl rfl rfl ?_
          refine W.any (.move rfl) rfl rfl rfl ?_
          refine W.any (.idxS (k) Try.underlying42 sz51 rfl rfl (hH.isSome (by omega) (by decide)) (rfl) (by omega)) rfl rfl rfl ?_
          refine W.rd (.loadR ag51 rfl (hH.le (h0_0.trans Ll)) (hopRows_at hs k (by omega)) (by decide)) rfl rfl rfl ?_
          by_cases hy : mayB (hs.getD k noHop) = true
          · refine W.ef rfl rfl rfl ?_
            refine Ef.call go72 rfl rfl (rmay_T _ hho hy wl) ?_
            rintro _ w6_4 ⟨rfl, h6_4⟩
            refine ⟨_, rfl, ?_⟩
            have L6_4 := Ll.trans h6_4
            have hnx := may_next hy
            have ha1 : decide ((hs.getD k noHop).1 = -1) = decide ((hs.getD k noHop).1 < 0) := decide_eq_decide.2 (by omega)
            have hb1 : decide ((k : Int) = (nh : Int) - 1) = decide (k + 1 = hs.length) := decide_eq_decide.2 (by omega)
            refine W.any (.not rfl) rfl rfl rfl ?_
            refine W.any (.move rfl) rfl rfl rfl ?_
            refine W.rdg (Any.rd (.move rfl) _) rfl rfl rfl (rfl) rfl rfl ?_
            refine W.rdg (Any.rd (.move rfl) _) rfl rfl rfl (rfl) rfl rfl ?_
            refine W.rdg (Any.rd (.idxS (k) Try.underlying42 sz51 rfl rfl (hH.isSome (by omega) (by decide)) (rfl) (by omega)) _) rfl rfl rfl (rfl) rfl rfl ?_
            refine W.rdg (Any.rd (.fieldS fa51_0 (hH.isSome (by omega) (by decide)) rfl) _) rfl rfl rfl (rfl) rfl rfl ?_
            refine W.rdg (.loadS na3 rfl ((hH.le (h0_0.trans L6_4)).2.2) (flat_at _ hH.2.1 k _ (hopRows_at hs k (by omega)) 0 _ rfl)) rfl rfl rfl (rfl) rfl rfl ?_
            refine W.rdg (Any.rd (.eql rfl rfl) _) rfl rfl rfl (rfl) rfl rfl ?_
            refine W.rdg (Any.rd (.move rfl) _) rfl rfl rfl (rfl) rfl rfl ?_
            refine W.rdg (Any.rd (.move rfl) _) rfl rfl rfl (rfl) rfl rfl ?_
            refine W.rdg (.len Try.underlying42 rfl) rfl rfl rfl (rfl) rfl rfl ?_
            refine W.rdg (Any.rd (.sub rfl rfl (by omega)) _) rfl rfl rfl (rfl) rfl rfl ?_
            refine W.rdg (Any.rd (.eql rfl rfl) _) rfl rfl rfl (rfl) rfl rfl ?_
            by_cases hb : decide ((hs.getD k noHop).1 < 0) = decide (k + 1 = hs.length)
            · refine W.rdg (Any.rd (.dec (.bneq Try.underlying4 rfl rfl) (show (!(_ == _)) = false from by rw [ha1, hb1, hb]; simp)) _) rfl rfl rfl (rfl) rfl rfl ?_
              refine W.any (.pickF rfl rfl rfl) rfl rfl rfl ?_
              refine W.nil ?_
              refine E.thenN ?_
              refine WC.condF rfl ?_
              refine WC.skip ?_
              refine E.blkN ?_
              refine E.thenN ?_
              refine WC.region ?_
              refine W.any (.move rfl) rfl rfl rfl ?_
              refine W.any (.add rfl rfl (by omega)) rfl rfl rfl ?_
              refine W.any (.assign rfl) rfl rfl rfl ?_
              refine W.nil ?_
              refine E.again (k + 1) (.cons rfl (.cons rfl (.cons rfl (.cons rfl (.nil _))))) ?_ ?_
              · exact ⟨by omega, L6_4, fun i hi => by
                  by_cases hik : i < k
                  · exact hall i hik
                  · have hik : i = k := by omega
                    subst hik
                    rw [hy, Bool.true_and]
                    exact decide_eq_true hb⟩
              · first | omega | (simp only []; omega)
            · refine W.rdg (Any.rd (.dec (.bneq Try.underlying4 rfl rfl) (show (!(_ == _)) = true from by rw [ha1, hb1]; simpa using hb)) _) rfl rfl rfl (rfl) rfl rfl ?_
              refine W.any (.pickF rfl rfl rfl) rfl rfl rfl ?_
              refine W.nil ?_
              refine E.thenN ?_
              refine WC.condT rfl ?_
              refine WC.seq ?_
              refine WC.region ?_
              refine W.any (.assign rfl) rfl rfl rfl ?_
              refine W.any (.assign rfl) rfl rfl rfl ?_
              refine W.nil ?_
              refine E.thenN ?_
              refine WC.ret ?_
              refine E.blkR ?_
              refine E.thenR ?_
              refine E.thenR ?_
              refine E.blkR ?_
              refine E.thenR ?_
              refine E.ret2 rfl rfl rfl ?_
              exact ⟨h0_0.trans L6_4, .inr ⟨by rw [hk, Bool.true_and]; exact hopsOk_no ks hs k (by omega) (by rw [hy, Bool.true_and]; exact decide_eq_false hb), rfl⟩⟩
          · refine W.ef rfl rfl rfl ?_
            refine Ef.call go72 rfl rfl (rmay_F _ hho (by simpa using hy) wl) ?_
            rintro _ w6_4 ⟨rfl, h6_4⟩
            refine ⟨_, rfl, ?_⟩
            have L6_4 := Ll.trans h6_4
            refine W.any (.not rfl) rfl rfl rfl ?_
            refine W.any (.move rfl) rfl rfl rfl ?_
            refine W.skip rfl rfl rfl (rfl) rfl rfl ?_
            refine W.skip rfl rfl rfl (rfl) rfl rfl ?_
            refine W.skip rfl rfl rfl (rfl) rfl rfl ?_
            refine W.skip rfl rfl rfl (rfl) rfl rfl ?_
            refine W.skip rfl rfl rfl (rfl) rfl rfl ?_
            refine W.skip rfl rfl rfl (rfl) rfl rfl ?_
            refine W.skip rfl rfl rfl (rfl) rfl rfl ?_
            refine W.skip rfl rfl rfl (rfl) rfl rfl ?_
            refine W.skip rfl rfl rfl (rfl) rfl rfl ?_
            refine W.skip rfl rfl rfl (rfl) rfl rfl ?_
            refine W.skip rfl rfl rfl (rfl) rfl rfl ?_
            refine W.skip rfl rfl rfl (rfl) rfl rfl ?_
            refine W.any (.pickT rfl rfl rfl) rfl rfl rfl ?_
            refine W.nil ?_
            refine E.thenN ?_
            refine WC.condT rfl ?_
            refine WC.seq ?_
            refine WC.region ?_
            refine W.any (.assign rfl) rfl rfl rfl ?_
            refine W.any (.assign rfl) rfl rfl rfl ?_
            refine W.nil ?_
            refine E.thenN ?_
            refine WC.ret ?_
            refine E.blkR ?_
            refine E.thenR ?_
            refine E.thenR ?_
            refine E.blkR ?_
            refine E.thenR ?_
            refine E.ret2 rfl rfl rfl ?_
            exact ⟨h0_0.trans L6_4, .inr ⟨by rw [hk, Bool.true_and]; exact hopsOk_no ks hs k (by omega) (by rw [show mayB (hs.getD k noHop) = false by simpa using hy]; rfl), rfl⟩⟩
        · have hkk : nh = k := by omega
          subst hkk
          refine WC.exit ?_
          refine E.thenX ?_
          refine E.thenX ?_
          refine E.blkH ?_
          refine E.thenN ?_
          refine WC.seq ?_
          refine WC.region ?_
          refine W.any (.move rfl) rfl rfl rfl ?_
          refine W.rd (.loadAll ag23 (by simp [hse]) rfl (b0_0.le Ll)) rfl rfl rfl ?_
          refine W.ef rfl rfl rfl ?_
          refine Ef.call go73 rfl rfl (rway_ok seed hse wl (hK.le (h0_0.trans Ll)) hks hn) ?_
          rintro _ w8_2 ⟨Ae, ce, As, cs, rfl, oe, os, h8_2⟩
          refine ⟨_, rfl, ?_⟩
          have L8_2 := Ll.trans h8_2
          have hn8 : 1 ≤ n ∧ n ≤ 8 := by rw [keysOk] at hk; simp at hk; omega
          have hll : (wayB (startX seed) ks).length = n := by rw [wayB_length]; exact hkl0
          have hsum := wayB_sum ks (startX seed)
          have hwr : wrapB ks hs seed = packetB (base (startX seed)) (wrapR (padO seed) [] (wayB (startX seed) ks) hs) := rfl
          have hfst : (((wayB (startX seed) ks).map Prod.fst).map pv)[0]? = some (pv (base (startX seed))) := by
            cases ks with
            | nil => simp at hkl0; omega
            | cons k ks => rfl
          generalize wayB (startX seed) ks = l at *
          have hok : (keysOk ks && hopsOk ks hs) = true := by rw [hk, Bool.true_and]; exact hopsOk_yes ks hs (by omega) (fun i hi => hall i (by omega))
          have hKs := ks_own os (by simp [hll]) (fun q hq => by obtain ⟨s, hs, rfl⟩ := List.mem_map.1 hq; exact hsum s hs)
          have hE := oe.sl
          refine W.any (.move rfl) rfl rfl rfl ?_
          refine W.any (.extract rfl rfl) rfl rfl rfl ?_
          refine W.any (.extract rfl rfl) rfl rfl rfl ?_
          refine W.any (.assign rfl) rfl rfl rfl ?_
          refine W.any (.assign rfl) rfl rfl rfl ?_
          refine W.nil ?_
          refine E.thenN ?_
          refine WC.seq ?_
          refine WC.region ?_
          refine W.any (.cutArr Try.underlying23 sz5 rfl) rfl rfl rfl ?_
          refine W.ef rfl rfl rfl ?_
          refine Ef.buildSlice1 Try.underlying135 el24 rfl rfl ?_
          intro g9_1 w9_1 hg9_1 b9_1 h9_1
          have L9_1 := L8_2.trans h9_1
          refine W.ef rfl rfl rfl ?_
          refine Ef.call go56 rfl rfl (rtag_ok _ nPad w9_1 (ps := [seed]) rfl (b9_1.sl (s := 1) (n := 1) rfl) (.cons ((b0_0.le L9_1).sb hse) (.nil _)) (by rw [tagLen1, hse]; decide)) ?_
          rintro _ w9_2 ⟨rfl, h9_2⟩
          refine ⟨_, rfl, ?_⟩
          have L9_2 := L9_1.trans h9_2
          refine W.ef rfl rfl rfl ?_
          refine Ef.call go74 rfl rfl (rstream_ok _ (tag_length _ _) 640 (by decide) w9_2) ?_
          rintro _ w9_3 ⟨Ap, cp, rfl, op, h9_3⟩
          refine ⟨_, rfl, ?_⟩
          have L9_3 := L9_2.trans h9_3
          have e9 := h9_1.trans (h9_2.trans h9_3)
          have hKs := hKs.le e9
          have hE := hE.le e9
          have hL9 := L9_3
          have hH9 := hH.le (h0_0.trans L9_3)
          have op : Sx.Own w9_3 w9_2.heap.size 5 1 Ap 640 cp ((padO seed).map u8v) := op
          have hpl : (padO seed).length = 640 := stream_length _ _
          refine W.any (.assign rfl) rfl rfl rfl ?_
          refine W.nil ?_
          refine E.thenN ?_
          refine WC.seq ?_
          refine WC.region ?_
          refine W.any (.buildA (cells := ((zeros 32).map u8v).toArray) Try.underlying23 sz5 z23 rfl (by kernel_rfl)) rfl rfl rfl ?_
          refine W.ef rfl rfl rfl ?_
          refine Ef.allocA z23 ?_
          intro g10_1 w10_1 hg10_1 b10_1 h10_1
          have L10_1 := L9_3.trans h10_1
          refine W.ef0 rfl rfl ?_
          refine Ef.storeAll sz23 (by rfl) rfl rfl (b10_1) (by rfl) (all_u8v _) ?_
          intro w10_2 b10_2 h10_2
          have L10_2 : Le w0_0 w10_2 := L10_1.then_ h10_2 (fun q hq => by cases hq; exact Nat.le_trans L9_3.size hg10_1)
          have LB : Le w9_3 w10_2 := h10_1.then_ h10_2 (fun q hq => by cases hq; exact hg10_1)
          have np : rowOf Ap cp ≠ some g10_1 := fun he => by have := (op.row he).2; omega
          have op2 := (op.le h10_1).ch h10_2 (fun q hq => by cases hq; exact np)
          refine W.nil ?_
          refine E.thenN ?_
          refine WC.seq ?_
          refine WC.seq ?_
          refine WC.region ?_
          refine W.any (.move rfl) rfl rfl rfl ?_
          refine W.rd (.len Try.underlying42 rfl) rfl rfl rfl ?_
          refine W.any (.sub rfl rfl (by omega)) rfl rfl rfl ?_
          refine W.any (.assign rfl) rfl rfl rfl ?_
          refine W.nil ?_
          refine E.thenN ?_
          refine WC.block ?_
          refine WC.loop (ι := Nat × Option Addr × Nat) (fun ⟨j, Ar, cr⟩ => [(1, .slice Ah nh ch), (9, .slice Ae n ce), (10, .slice As n cs), (11, .slice Ar 640 cr), (12, .pointer (some ⟨g10_1, 0, none⟩)), (13, .int .i64 ((nh : Int) - 1 - (j : Int)))]) (fun ⟨j, Ar, cr⟩ wm => j ≤ nh ∧ Le w9_3 wm ∧ Blk wm g10_1 23 ((foldR l hs (padO seed) (downs nh j)).2.map u8v).toArray ∧ Sx.Own wm w0_0.heap.size 5 1 Ar 640 cr ((foldR l hs (padO seed) (downs nh j)).1.map u8v) ∧ rowOf Ar cr ≠ some g10_1) (fun ⟨j, Ar, cr⟩ => nh - j) (0, Ap, cp) ?_ ?_ ?_
          · exact .cons rfl (.cons rfl (.cons rfl (.cons rfl (.cons rfl (.cons' rfl (int_eq (by omega)) (.nil _))))))
          · exact ⟨Nat.zero_le _, LB, b10_2, op2.mono L9_2.size, np⟩
          · rintro ⟨j, Ar, cr⟩ wm ⟨hj, Lm, bM, or_, nr⟩
            have hfl := foldR_len l hs (padO seed) hpl (by omega) (by omega) (downs nh j)
            have hMl := bM.lt
            refine WC.seq ?_
            refine WC.seq ?_
            refine WC.region ?_
            refine W.any (.move rfl) rfl rfl rfl ?_
            refine W.any (.geq rfl rfl) rfl rfl rfl ?_
            refine W.nil ?_
            refine E.thenN ?_
            refine WC.cond rfl (fun c3 => ?_) (fun c3 => ?_)
            · have hj1 : j + 1 ≤ nh := by omega
              have hi : (nh : Int) - 1 - (j : Int) = ((nh - 1 - j : Nat) : Int) := by omega
              have hxs := getst l (show nh - 1 - j < l.length by omega)
              have hs32 := hsum _ (List.mem_of_getElem? hxs)
              have hsm : (l.map Prod.snd)[nh - 1 - j]? = some (l.getD (nh - 1 - j) (0, [])).2 := by rw [List.getElem?_map, hxs]; rfl
              have hho : HopOk (hs.getD (nh - 1 - j) noHop) := hhs _ (List.mem_of_getElem? (geth hs (show nh - 1 - j < hs.length by omega)))
              have hsd : foldR l hs (padO seed) (downs nh (j + 1)) = stepR l hs (foldR l hs (padO seed) (downs nh j)) (nh - 1 - j) := by rw [downs_succ, foldR_snoc]
              generalize foldR l hs (padO seed) (downs nh j) = st at *
              have hll2 := layer_length (l.getD (nh - 1 - j) (0, [])) (hs.getD (nh - 1 - j) noHop) st.2 st.1 hfl.2 hfl.1
              refine WC.skip ?_
              refine E.thenN ?_
              refine WC.seq ?_
              refine WC.block ?_
              refine WC.seq ?_
              refine WC.draw [0, 1, 2, 3, 5, 4, 6, 7] mixed (by kernel_rfl) ?_
              intro w14 d14
              have L14 := Lm.trans d14
              refine G.any rfl rfl (.move rfl) rfl rfl rfl ?_
              refine G.any rfl rfl (.move rfl) rfl rfl rfl ?_
              refine G.any rfl rfl (.idxS (nh - 1 - j) Try.underlying42 sz51 rfl rfl (hH.isSome (by omega) (by decide)) (hi) (by omega)) rfl rfl rfl ?_
              refine G.rd rfl rfl (.loadR ag51 rfl (hH9.le L14) (hopRows_at hs (nh - 1 - j) (by omega)) (by decide)) rfl rfl rfl ?_
              refine G.any rfl rfl (.cutArr Try.underlying23 sz5 rfl) rfl rfl rfl ?_
              refine G.ef rfl rfl rfl rfl rfl ?_
              refine Ef.call go75 rfl rfl (rlaid_ok _ hho w14) ?_
              rintro _ w14_4 ⟨A4, c4, rfl, o4, h14_4⟩
              refine ⟨_, rfl, ?_⟩
              have L14_4 := L14.trans h14_4
              refine ⟨fun _ => h14_4, ?_⟩
              refine G.ef rfl rfl rfl rfl rfl ?_
              refine Ef.append Try.underlying24 el5 rfl (o4) rfl (((bM.le (d14.trans h14_4)).sb hfl.2).src Try.underlying24 _) (by omega) (by unfold maxLen; omega) (h14_4.size) ?_
              intro A14_6 c14_6 w14_6 o14_6 h14_6 at14_6
              have L14_6 : Le w9_3 w14_6 := L14_4.then_ h14_6 (fun q hq => Nat.le_trans L14.size (o4.row hq).1)
              refine ⟨fun h => absurd h (ne_true_of_eq_false (by kernel_rfl)), ?_⟩
              have bM := (bM.le (d14.trans h14_4)).ch h14_6 (fun he => by have := (o4.row he).1; have := d14.size; omega)
              have or_ := (or_.le (d14.trans h14_4)).ch h14_6 (fun q hq he => by have := (o4.row hq).1; have := (or_.row he).2; have := d14.size; omega)
              refine G.any rfl rfl (.assign rfl) rfl rfl rfl ?_
              refine G.nil ?_
              refine E.thenN ?_
              refine WC.seq ?_
              refine WC.region ?_
              refine W.any (.move rfl) rfl rfl rfl ?_
              refine W.any (.move rfl) rfl rfl rfl ?_
              refine W.any (.cutH (560) Try.underlying24 sz5 rfl rfl (rfl) (by have := or_.cap.1; omega)) rfl rfl rfl ?_
              refine W.ef rfl rfl rfl ?_
              refine Ef.append Try.underlying24 el5 rfl (o14_6) rfl ((or_.sb.cutH 560 (by decide)).src Try.underlying24 _) (by omega) (by unfold maxLen; omega) (Nat.le_trans h14_4.size h14_6.size) ?_
              intro A15_3 c15_3 w15_3 o15_3 h15_3 at15_3
              have L15_3 : Le w9_3 w15_3 := L14_6.then_ h15_3 (fun q hq => Nat.le_trans L14.size (o14_6.row hq).1)
              have bM := bM.ch h15_3 (fun he => by have := (o14_6.row he).1; have := d14.size; omega)
              have o15 : Sx.Own w15_3 w14.heap.size 5 1 A15_3 640 c15_3 ((layB (hs.getD (nh - 1 - j) noHop) ++ st.2 ++ st.1.take 560).map u8v) := o15_3.cast rfl (by simp)
              refine W.any (.assign rfl) rfl rfl rfl ?_
              refine W.nil ?_
              refine E.thenN ?_
              refine WC.seq ?_
              refine WC.region ?_
              refine W.any (.move rfl) rfl rfl rfl ?_
              refine W.any (.move rfl) rfl rfl rfl ?_
              refine W.any (.move rfl) rfl rfl rfl ?_
              refine W.any (.idxS (nh - 1 - j) Try.underlying25 sz23 rfl rfl (hKs.2.2.isSome (j := nh - 1 - j) (by omega) (by decide)) (hi) (by omega)) rfl rfl rfl ?_
              refine W.rd (.loadK ag23 rfl (hKs.le L15_3) hsm (by decide)) rfl rfl rfl ?_
              refine W.ef rfl rfl rfl ?_
              refine Ef.call go77 rfl rfl (rrho_ok (l.getD (nh - 1 - j) (0, [])) hs32 640 (by decide) w15_3) ?_
              rintro _ w16_5 ⟨A5, c5, rfl, o5, h16_5⟩
              refine ⟨_, rfl, ?_⟩
              have L16_5 := L15_3.trans h16_5
              refine W.ef rfl rfl rfl ?_
              refine Ef.call go76 rfl rfl (changed_ok w16_5 (o15.le h16_5).sb o5.sb (by decide)) ?_
              rintro _ w16_6 ⟨A6, c6, rfl, o6, h16_6⟩
              refine ⟨_, rfl, ?_⟩
              have L16_6 := L16_5.trans h16_6
              have rr : Sx.Own w16_6 w16_5.heap.size 5 1 A6 640 c6 ((layer (l.getD (nh - 1 - j) (0, [])) (hs.getD (nh - 1 - j) noHop) st.2 st.1).map u8v) := o6
              have bM := bM.le (h16_5.trans h16_6)
              have hMl2 := bM.lt
              have g16 : g10_1 < w16_5.heap.size := by have := d14.size; have := h14_4.size; have := h14_6.size; have := h15_3.size; have := h16_5.size; omega
              have nrr : rowOf A6 c6 ≠ some g10_1 := fun he => by have := (rr.row he).1; omega
              refine W.any (.assign rfl) rfl rfl rfl ?_
              refine W.nil ?_
              refine E.thenN ?_
              refine WC.seq ?_
              refine WC.seq ?_
              refine WC.region ?_
              refine W.any (.move rfl) rfl rfl rfl ?_
              refine W.any (.move rfl) rfl rfl rfl ?_
              refine W.rd (.len Try.underlying42 rfl) rfl rfl rfl ?_
              refine W.any (.sub rfl rfl (by omega)) rfl rfl rfl ?_
              refine W.any (.eql rfl rfl) rfl rfl rfl ?_
              refine W.nil ?_
              refine E.thenN ?_
              refine WC.cond rfl (fun c4 => ?_) (fun c4 => ?_)
              · have hj0 : j = 0 := by omega
                refine WC.seq ?_
                refine WC.region ?_
                refine W.any (.move rfl) rfl rfl rfl ?_
                refine W.ef rfl rfl rfl ?_
                refine Ef.call go78 rfl rfl (rfiller_ok w16_6 (hKs.le L16_6) (by omega) (by omega)) ?_
                rintro _ w18_1 ⟨A8, c8, rfl, o8, h18_1⟩
                refine ⟨_, rfl, ?_⟩
                have L18_1 := L16_6.trans h18_1
                refine W.any (.assign rfl) rfl rfl rfl ?_
                refine W.nil ?_
                refine E.thenN ?_
                refine WC.region ?_
                refine W.ef rfl rfl rfl ?_
                refine Ef.buildSlice0 Try.underlying24 el5 ?_
                intro g19_0 w19_0 hg19_0 b19_0 h19_0
                have L19_0 := L18_1.trans h19_0
                refine W.any (.move rfl) rfl rfl rfl ?_
                refine W.any (.move rfl) rfl rfl rfl ?_
                refine W.rd (.len Try.underlying24 rfl) rfl rfl rfl ?_
                refine W.any (.sub rfl rfl (by omega)) rfl rfl rfl ?_
                refine W.any (.cutH (640 - 80 * (n - 1)) Try.underlying24 sz5 rfl rfl (by omega) (by have := rr.cap.1; omega)) rfl rfl rfl ?_
                refine W.ef rfl rfl rfl ?_
                refine Ef.append Try.underlying24 el5 rfl (Sx.Own.empty w19_0 w18_1.heap.size 5 1 _) rfl (((rr.le (h18_1.trans h19_0)).sb.cutH (640 - 80 * (n - 1)) (by omega)).src Try.underlying24 _) (by omega) (by unfold maxLen; omega) (h19_0.size) ?_
                intro A19_6 c19_6 w19_6 o19_6 h19_6 at19_6
                have L19_6 : Le w9_3 w19_6 := L19_0.then_ h19_6 (fun q hq => by rw [rowOf_zero] at hq; cases hq)
                have o8b := (o8.le h19_0).ch h19_6 (fun q hq => by rw [rowOf_zero] at hq; cases hq)
                refine W.any (.move rfl) rfl rfl rfl ?_
                refine W.ef rfl rfl rfl ?_
                refine Ef.append Try.underlying24 el5 rfl (o19_6) rfl (o8b.sb.src Try.underlying24 _) (by omega) (by unfold maxLen; omega) (Nat.le_trans h19_0.size h19_6.size) ?_
                intro A19_8 c19_8 w19_8 o19_8 h19_8 at19_8
                have L19_8 : Le w9_3 w19_8 := L19_6.then_ h19_8 (fun q hq => Nat.le_trans L18_1.size (o19_6.row hq).1)
                have bM := ((bM.le (h18_1.trans h19_0)).ch h19_6 (by rw [rowOf_zero]; simp)).ch h19_8 (fun he => by have := (o19_6.row he).1; have := h18_1.size; omega)
                have hfil := filler_length l (by omega) (by omega)
                have rr : Sx.Own w19_8 w18_1.heap.size 5 1 A19_8 640 c19_8 ((put (layer (l.getD (nh - 1 - j) (0, [])) (hs.getD (nh - 1 - j) noHop) st.2 st.1) (filler l)).map u8v) := o19_8.cast (by omega) (by rw [put, hll2, hfil, hll]; simp)
                have nrr : rowOf A19_8 c19_8 ≠ some g10_1 := fun he => by have := (rr.row he).1; have := h18_1.size; omega
                rw [stepR_T l hs st _ (by omega)] at hsd
                have hstep := hsd
                refine W.any (.assign rfl) rfl rfl rfl ?_
                refine W.nil ?_
                refine E.thenN ?_
                refine WC.region ?_
                refine W.any (.move rfl) rfl rfl rfl ?_
                refine W.any (.move rfl) rfl rfl rfl ?_
                refine W.any (.idxS (nh - 1 - j) Try.underlying25 sz23 rfl rfl (hKs.2.2.isSome (j := nh - 1 - j) (by omega) (by decide)) (hi) (by omega)) rfl rfl rfl ?_
                refine W.rd (.loadK ag23 rfl (hKs.le L19_8) hsm (by decide)) rfl rfl rfl ?_
                refine W.any (.move rfl) rfl rfl rfl ?_
                refine W.ef rfl rfl rfl ?_
                refine Ef.call go79 rfl rfl (rmac_ok (l.getD (nh - 1 - j) (0, [])) hs32 w19_8 (rr.sb.cast (by omega) rfl) (by omega)) ?_
                rintro _ w20_5 ⟨rfl, h20_5⟩
                refine ⟨_, rfl, ?_⟩
                have L20_5 := L19_8.trans h20_5
                refine W.ef0 rfl rfl ?_
                refine Ef.storeAll sz23 (by simp [macB_length]) rfl rfl (bM.le h20_5) (by simp [macB_length, hfl.2]) (all_u8v _) ?_
                intro w20_6 b20_6 h20_6
                have L20_6 : Le w9_3 w20_6 := L20_5.then_ h20_6 (fun q hq => by cases hq; exact hg10_1)
                have rr2 := (rr.le h20_5).ch h20_6 (fun q hq => by cases hq; exact nrr)
                refine W.nil ?_
                refine E.blkN ?_
                refine E.thenN ?_
                refine WC.region ?_
                refine W.any (.move rfl) rfl rfl rfl ?_
                refine W.any (.sub rfl rfl (by omega)) rfl rfl rfl ?_
                refine W.any (.assign rfl) rfl rfl rfl ?_
                refine W.nil ?_
                refine E.again (j + 1, A19_8, c19_8) (.cons rfl (.cons rfl (.cons rfl (.cons' rfl (slice_eq (by omega)) (.cons rfl (.cons' rfl (int_eq (by omega)) (.nil _))))))) ?_ ?_
                · exact ⟨by omega, L20_6, b20_6.cast (by rw [hstep]), (rr2.mono (hL9.trans L18_1).size).cast rfl (by rw [hstep]), nrr⟩
                · first | omega | (simp only []; omega)
              · rw [stepR_F l hs st _ (by omega)] at hsd
                have hstep := hsd
                refine WC.skip ?_
                refine E.thenN ?_
                refine WC.region ?_
                refine W.any (.move rfl) rfl rfl rfl ?_
                refine W.any (.move rfl) rfl rfl rfl ?_
                refine W.any (.idxS (nh - 1 - j) Try.underlying25 sz23 rfl rfl (hKs.2.2.isSome (j := nh - 1 - j) (by omega) (by decide)) (hi) (by omega)) rfl rfl rfl ?_
                refine W.rd (.loadK ag23 rfl (hKs.le L16_6) hsm (by decide)) rfl rfl rfl ?_
                refine W.any (.move rfl) rfl rfl rfl ?_
                refine W.ef rfl rfl rfl ?_
                refine Ef.call go79 rfl rfl (rmac_ok (l.getD (nh - 1 - j) (0, [])) hs32 w16_6 (rr.sb.cast (by omega) rfl) (by omega)) ?_
                rintro _ w20_5 ⟨rfl, h20_5⟩
                refine ⟨_, rfl, ?_⟩
                have L20_5 := L16_6.trans h20_5
                refine W.ef0 rfl rfl ?_
                refine Ef.storeAll sz23 (by simp [macB_length]) rfl rfl (bM.le h20_5) (by simp [macB_length, hfl.2]) (all_u8v _) ?_
                intro w20_6 b20_6 h20_6
                have L20_6 : Le w9_3 w20_6 := L20_5.then_ h20_6 (fun q hq => by cases hq; exact hg10_1)
                have rr2 := (rr.le h20_5).ch h20_6 (fun q hq => by cases hq; exact nrr)
                refine W.nil ?_
                refine E.blkN ?_
                refine E.thenN ?_
                refine WC.region ?_
                refine W.any (.move rfl) rfl rfl rfl ?_
                refine W.any (.sub rfl rfl (by omega)) rfl rfl rfl ?_
                refine W.any (.assign rfl) rfl rfl rfl ?_
                refine W.nil ?_
                refine E.again (j + 1, A6, c6) (.cons rfl (.cons rfl (.cons rfl (.cons rfl (.cons rfl (.cons' rfl (int_eq (by omega)) (.nil _))))))) ?_ ?_
                · exact ⟨by omega, L20_6, b20_6.cast (by rw [hstep]), (rr2.mono (hL9.trans L16_5).size).cast rfl (by rw [hstep]), nrr⟩
                · first | omega | (simp only []; omega)
            · have hend : foldR l hs (padO seed) (downs nh j) = wrapR (padO seed) [] l hs := by
                have := foldR_all l hs (padO seed) (by omega) (by omega)
                rwa [show l.length = nh by omega, show downs nh nh = downs nh j by rw [show j = nh by omega]] at this
              rw [hend] at or_ bM hfl
              refine WC.exit ?_
              refine E.thenX ?_
              refine E.thenX ?_
              refine E.blkH ?_
              refine E.thenN ?_
              refine WC.seq ?_
              refine WC.region ?_
              refine W.any (.move rfl) rfl rfl rfl ?_
              refine W.any (.idxS1 0 Try.underlying41 sz49 rfl rfl (hE.isSome (j := 0) (by omega) (by decide)) rfl (by omega)) rfl rfl rfl ?_
              refine W.rd (.loadS na49 rfl (hE.le Lm) (hfst)) rfl rfl rfl ?_
              refine W.ef rfl rfl rfl ?_
              refine Ef.call go80 rfl rfl (r8_ok _ (base_lt _) wm) ?_
              rintro _ w21_3 ⟨A3, c3, rfl, o3, h21_3⟩
              refine ⟨_, rfl, ?_⟩
              have L21_3 := Lm.trans h21_3
              refine W.any (.move rfl) rfl rfl rfl ?_
              refine W.ef rfl rfl rfl ?_
              refine Ef.append Try.underlying24 el5 rfl (o3) rfl ((or_.le h21_3).sb.src Try.underlying24 _) (by omega) (by unfold maxLen; omega) (h21_3.size) ?_
              intro A21_5 c21_5 w21_5 o21_5 h21_5 at21_5
              have L21_5 : Le w9_3 w21_5 := L21_3.then_ h21_5 (fun q hq => Nat.le_trans Lm.size (o3.row hq).1)
              have bM := (bM.le h21_3).ch h21_5 (fun he => by have := (o3.row he).1; omega)
              refine W.any (.assign rfl) rfl rfl rfl ?_
              refine W.nil ?_
              refine E.thenN ?_
              refine WC.seq ?_
              refine WC.region ?_
              refine W.any (.move rfl) rfl rfl rfl ?_
              refine W.any (.cutArr Try.underlying23 sz5 rfl) rfl rfl rfl ?_
              refine W.ef rfl rfl rfl ?_
              refine Ef.append Try.underlying24 el5 rfl (o21_5) rfl ((bM.sb hfl.2).src Try.underlying24 _) (by omega) (by unfold maxLen; omega) (Nat.le_trans h21_3.size h21_5.size) ?_
              intro A22_2 c22_2 w22_2 o22_2 h22_2 at22_2
              have L22_2 : Le w9_3 w22_2 := L21_5.then_ h22_2 (fun q hq => Nat.le_trans Lm.size (o21_5.row hq).1)
              refine W.any (.assign rfl) rfl rfl rfl ?_
              refine W.any (.assign rfl) rfl rfl rfl ?_
              refine W.nil ?_
              refine E.thenN ?_
              refine WC.ret ?_
              refine E.ret2 rfl rfl rfl ?_
              exact ⟨h0_0.trans (hL9.trans L22_2), .inl ⟨hok, A22_2, c22_2, rfl, (o22_2.mono (h0_0.trans (hL9.trans Lm)).size).cast rfl (by rw [hwr, packetB]; simp)⟩⟩
    · refine W.rdg (Any.rd (.dec (.neq rfl rfl) (decide_eq_true (by omega))) _) rfl rfl rfl (rfl) rfl rfl ?_
      refine W.any (.pickF rfl rfl rfl) rfl rfl rfl ?_
      refine W.nil ?_
      refine E.thenN ?_
      refine WC.condT rfl ?_
      refine WC.seq ?_
      refine WC.region ?_
      refine W.any (.assign rfl) rfl rfl rfl ?_
      refine W.any (.assign rfl) rfl rfl rfl ?_
      refine W.nil ?_
      refine E.thenN ?_
      refine WC.ret ?_
      refine E.thenR ?_
      refine E.ret2 rfl rfl rfl ?_
      exact ⟨h0_0.trans L1_1, .inr ⟨by rw [hopsOk_len ks hs (by omega), Bool.and_false], rfl⟩⟩
  · refine W.ef rfl rfl rfl ?_
    refine Ef.call go71 rfl rfl (rkeys_F w0_0 (hK.le (h0_0.trans LL)) hks hn (by simpa using hk)) ?_
    rintro _ w1_1 ⟨rfl, h1_1⟩
    refine ⟨_, rfl, ?_⟩
    have L1_1 := LL.trans h1_1
    refine W.any (.not rfl) rfl rfl rfl ?_
    refine W.any (.move rfl) rfl rfl rfl ?_
    refine W.skip rfl rfl rfl (rfl) rfl rfl ?_
    refine W.skip rfl rfl rfl (rfl) rfl rfl ?_
    refine W.skip rfl rfl rfl (rfl) rfl rfl ?_
    refine W.skip rfl rfl rfl (rfl) rfl rfl ?_
    refine W.skip rfl rfl rfl (rfl) rfl rfl ?_
    refine W.any (.pickT rfl rfl rfl) rfl rfl rfl ?_
    refine W.nil ?_
    refine E.thenN ?_
    refine WC.condT rfl ?_
    refine WC.seq ?_
    refine WC.region ?_
    refine W.any (.assign rfl) rfl rfl rfl ?_
    refine W.any (.assign rfl) rfl rfl rfl ?_
    refine W.nil ?_
    refine E.thenN ?_
    refine WC.ret ?_
    refine E.thenR ?_
    refine E.ret2 rfl rfl rfl ?_
    exact ⟨h0_0.trans L1_1, .inr ⟨by rw [show keysOk ks = false by simpa using hk, Bool.false_and], rfl⟩⟩
end Go.Proofs.Ytpmjdiccekkadaa
