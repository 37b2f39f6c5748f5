/- onion.Seen (layer 31): New, Once, Forget, walked. -/
import Derived.Test.YtpmjdiccekkadaaOnion
import Derived.Test.YtpmjdiccekkadaaSxm
namespace Go.Proofs.Ytpmjdiccekkadaa
open Go Go.Sx Go.Hsp
set_option maxRecDepth 20000
theorem keyT : KeyT Try.prog 23 32 := ⟨⟨_, Try.underlying23, Try.underlying5, sz5⟩⟩
/-- What is left of a map, of which some were looked at. -/
def gone (h : Int) (seen : Array Nat) (x : Ent) : Bool := seen.contains x.1 && decide (x.2.2 < h)
def lnow (l : List Ent) (h : Int) (seen : Array Nat) : List Ent := l.filter fun x => !gone h seen x
def cntG (l : List Ent) (h : Int) (seen : Array Nat) : Nat := (l.filter (gone h seen)).length
theorem cnt0 (l : List Ent) (h : Int) : cntG l h #[] = 0 := by
  unfold cntG
  rw [List.filter_eq_nil_iff.2 (fun x _ => by unfold gone; simp)]
  rfl
theorem contains_push (seen : Array Nat) (b c : Nat) : (seen.push b).contains c = (seen.contains c || decide (c = b)) := by
  rw [Bool.eq_iff_iff]
  simp only [Array.contains_eq_mem, Array.mem_push, Bool.or_eq_true, decide_eq_true_eq]
theorem nodup_inj {α β : Type} (f : α → β) : ∀ {l : List α}, (l.map f).Nodup → ∀ {x y : α}, x ∈ l → y ∈ l → f x = f y → x = y
  | [], _, _, _, hx, _, _ => by simp at hx
  | a :: l, hn, x, y, hx, hy, he => by
    simp only [List.map_cons, List.nodup_cons] at hn
    rcases List.mem_cons.1 hx with hx1 | hx1 <;> rcases List.mem_cons.1 hy with hy1 | hy1
    · rw [hx1, hy1]
    · exact absurd (by rw [← hx1, he]; exact List.mem_map_of_mem hy1) hn.1
    · exact absurd (by rw [← hy1, ← he]; exact List.mem_map_of_mem hx1) hn.1
    · exact nodup_inj f hn.2 hx1 hy1 he
theorem gone_push {k : Nat} {l : List Ent} {clock : Nat} (hw : MWf k l clock) (h : Int) (seen : Array Nat) (e : Ent) (he : e ∈ l) (x : Ent) (hx : x ∈ l) : gone h (seen.push e.1) x = (gone h seen x || (decide (x = e) && decide (e.2.2 < h))) := by
  unfold gone
  rw [contains_push]
  by_cases hxe : x = e
  · subst hxe; cases seen.contains x.1 <;> simp
  · have : ¬ x.1 = e.1 := fun hb => hxe (nodup_inj (fun x : Ent => x.1) hw.borns hx he hb)
    simp [hxe, this]
theorem lnow_del {k : Nat} {l : List Ent} {clock : Nat} (hw : MWf k l clock) (h : Int) (seen : Array Nat) (e : Ent) (he : e ∈ l) (hu : e.2.2 < h) : (lnow l h seen).filter (fun y => decide (y.2.1 ≠ e.2.1)) = lnow l h (seen.push e.1) := by
  unfold lnow
  rw [List.filter_filter]
  apply List.filter_congr
  intro x hx
  rw [gone_push hw h seen e he x hx]
  by_cases hxe : x = e
  · subst hxe; simp [hu]
  · have : ¬ x.2.1 = e.2.1 := fun hb => hxe (nodup_inj (fun x : Ent => x.2.1) hw.keys hx he hb)
    simp [hxe, this]
theorem lnow_keep {k : Nat} {l : List Ent} {clock : Nat} (hw : MWf k l clock) (h : Int) (seen : Array Nat) (e : Ent) (he : e ∈ l) (hu : ¬ e.2.2 < h) : lnow l h seen = lnow l h (seen.push e.1) := by
  unfold lnow
  apply List.filter_congr
  intro x hx
  rw [gone_push hw h seen e he x hx]
  simp [hu]
theorem cnt_keep {k : Nat} {l : List Ent} {clock : Nat} (hw : MWf k l clock) (h : Int) (seen : Array Nat) (e : Ent) (he : e ∈ l) (hu : ¬ e.2.2 < h) : cntG l h seen = cntG l h (seen.push e.1) := by
  unfold cntG
  congr 1
  apply List.filter_congr
  intro x hx
  rw [gone_push hw h seen e he x hx]
  simp [hu]
theorem count_one {α : Type} [DecidableEq α] : ∀ (l : List α) (p : α → Bool) (e : α), l.Nodup → e ∈ l → p e = false → (l.filter fun x => p x || decide (x = e)).length = (l.filter p).length + 1
  | [], _, _, _, he, _ => by simp at he
  | a :: l, p, e, hn, he, hp => by
    simp only [List.nodup_cons] at hn
    by_cases hae : a = e
    · subst hae
      have hc : (l.filter fun x => p x || decide (x = a)) = l.filter p := List.filter_congr fun x hx => by
        have : ¬ x = a := fun h => hn.1 (h ▸ hx)
        simp [this]
      simp [hp, hc]
    · have hel : e ∈ l := by rcases List.mem_cons.1 he with h | h; exact absurd h.symm hae; exact h
      have ih := count_one l p e hn.2 hel hp
      simp only [List.filter_cons, hae, decide_false, Bool.or_false]
      split <;> simp_all
theorem nodup_of_map {α β : Type} (f : α → β) : ∀ {l : List α}, (l.map f).Nodup → l.Nodup
  | [], _ => List.nodup_nil
  | a :: l, h => by
    simp only [List.map_cons, List.nodup_cons] at h ⊢
    exact ⟨fun ha => h.1 (List.mem_map_of_mem ha), nodup_of_map f h.2⟩
theorem cnt_del {k : Nat} {l : List Ent} {clock : Nat} (hw : MWf k l clock) (h : Int) (seen : Array Nat) (e : Ent) (he : e ∈ l) (hs : seen.contains e.1 = false) (hu : e.2.2 < h) : cntG l h (seen.push e.1) = cntG l h seen + 1 := by
  unfold cntG
  rw [← count_one l (gone h seen) e (nodup_of_map _ hw.borns) he (by unfold gone; rw [hs]; rfl)]
  congr 1
  apply List.filter_congr
  intro x hx
  rw [gone_push hw h seen e he x hx]
  simp [hu]
theorem unseen_push {k : Nat} {l : List Ent} {clock : Nat} (hw : MWf k l clock) (seen : Array Nat) (e : Ent) (he : e ∈ l) (hs : seen.contains e.1 = false) : (unseen l (seen.push e.1)).length < (unseen l seen).length := by
  have hn := nodup_of_map _ hw.borns
  have hc : (l.filter fun x => !(seen.push e.1).contains x.1) = (l.filter fun x => !seen.contains x.1).filter fun x => decide (x ≠ e) := by
    rw [List.filter_filter]
    apply List.filter_congr
    intro x hx
    rw [contains_push]
    by_cases hxe : x = e
    · subst hxe; simp
    · have : ¬ x.1 = e.1 := fun hb => hxe (nodup_inj (fun x : Ent => x.1) hw.borns hx he hb)
      simp [hxe, this]
  unfold unseen
  rw [hc]
  have hmem : e ∈ l.filter fun x => !seen.contains x.1 := List.mem_filter.2 ⟨he, by rw [hs]; rfl⟩
  generalize (l.filter fun x => !seen.contains x.1) = m at hmem
  induction m with
  | nil => simp at hmem
  | cons a m ih =>
    by_cases hae : a = e
    · subst hae
      have := List.length_filter_le (fun x => decide (¬ x = a)) m
      simp only [ne_eq, List.filter_cons, not_true_eq_false, decide_false, Bool.false_eq_true, if_false, List.length_cons]
      omega
    · have hel : e ∈ m := by rcases List.mem_cons.1 hmem with h | h; exact absurd h.symm hae; exact h
      have := ih hel
      simp only [ne_eq, List.filter_cons, hae, not_false_eq_true, decide_true, if_true, List.length_cons]
      simp only [ne_eq] at this
      omega
/-- All were looked at. -/
theorem all_seen (l : List Ent) (h : Int) (seen : Array Nat) (hu : unseen (lnow l h seen) seen = []) : lnow l h seen = l.filter (fun x => !decide (x.2.2 < h)) ∧ cntG l h seen = (l.filter fun x => decide (x.2.2 < h)).length := by
  have hall : ∀ x ∈ l, seen.contains x.1 = true := fun x hx => by
    by_cases hs : seen.contains x.1 = true
    · exact hs
    · have : x ∈ unseen (lnow l h seen) seen := List.mem_filter.2 ⟨List.mem_filter.2 ⟨hx, by unfold gone; rw [Bool.eq_false_iff.2 hs]; rfl⟩, by rw [Bool.eq_false_iff.2 hs]; rfl⟩
      rw [hu] at this
      simp at this
  constructor
  · unfold lnow
    apply List.filter_congr
    intro x hx
    unfold gone
    rw [hall x hx, Bool.true_and]
  · unfold cntG
    congr 1
    apply List.filter_congr
    intro x hx
    unfold gone
    rw [hall x hx, Bool.true_and]
theorem find31_mem (key : List Byte) : ∀ (l : List Ent) (i : Nat), (∃ x ∈ l, x.2.1 = key) → ∃ j u, find31 key l i = some (j, u)
  | [], _, h => by obtain ⟨x, hx, _⟩ := h; simp at hx
  | a :: l, i, h => by
    unfold find31
    by_cases hk : key = a.2.1
    · exact ⟨i, a.2.2, if_pos hk⟩
    · rw [if_neg hk]
      obtain ⟨x, hx, hxk⟩ := h
      rcases List.mem_cons.1 hx with rfl | hx
      · exact absurd hxk.symm hk
      · exact find31_mem key l (i + 1) ⟨x, hx, hxk⟩
theorem new_ok (w : World) : Calls Try.prog 34 #[] w fun e w' => ∃ gp g, e = .returned (.pointer (some ⟨gp, 0, none⟩)) ∧ w.heap.size ≤ g ∧ g < gp ∧ Blk w' gp 123 #[.map (some g)] ∧ Mp w' 32 g [] 0 ∧ Le w w' := by
  refine enter Try.func34 rfl rfl ?_
  have L0 := Le.refl w
  refine WC.seq ?_
  refine WC.region ?_
  refine W.any (.assign rfl) rfl rfl rfl ?_
  refine W.nil ?_
  refine E.thenN ?_
  refine WC.seq ?_
  refine WC.region ?_
  refine W.ef rfl rfl rfl ?_
  refine Ef.makeMap 32 ?_
  intro g1 w1_0 hg1 M1 h1_0
  have L1_0 := L0.trans h1_0
  refine W.any (.buildF pl123 z123 rfl (show Instr.fill _ _ _ = some #[.map (some g1)] from rfl)) rfl rfl rfl ?_
  refine W.ef rfl rfl rfl ?_
  refine Ef.boxA rfl ?_
  intro g1_2 w1_2 hg1_2 b1_2 h1_2
  have L1_2 := L1_0.trans h1_2
  have hlt1 := M1.lt
  have M1 := M1.le h1_2
  refine W.any (.assign rfl) rfl rfl rfl ?_
  refine W.nil ?_
  refine E.thenN ?_
  refine WC.ret ?_
  refine E.ret1 rfl rfl ?_
  exact ⟨g1_2, g1, rfl, hg1, by omega, b1_2, M1, L1_2⟩

theorem once_old (key : List Byte) (hk : key.length = 32) (u : Int) {gp g clock : Nat} {l : List Ent} (w : World) (hB : Blk w gp 123 #[.map (some g)]) (hM : Mp w 32 g l clock) {j : Nat} {v : Int} (hf : find31 key l 0 = some (j, v)) : Calls Try.prog 38 #[.pointer (some ⟨gp, 0, none⟩), .agg (key.map u8v).toArray, .int .i64 u] w fun e w' => e = .returned (.int .i64 17) ∧ Le w w' := by
  refine enter Try.func38 rfl rfl ?_
  have L0 := Le.refl w
  refine WC.seq ?_
  refine WC.region ?_
  refine W.ef rfl rfl rfl ?_
  refine Ef.boxA rfl ?_
  intro g0_0 w0_0 hg0_0 b0_0 h0_0
  have L0_0 := L0.trans h0_0
  refine W.any (.assign rfl) rfl rfl rfl ?_
  refine W.nil ?_
  refine E.thenN ?_
  refine WC.seq ?_
  refine WC.seq ?_
  refine WC.draw [0, 1, 2, 3, 4, 5, 6, 7, 8, 9, 10] mixed (by kernel_rfl) ?_
  intro w1 d1
  have L1 := L0_0.trans d1
  refine G.any rfl rfl (.move rfl) rfl rfl rfl ?_
  refine G.any rfl rfl (.nilCheck rfl) rfl rfl rfl ?_
  refine G.any rfl rfl (.field0 fa123_0 rfl) rfl rfl rfl ?_
  refine G.rd rfl rfl (.loadB na121 rfl (hB.le L1) (rfl)) rfl rfl rfl ?_
  refine G.rd rfl rfl (.loadAll ag23 (by simp [hk]) rfl (b0_0.le d1)) rfl rfl rfl ?_
  refine G.rd rfl rfl (.as (Rd.lookup Try.underlying121 keyT z3 rfl rfl hk (hM.le L1)) (show _ = Value.tuple #[.int .i64 v, .bool true] by rw [hf]; rfl)) rfl rfl rfl ?_
  refine G.any rfl rfl (.move rfl) rfl rfl rfl ?_
  refine G.any rfl rfl (.extract rfl rfl) rfl rfl rfl ?_
  refine G.any rfl rfl (.extract rfl rfl) rfl rfl rfl ?_
  refine G.any rfl rfl (.assign rfl) rfl rfl rfl ?_
  refine G.any rfl rfl (.assign rfl) rfl rfl rfl ?_
  refine G.nil ?_
  refine E.thenN ?_
  refine WC.seq ?_
  refine WC.region ?_
  refine W.any (.move rfl) rfl rfl rfl ?_
  refine W.nil ?_
  refine E.thenN ?_
  refine WC.condT rfl ?_
  refine WC.seq ?_
  refine WC.region ?_
  refine W.any (.assign rfl) rfl rfl rfl ?_
  refine W.nil ?_
  refine E.thenN ?_
  refine WC.ret ?_
  refine E.thenR ?_
  refine E.ret1 rfl rfl ?_
  exact ⟨rfl, L1⟩

theorem once_new (key : List Byte) (hk : key.length = 32) (u : Int) {gp g clock : Nat} {l : List Ent} (w : World) (hB : Blk w gp 123 #[.map (some g)]) (hM : Mp w 32 g l clock) (hf : find31 key l 0 = none) : Calls Try.prog 38 #[.pointer (some ⟨gp, 0, none⟩), .agg (key.map u8v).toArray, .int .i64 u] w fun e w' => e = .returned (.int .i64 0) ∧ Mp w' 32 g (l ++ [(clock, key, u)]) (clock + 1) ∧ Ch w w' (some g) := by
  refine enter Try.func38 rfl rfl ?_
  have L0 := Le.refl w
  refine WC.seq ?_
  refine WC.region ?_
  refine W.ef rfl rfl rfl ?_
  refine Ef.boxA rfl ?_
  intro g0_0 w0_0 hg0_0 b0_0 h0_0
  have L0_0 := L0.trans h0_0
  refine W.any (.assign rfl) rfl rfl rfl ?_
  refine W.nil ?_
  refine E.thenN ?_
  refine WC.seq ?_
  refine WC.seq ?_
  refine WC.draw [0, 1, 2, 3, 4, 5, 6, 7, 8, 9, 10] mixed (by kernel_rfl) ?_
  intro w1 d1
  have L1 := L0_0.trans d1
  refine G.any rfl rfl (.move rfl) rfl rfl rfl ?_
  refine G.any rfl rfl (.nilCheck rfl) rfl rfl rfl ?_
  refine G.any rfl rfl (.field0 fa123_0 rfl) rfl rfl rfl ?_
  refine G.rd rfl rfl (.loadB na121 rfl (hB.le L1) (rfl)) rfl rfl rfl ?_
  refine G.rd rfl rfl (.loadAll ag23 (by simp [hk]) rfl (b0_0.le d1)) rfl rfl rfl ?_
  refine G.rd rfl rfl (.as (Rd.lookup Try.underlying121 keyT z3 rfl rfl hk (hM.le L1)) (show _ = Value.tuple #[.int .i64 0, .bool false] by rw [hf]; rfl)) rfl rfl rfl ?_
  refine G.any rfl rfl (.move rfl) rfl rfl rfl ?_
  refine G.any rfl rfl (.extract rfl rfl) rfl rfl rfl ?_
  refine G.any rfl rfl (.extract rfl rfl) rfl rfl rfl ?_
  refine G.any rfl rfl (.assign rfl) rfl rfl rfl ?_
  refine G.any rfl rfl (.assign rfl) rfl rfl rfl ?_
  refine G.nil ?_
  refine E.thenN ?_
  refine WC.seq ?_
  refine WC.region ?_
  refine W.any (.move rfl) rfl rfl rfl ?_
  refine W.nil ?_
  refine E.thenN ?_
  refine WC.condF rfl ?_
  refine WC.skip ?_
  refine E.thenN ?_
  refine WC.seq ?_
  refine WC.draw [0, 1, 2, 3, 4, 5, 6] mixed (by kernel_rfl) ?_
  intro w4 d4
  have L4 := L1.trans d4
  refine G.any rfl rfl (.move rfl) rfl rfl rfl ?_
  refine G.any rfl rfl (.nilCheck rfl) rfl rfl rfl ?_
  refine G.any rfl rfl (.field0 fa123_0 rfl) rfl rfl rfl ?_
  refine G.rd rfl rfl (.loadB na121 rfl (hB.le L4) (rfl)) rfl rfl rfl ?_
  refine G.rd rfl rfl (.loadAll ag23 (by simp [hk]) rfl (b0_0.le (d1.trans d4))) rfl rfl rfl ?_
  refine G.any rfl rfl (.move rfl) rfl rfl rfl ?_
  refine G.ef0 rfl rfl rfl rfl ?_
  refine Ef.insert Try.underlying121 keyT rfl rfl rfl hk (hM.le L4) hf ?_
  intro w4_6 M4 h4_6
  refine ⟨fun h => absurd h (ne_true_of_eq_false (by kernel_rfl)), ?_⟩
  refine G.nil ?_
  refine E.thenN ?_
  refine WC.seq ?_
  refine WC.region ?_
  refine W.any (.assign rfl) rfl rfl rfl ?_
  refine W.nil ?_
  refine E.thenN ?_
  refine WC.ret ?_
  refine E.ret1 rfl rfl ?_
  exact ⟨rfl, M4, ((L4).ch _).trans h4_6⟩

set_option maxHeartbeats 1000000 in
theorem forget_ok (h : Int) {gp g clock : Nat} {l : List Ent} (w : World) (hB : Blk w gp 123 #[.map (some g)]) (hne : g ≠ gp) (hM : Mp w 32 g l clock) (hl : l.length ≤ 1000000) : Calls Try.prog 36 #[.pointer (some ⟨gp, 0, none⟩), .int .i64 h] w fun e w' => e = .returned (.int .i64 ((l.filter fun x => decide (x.2.2 < h)).length : Nat)) ∧ Mp w' 32 g (l.filter fun x => !decide (x.2.2 < h)) clock ∧ Ch w w' (some g) := by
  refine enter Try.func36 rfl rfl ?_
  have L0 := Le.refl w
  refine WC.seq ?_
  refine WC.region ?_
  refine W.any (.assign rfl) rfl rfl rfl ?_
  refine W.nil ?_
  refine E.thenN ?_
  refine WC.seq ?_
  refine WC.seq ?_
  refine WC.region ?_
  refine W.any (.move rfl) rfl rfl rfl ?_
  refine W.any (.nilCheck rfl) rfl rfl rfl ?_
  refine W.any (.field0 fa123_0 rfl) rfl rfl rfl ?_
  refine W.rd (.loadB na121 rfl (hB.le L0) (rfl)) rfl rfl rfl ?_
  refine W.ef rfl rfl rfl ?_
  refine Ef.range Try.underlying121 rfl (hM.le L0) ?_
  intro r w1_4 hr R1 h1_4
  have L1_4 := L0.trans h1_4
  have hrg : r ≠ g ∧ r ≠ gp := by have := hM.lt; have := hB.lt; have := L0.size; exact ⟨by omega, by omega⟩
  refine W.nil ?_
  refine E.thenN ?_
  refine WC.block ?_
  refine WC.loop (ι := Array Nat) (fun seen => [(0, .pointer (some ⟨gp, 0, none⟩)), (1, .int .i64 h), (4, .int .i64 ((cntG l h seen : Nat) : Int)), (11, .pointer (some ⟨r, 0, none⟩))]) (fun seen wl => Ch w wl (some g) ∧ Blk wl gp 123 #[.map (some g)] ∧ Mp wl 32 g (lnow l h seen) clock ∧ wl.heap[r]? = some (.mapIter (some g) clock seen clock)) (fun seen => (unseen l seen).length) #[] ?_ ?_ ?_
  · exact .cons rfl (.cons rfl (.cons' rfl (int_eq (by rw [cnt0]; rfl)) (.cons rfl (.nil _))))
  · exact ⟨L1_4.ch _, hB.le L1_4, by have := hM.le L1_4; rw [show lnow l h #[] = l from by unfold lnow gone; simp]; exact this, R1⟩
  · rintro seen wl ⟨hC, hBl, hMl, hR⟩
    have LQ := Le.refl wl
    have hcl : cntG l h seen ≤ l.length := List.length_filter_le _ _
    refine WC.seq ?_
    refine WC.region ?_
    refine W.ef rfl rfl rfl ?_
    refine Ef.next rfl hMl hR ?_ ?_
    · intro hun
      refine W.any (.extract rfl rfl) rfl rfl rfl ?_
      refine W.nil ?_
      refine E.thenN ?_
      refine WC.seq ?_
      refine WC.condF rfl ?_
      refine WC.exit ?_
      refine E.thenX ?_
      refine E.thenX ?_
      refine E.blkH ?_
      refine E.thenN ?_
      refine WC.seq ?_
      refine WC.region ?_
      refine W.any (.move rfl) rfl rfl rfl ?_
      refine W.any (.assign rfl) rfl rfl rfl ?_
      refine W.nil ?_
      refine E.thenN ?_
      refine WC.ret ?_
      refine E.ret1 rfl rfl ?_
      exact ⟨by rw [(all_seen l h seen hun).2], by rw [← (all_seen l h seen hun).1]; exact hMl, hC⟩
    · intro e w2_0 hem R2 h2_0
      have hM2 := hMl.ch h2_0 (by simp; exact hrg.1)
      have hB2 := hBl.ch h2_0 (by simp; exact hrg.2)
      have C2 := hC.then_ h2_0 (fun q hq => by cases hq; exact .inl (by have := L0.size; omega))
      have hml : e ∈ lnow l h seen := (List.mem_filter.1 hem).1
      have hel : e ∈ l := (List.mem_filter.1 hml).1
      have hes : seen.contains e.1 = false := by have := (List.mem_filter.1 hem).2; simpa using this
      have he32 := hM.2.len e hel
      have L2 := Le.refl w2_0
      refine W.any (.extract rfl rfl) rfl rfl rfl ?_
      refine W.nil ?_
      refine E.thenN ?_
      refine WC.seq ?_
      refine WC.condT rfl ?_
      refine WC.skip ?_
      refine E.thenN ?_
      refine WC.block ?_
      refine WC.seq ?_
      refine WC.region ?_
      refine W.ef rfl rfl rfl ?_
      refine Ef.entry rfl hM2 R2 hml ?_
      have hdummy := trivial
      refine W.any (.extract rfl rfl) rfl rfl rfl ?_
      refine W.any (.extract rfl rfl) rfl rfl rfl ?_
      refine W.ef rfl rfl rfl ?_
      refine Ef.allocA z23 ?_
      intro g3_3 w3_3 hg3_3 b3_3 h3_3
      have L3_3 := L2.trans h3_3
      refine W.ef0 rfl rfl ?_
      refine Ef.storeAll sz23 (by simp [he32]) rfl rfl (b3_3) (by simp [he32]) (all_u8v _) ?_
      intro w3_4 b3_4 h3_4
      have L3_4 : Le w2_0 w3_4 := L3_3.then_ h3_4 (fun q hq => by cases hq; exact hg3_3)
      have M4 := hM2.le L3_4
      have B4 := hB2.le L3_4
      have C4 := C2.trans (L3_4.ch _)
      have R4 := ((L3_4.ch none).block r (Array.getElem?_eq_some_iff.1 R2).1 (by simp)).trans R2
      refine W.any (.assign rfl) rfl rfl rfl ?_
      refine W.nil ?_
      refine E.thenN ?_
      refine WC.seq ?_
      refine WC.region ?_
      refine W.any (.move rfl) rfl rfl rfl ?_
      refine W.any (.move rfl) rfl rfl rfl ?_
      refine W.any (.lss rfl rfl) rfl rfl rfl ?_
      refine W.nil ?_
      refine E.thenN ?_
      refine WC.cond rfl (fun hu => ?_) (fun hu => ?_)
      · obtain ⟨j, v, hfj⟩ := find31_mem e.2.1 (lnow l h seen) 0 ⟨e, hml, rfl⟩
        refine WC.seq ?_
        refine WC.draw [0, 1, 2, 3, 4, 5] mixed (by kernel_rfl) ?_
        intro w5 d5
        have L5 := L3_4.trans d5
        refine G.any rfl rfl (.move rfl) rfl rfl rfl ?_
        refine G.any rfl rfl (.nilCheck rfl) rfl rfl rfl ?_
        refine G.any rfl rfl (.field0 fa123_0 rfl) rfl rfl rfl ?_
        refine G.rd rfl rfl (.loadB na121 rfl (B4.le d5) (rfl)) rfl rfl rfl ?_
        refine G.rd rfl rfl (.loadAll ag23 (by simp [he32]) rfl (b3_4.le d5)) rfl rfl rfl ?_
        refine G.ef0 rfl rfl rfl rfl ?_
        refine Ef.delete Try.underlying121 keyT rfl rfl he32 (M4.le d5) hfj ?_
        intro w5_5 M5 h5_5
        refine ⟨fun h => absurd h (ne_true_of_eq_false (by kernel_rfl)), ?_⟩
        have C6 := (C4.trans (d5.ch _)).then_ h5_5 (fun q hq => .inr hq)
        have B6 := (B4.le d5).ch h5_5 (by simp; exact hne)
        have R5 := ((d5.ch none).block r (Array.getElem?_eq_some_iff.1 R4).1 (by simp)).trans R4
        have R6 := (h5_5.block r (Array.getElem?_eq_some_iff.1 R5).1 (by simp; exact hrg.1)).trans R5
        refine G.nil ?_
        refine E.thenN ?_
        refine WC.region ?_
        refine W.any (.move rfl) rfl rfl rfl ?_
        refine W.any (.add rfl rfl (by omega)) rfl rfl rfl ?_
        refine W.any (.assign rfl) rfl rfl rfl ?_
        refine W.nil ?_
        refine E.blkN ?_
        refine E.again (seen.push e.1) (.cons rfl (.cons rfl (.cons' rfl (int_eq (by rw [cnt_del hM.2 h seen e hel hes hu]; omega)) (.cons rfl (.nil _))))) ?_ ?_
        · exact ⟨C6, B6, by rw [← lnow_del hM.2 h seen e hel hu]; exact M5, R6⟩
        · exact unseen_push hM.2 seen e hel hes
      · refine WC.skip ?_
        refine E.blkN ?_
        refine E.again (seen.push e.1) (.cons rfl (.cons rfl (.cons' rfl (int_eq (by rw [← cnt_keep hM.2 h seen e hel hu])) (.cons rfl (.nil _))))) ?_ ?_
        · exact ⟨C4, B4, by rw [← lnow_keep hM.2 h seen e hel hu]; exact M4, R4⟩
        · exact unseen_push hM.2 seen e hel hes
end Go.Proofs.Ytpmjdiccekkadaa
