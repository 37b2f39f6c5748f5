/- What the program's onions compute, in plain functions on lists of bytes, and that what was wrapped is peeled. No program in sight. -/
import Derived.Test.YtfgakofjkldcjaaSsp
import Derived.Test.YtfgakofjkldcjaaNum3
namespace Go.Osp
open Go.Hsp Go.Num
abbrev Hop := Int × Int × Int × Int × Nat × Nat
abbrev Stop := Nat × List Byte
def nShared : List Byte := [115, 104, 97, 114, 101, 100]
def nBlind : List Byte := [98, 108, 105, 110, 100]
def nRho : List Byte := [114, 104, 111]
def nMac : List Byte := [109, 97, 99]
def nOnion : List Byte := [111, 110, 105, 111, 110]
def nPad : List Byte := [112, 97, 100]
/-- A number as 64 bits without a sign, and back. -/
def usg (i : Int) : Nat := (i % 18446744073709551616).toNat
def sgn (n : Nat) : Int := if n < 9223372036854775808 then (n : Int) else (n : Int) - 18446744073709551616
theorem usg_lt (i : Int) : usg i < 18446744073709551616 := by unfold usg; omega
theorem sgn_usg (i : Int) (h : -9223372036854775808 ≤ i ∧ i ≤ 9223372036854775807) : sgn (usg i) = i := by
  unfold sgn usg
  split <;> omega
def layB (h : Hop) : List Byte := be8 (usg h.1) ++ be8 (usg h.2.1) ++ be8 (usg h.2.2.1) ++ be8 (usg h.2.2.2.1) ++ be8 h.2.2.2.2.1 ++ be8 h.2.2.2.2.2
theorem layB_length (h : Hop) : (layB h).length = 48 := rfl
def numTo (n : Nat) : List Byte → Nat
  | [] => n
  | c :: l => numTo (n * 256 + c.toNat) l
def numB (b : List Byte) : Nat := numTo 0 (b.take 8)
theorem numTo_lt : ∀ (l : List Byte) (n k : Nat), n < 256 ^ k → numTo n l < 256 ^ (k + l.length)
  | [], n, k, h => h
  | c :: l, n, k, h => by
    have := numTo_lt l (n * 256 + c.toNat) (k + 1) (by rw [Nat.pow_succ]; have := c.isLt; omega)
    rw [List.length_cons, show k + (l.length + 1) = k + 1 + l.length by omega]
    exact this
theorem numB_lt (b : List Byte) : numB b < 18446744073709551616 := by
  have h := numTo_lt (b.take 8) 0 0 (by decide)
  have h2 : 256 ^ (0 + (b.take 8).length) ≤ 256 ^ 8 := Nat.pow_le_pow_right (by decide) (by rw [List.length_take]; omega)
  have h3 : (256 : Nat) ^ 8 = 18446744073709551616 := by decide
  unfold numB; omega
theorem numB_be8 (n : Nat) (h : n < 18446744073709551616) (l : List Byte) : numB (be8 n ++ l) = n := by
  rw [numB, List.take_left' (be8_length n)]
  simp only [be8, List.map_cons, List.map_nil, numTo, BitVec.toNat_ofNat, Nat.shiftRight_eq_div_pow]
  omega
theorem be8_numB (b : List Byte) (h : b.length = 8) : be8 (numB b) = b := by
  match b, h with
  | [a0, a1, a2, a3, a4, a5, a6, a7], _ =>
    have h0 := a0.isLt; have h1 := a1.isLt; have h2 := a2.isLt; have h3 := a3.isLt
    have h4 := a4.isLt; have h5 := a5.isLt; have h6 := a6.isLt; have h7 := a7.isLt
    simp only [numB, List.take, numTo, be8, List.map_cons, List.map_nil, Nat.shiftRight_eq_div_pow, List.cons.injEq, and_true]
    refine ⟨?_, ?_, ?_, ?_, ?_, ?_, ?_, ?_⟩ <;> apply BitVec.eq_of_toNat_eq <;> rw [BitVec.toNat_ofNat] <;> omega
def readH (b : List Byte) : Hop := (sgn (numB b), sgn (numB (b.drop 8)), sgn (numB (b.drop 16)), sgn (numB (b.drop 24)), numB (b.drop 32), numB (b.drop 40))
def mayB (h : Hop) : Bool := (decide (-1 ≤ h.1 ∧ h.1 ≤ 11) && decide (0 ≤ h.2.1 ∧ h.2.1 ≤ 1048575) && decide (0 ≤ h.2.2.1 ∧ h.2.2.1 ≤ 1125899906842624) && decide (0 ≤ h.2.2.2.1 ∧ h.2.2.2.1 ≤ 1048576)) && (decide (h.2.2.2.2.2 < q) && (decide (h.2.2.2.2.1 = 0) || right h.2.2.2.2.1))
def I64 (i : Int) : Prop := -9223372036854775808 ≤ i ∧ i ≤ 9223372036854775807
def HopOk (h : Hop) : Prop := I64 h.1 ∧ I64 h.2.1 ∧ I64 h.2.2.1 ∧ I64 h.2.2.2.1 ∧ h.2.2.2.2.1 < 18446744073709551616 ∧ h.2.2.2.2.2 < 18446744073709551616
theorem sgn_ok (n : Nat) (h : n < 18446744073709551616) : I64 (sgn n) := by
  unfold I64 sgn
  split <;> omega
theorem readH_ok (b : List Byte) : HopOk (readH b) := ⟨sgn_ok _ (numB_lt _), sgn_ok _ (numB_lt _), sgn_ok _ (numB_lt _), sgn_ok _ (numB_lt _), numB_lt _, numB_lt _⟩
theorem readH_lay (h : Hop) (ho : HopOk h) (l : List Byte) : readH (layB h ++ l) = h := by
  obtain ⟨n, c, a, e, p, b⟩ := h
  obtain ⟨h1, h2, h3, h4, h5, h6⟩ := ho
  simp only [readH, layB, List.append_assoc]
  have d : ∀ (x : Nat) (m : List Byte) (k : Nat), (be8 x ++ m).drop (8 + k) = m.drop k := fun x m k => by
    rw [← List.drop_drop, List.drop_left' (be8_length x)]
  rw [d _ _ 0, d _ _ 8, d _ _ 0, d _ _ 16, d _ _ 8, d _ _ 0, d _ _ 24, d _ _ 16, d _ _ 8, d _ _ 0, d _ _ 32, d _ _ 24, d _ _ 16, d _ _ 8, d _ _ 0]
  simp only [List.drop_zero]
  rw [numB_be8 _ (usg_lt _), numB_be8 _ (usg_lt _), numB_be8 _ (usg_lt _), numB_be8 _ (usg_lt _), numB_be8 _ h5, numB_be8 _ h6, sgn_usg _ h1, sgn_usg _ h2, sgn_usg _ h3, sgn_usg _ h4]
def sharedB (p : Nat) : List Byte := tag nShared [be8 p]
theorem sharedB_length (p : Nat) : (sharedB p).length = 32 := tag_length _ _
def blindB (s : Stop) : Nat := fromB (tag nBlind [be8 s.1, s.2])
def rho (s : Stop) (n : Nat) : List Byte := stream (tag nRho [s.2]) n
theorem rho_length (s : Stop) (n : Nat) : (rho s n).length = n := stream_length _ _
def macB (s : Stop) (b : List Byte) : List Byte := tag nMac [s.2, b]
theorem macB_length (s : Stop) (b : List Byte) : (macB s b).length = 32 := tag_length _ _
def startX (seed : List Byte) : Nat := fromB (tag nOnion [seed])
def padO (seed : List Byte) : List Byte := stream (tag nPad [seed]) 640
/-- The first stop of a key and an exponent. -/
def stopB (x k : Nat) : Stop := (base x, sharedB (scale k x))
def nextX (x k : Nat) : Nat := mulS x (blindB (stopB x k))
def wayB : Nat → List Nat → List Stop
  | _, [] => []
  | x, k :: ks => stopB x k :: wayB (nextX x k) ks
theorem wayB_length : ∀ (ks : List Nat) (x : Nat), (wayB x ks).length = ks.length
  | [], _ => rfl
  | _ :: ks, _ => by simp [wayB, wayB_length ks]
def keyOk (k : Nat) : Bool := decide (k ≠ 1) && right k
def keysOk (ks : List Nat) : Bool := decide (1 ≤ ks.length) && decide (ks.length ≤ 8) && ks.all keyOk
def zeros (n : Nat) : List Byte := List.replicate n 0
theorem zeros_length (n : Nat) : (zeros n).length = n := List.length_replicate
/-- What the hops ahead have added. -/
def fillS (f : List Byte) (s : Stop) : List Byte := xorB (f ++ zeros 80) ((rho s 720).drop (720 - (f.length + 80)))
theorem fillS_length (f : List Byte) (s : Stop) (h : f.length + 80 ≤ 720) : (fillS f s).length = f.length + 80 := by
  rw [fillS, xorB_length _ _ (by rw [List.length_append, zeros_length, List.length_drop, rho_length]; omega), List.length_drop, rho_length]; omega
def fillTo : List Byte → List Stop → List Byte
  | f, [] => f
  | f, s :: l => fillTo (fillS f s) l
def filler (l : List Stop) : List Byte := fillTo [] (l.take (l.length - 1))
theorem fillTo_append : ∀ (l m : List Stop) (f : List Byte), fillTo f (l ++ m) = fillTo (fillTo f l) m
  | [], _, _ => rfl
  | _ :: l, m, _ => fillTo_append l m _
theorem fillTo_length : ∀ (l : List Stop) (f : List Byte), f.length + 80 * l.length ≤ 720 → (fillTo f l).length = f.length + 80 * l.length
  | [], _, _ => rfl
  | s :: l, f, h => by
    rw [List.length_cons] at h ⊢
    have h1 := fillS_length f s (by omega)
    rw [fillTo, fillTo_length l _ (by omega)]
    omega
def put (r f : List Byte) : List Byte := r.take (r.length - f.length) ++ f
/-- One part laid ahead of a route. -/
def layer (s : Stop) (h : Hop) (m r : List Byte) : List Byte := xorB (layB h ++ m ++ r.take 560) (rho s 640)
theorem layer_length (s : Stop) (h : Hop) (m r : List Byte) (hm : m.length = 32) (hr : r.length = 640) : (layer s h m r).length = 640 := by
  rw [layer, xorB_length _ _ (by simp [layB_length, rho_length, hm, hr]), rho_length]
/-- The route and its mac from a stop on: pad, filler so far, stops, hops. -/
def wrapR (pad : List Byte) : List Byte → List Stop → List Hop → List Byte × List Byte
  | f, [s], h :: _ => (put (layer s h (zeros 32) pad) f, macB s (put (layer s h (zeros 32) pad) f))
  | f, s :: l, h :: hs => (layer s h (wrapR pad (fillS f s) l hs).2 (wrapR pad (fillS f s) l hs).1, macB s (layer s h (wrapR pad (fillS f s) l hs).2 (wrapR pad (fillS f s) l hs).1))
  | _, _, _ => (pad, zeros 32)
theorem wrapR_one (pad f : List Byte) (s : Stop) (h : Hop) (hs : List Hop) : wrapR pad f [s] (h :: hs) = (put (layer s h (zeros 32) pad) f, macB s (put (layer s h (zeros 32) pad) f)) := rfl
theorem wrapR_more (pad f : List Byte) (s t : Stop) (l : List Stop) (h : Hop) (hs : List Hop) : wrapR pad f (s :: t :: l) (h :: hs) = (layer s h (wrapR pad (fillS f s) (t :: l) hs).2 (wrapR pad (fillS f s) (t :: l) hs).1, macB s (layer s h (wrapR pad (fillS f s) (t :: l) hs).2 (wrapR pad (fillS f s) (t :: l) hs).1)) := rfl
theorem put_length (r f : List Byte) (h : f.length ≤ r.length) : (put r f).length = r.length := by simp [put]; omega
theorem wrapR_mac (pad : List Byte) : ∀ (l : List Stop) (hs : List Hop) (f : List Byte) (s : Stop), (s :: l).length = hs.length → (wrapR pad f (s :: l) hs).2 = macB s (wrapR pad f (s :: l) hs).1
  | [], [_], _, _, _ => rfl
  | _ :: _, _ :: _ :: _, _, _, _ => rfl
  | [], [], _, _, h => by simp at h
  | _ :: _, [], _, _, h => by simp at h
  | _ :: _, [_], _, _, h => by simp at h
  | [], _ :: _ :: _, _, _, h => by simp at h
theorem wrapR_length (pad : List Byte) (hp : pad.length = 640) : ∀ (l : List Stop) (hs : List Hop) (f : List Byte), l.length = hs.length → f.length + 80 * l.length ≤ 640 → (wrapR pad f l hs).1.length = 640 ∧ (wrapR pad f l hs).2.length = 32
  | [], [], _, _, _ => ⟨hp, zeros_length _⟩
  | [s], [h], f, _, hl => by
    rw [wrapR_one]
    refine ⟨?_, macB_length _ _⟩
    have h1 := layer_length s h (zeros 32) pad (zeros_length _) hp
    simp only [List.length_cons, List.length_nil] at hl
    rw [put_length _ _ (by omega), h1]
  | s :: t :: l, h :: h' :: hs, f, he, hl => by
    simp only [List.length_cons] at hl he
    have h1 := fillS_length f s (by omega)
    obtain ⟨h2, h3⟩ := wrapR_length pad hp (t :: l) (h' :: hs) (fillS f s) (by simp only [List.length_cons]; omega) (by simp only [List.length_cons]; omega)
    rw [wrapR_more]
    exact ⟨layer_length _ _ _ _ h3 h2, macB_length _ _⟩
  | [], _ :: _, _, he, _ => by simp at he
  | _ :: _, [], _, he, _ => by simp at he
  | [_], _ :: _ :: _, _, he, _ => by simp at he
  | _ :: _ :: _, [_], _, he, _ => by simp at he
theorem stream_take (key : List Byte) (a b : Nat) (h : a ≤ b) : (stream key b).take a = stream key a := by
  have pre : ∀ i j, i ≤ j → (streamTo key j).take (32 * i) = streamTo key i := by
    intro i j hij
    induction j with
    | zero => have : i = 0 := by omega
              subst this; rfl
    | succ j ih =>
      by_cases he : i = j + 1
      · subst he; exact List.take_of_length_le (by rw [streamTo_length]; exact Nat.le_refl _)
      · rw [streamTo_succ, List.take_append_of_le_length (by rw [streamTo_length]; omega), ih (by omega)]
  unfold stream
  rw [← pre ((a + 31) / 32) ((b + 31) / 32) (by omega), List.take_take, List.take_take]
  congr 1
  omega
theorem rho_take (s : Stop) (a b : Nat) (h : a ≤ b) : (rho s b).take a = rho s a := stream_take _ a b h
theorem xorB_take (a b : List Byte) (n : Nat) : (xorB a b).take n = xorB (a.take n) (b.take n) := List.take_zipWith
theorem xorB_drop (a b : List Byte) (n : Nat) : (xorB a b).drop n = xorB (a.drop n) (b.drop n) := List.drop_zipWith
theorem xorB_append (a b c d : List Byte) (h : a.length = c.length) : xorB (a ++ b) (c ++ d) = xorB a c ++ xorB b d := List.zipWith_append h
theorem xorB_cancel (a s : List Byte) (h : a.length = s.length) : xorB (xorB a s) s = a := by
  apply List.ext_getElem (by simp [xorB, h])
  intro i h1 h2
  simp only [xorB, List.getElem_zipWith, BitVec.xor_assoc, BitVec.xor_self, BitVec.xor_zero]
theorem xorB_zeros (n : Nat) (s : List Byte) (h : s.length = n) : xorB (zeros n) s = s := by
  subst h
  apply List.ext_getElem (by simp [xorB, zeros])
  intro i h1 h2
  simp [xorB, zeros]
/-- The end of a route is what was filled in. -/
theorem wrapR_tail (pad : List Byte) (hp : pad.length = 640) : ∀ (l : List Stop) (hs : List Hop) (f : List Byte), l ≠ [] → l.length = hs.length → f.length + 80 * l.length ≤ 640 → (wrapR pad f l hs).1.drop (640 - f.length) = f
  | [], _, _, hn, _, _ => absurd rfl hn
  | [s], [h], f, _, _, hl => by
    rw [wrapR_one]
    have h1 := layer_length s h (zeros 32) pad (zeros_length _) hp
    simp only [List.length_cons, List.length_nil] at hl
    simp only [put, h1]
    rw [List.drop_left' (by rw [List.length_take, h1]; omega)]
  | s :: t :: l, h :: h' :: hs, f, _, he, hl => by
    simp only [List.length_cons] at hl he
    have h1 := fillS_length f s (by omega)
    have hl2 := wrapR_length pad hp (t :: l) (h' :: hs) (fillS f s) (by simp only [List.length_cons]; omega) (by simp only [List.length_cons]; omega)
    have ih := wrapR_tail pad hp (t :: l) (h' :: hs) (fillS f s) (by simp) (by simp only [List.length_cons]; omega) (by simp only [List.length_cons]; omega)
    rw [wrapR_more]
    generalize wrapR pad (fillS f s) (t :: l) (h' :: hs) = rm at *
    simp only [layer]
    rw [xorB_drop, List.drop_append, List.drop_of_length_le (by simp [layB_length, hl2.2]; omega), List.nil_append, List.length_append, layB_length, hl2.2]
    have e1 : (rm.1.take 560).drop (640 - f.length - (48 + 32)) = (fillS f s).take f.length := by
      rw [List.drop_take, ← ih, h1, show 640 - f.length - (48 + 32) = 640 - (f.length + 80) by omega, show 560 - (640 - (f.length + 80)) = f.length by omega]
    rw [e1, fillS, xorB_take, List.take_left, List.take_drop, show 720 - (f.length + 80) + f.length = 640 by omega]
    rw [show 720 - (f.length + 80) = 640 - f.length by omega, rho_take s 640 720 (by decide), xorB_cancel _ _ (by rw [List.length_drop, rho_length]; omega)]
  | [_], [], _, _, he, _ => by simp at he
  | _ :: _, [], _, _, he, _ => by simp at he
  | [_], _ :: _ :: _, _, _, he, _ => by simp at he
  | _ :: _ :: _, [_], _, _, he, _ => by simp at he
/-- All that is seen by who peels a route at a stop. -/
def opened (s : Stop) (r : List Byte) : List Byte := xorB (r ++ zeros 80) (rho s 720)
theorem opened_length (s : Stop) (r : List Byte) (h : r.length = 640) : (opened s r).length = 720 := by
  rw [opened, xorB_length _ _ (by rw [List.length_append, zeros_length, rho_length, h]), rho_length]
theorem rho_split (s : Stop) : rho s 720 = rho s 640 ++ (rho s 720).drop 640 := by
  rw [← rho_take s 640 720 (by decide), List.take_append_drop]
theorem opened_layer (s : Stop) (h : Hop) (m r : List Byte) (hm : m.length = 32) (hr : r.length = 640) : opened s (layer s h m r) = layB h ++ m ++ r.take 560 ++ (rho s 720).drop 640 := by
  rw [opened]
  conv => lhs; rw [rho_split]
  rw [xorB_append _ _ _ _ (by rw [layer_length s h m r hm hr, rho_length]), xorB_zeros 80 _ (by rw [List.length_drop, rho_length]), layer, xorB_cancel _ _ (by simp [layB_length, rho_length, hm, hr])]
theorem opened_put (s : Stop) (h : Hop) (m r f : List Byte) (hm : m.length = 32) (hr : r.length = 640) (hf : f.length + 80 ≤ 640) : (opened s (put (layer s h m r) f)).take 48 = layB h := by
  have hl := layer_length s h m r hm hr
  have e : (put (layer s h m r) f).take 48 = (layer s h m r).take 48 := by
    rw [put, List.take_append_of_le_length (by rw [List.length_take]; omega), List.take_take]; congr 1; omega
  have hp := put_length (layer s h m r) f (by omega)
  rw [opened, xorB_take, List.take_append_of_le_length (by omega), e]
  have := congrArg (List.take 48) (opened_layer s h m r hm hr)
  rw [opened, xorB_take, List.take_append_of_le_length (by omega)] at this
  rw [this, List.append_assoc, List.append_assoc, List.take_left' (layB_length h)]
/-- A packet is read as its e, its route, its mac. -/
def packetB (e : Nat) (rm : List Byte × List Byte) : List Byte := be8 e ++ rm.1 ++ rm.2
def wrapB (ks : List Nat) (hs : List Hop) (seed : List Byte) : List Byte := packetB (base (startX seed)) (wrapR (padO seed) [] (wayB (startX seed) ks) hs)
def hopsOk (ks : List Nat) (hs : List Hop) : Bool := decide (hs.length = ks.length) && (List.range hs.length).all fun i => mayB (hs.getD i (0, 0, 0, 0, 0, 0)) && decide (decide ((hs.getD i (0, 0, 0, 0, 0, 0)).1 < 0) = decide (i + 1 = hs.length))
/-- What is peeled off: the hop, the packet that goes on, the sum, the error. -/
def noHop : Hop := (0, 0, 0, 0, 0, 0)
def peelB (k : Nat) (p : List Byte) : Hop × List Byte × List Byte × Int :=
  if k = 0 ∨ q ≤ k then (noHop, [], zeros 32, 1)
  else if p.length ≠ 680 then (noHop, [], zeros 32, 2)
  else if keyOk (numB p) = false then (noHop, [], zeros 32, 2)
  else if macB (numB p, sharedB (scale (numB p) k)) ((p.drop 8).take 640) ≠ p.drop 648 then (noHop, [], zeros 32, 18)
  else if mayB (readH (opened (numB p, sharedB (scale (numB p) k)) ((p.drop 8).take 640))) = false then (noHop, [], zeros 32, 2)
  else (readH (opened (numB p, sharedB (scale (numB p) k)) ((p.drop 8).take 640)),
    if (readH (opened (numB p, sharedB (scale (numB p) k)) ((p.drop 8).take 640))).1 < 0 then []
    else be8 (scale (numB p) (blindB (numB p, sharedB (scale (numB p) k)))) ++ (opened (numB p, sharedB (scale (numB p) k)) ((p.drop 8).take 640)).drop 80 ++ ((opened (numB p, sharedB (scale (numB p) k)) ((p.drop 8).take 640)).drop 48).take 32,
    sharedB (scale (numB p) k), 0)
theorem packetB_length (e : Nat) (rm : List Byte × List Byte) (h1 : rm.1.length = 640) (h2 : rm.2.length = 32) : (packetB e rm).length = 680 := by simp [packetB, be8_length, h1, h2]
theorem M_lt : M < 18446744073709551616 := by decide
/-- A packet whose mac is right. -/
theorem peelB_packet (k e : Nat) (rm : List Byte × List Byte) (hk : k ≠ 0 ∧ k < q) (he : right e = true) (he1 : e ≠ 1) (h1 : rm.1.length = 640) (h2 : rm.2.length = 32) (hm : rm.2 = macB (e, sharedB (scale e k)) rm.1)
    (hy : mayB (readH (opened (e, sharedB (scale e k)) rm.1)) = true) :
    peelB k (packetB e rm) = (readH (opened (e, sharedB (scale e k)) rm.1), if (readH (opened (e, sharedB (scale e k)) rm.1)).1 < 0 then [] else packetB (scale e (blindB (e, sharedB (scale e k)))) ((opened (e, sharedB (scale e k)) rm.1).drop 80, ((opened (e, sharedB (scale e k)) rm.1).drop 48).take 32), sharedB (scale e k), 0) := by
  have hl := packetB_length e rm h1 h2
  have hen : numB (packetB e rm) = e := by
    rw [packetB, List.append_assoc, numB_be8 e (Nat.lt_trans ((right_iff e).1 he).2.1 M_lt)]
  have hr : ((packetB e rm).drop 8).take 640 = rm.1 := by
    rw [packetB, List.append_assoc, List.drop_left' (be8_length e), List.take_left' h1]
  have hd : (packetB e rm).drop 648 = rm.2 := by
    rw [packetB, List.drop_left' (by simp [be8_length, h1])]
  have hko : keyOk e = true := by simp [keyOk, he, he1]
  rw [peelB, hen, hr, hd, if_neg (by omega), if_neg (by omega), if_neg (by rw [hko]; simp), if_neg (by rw [← hm]; simp), if_neg (by rw [hy]; simp)]
  rfl
theorem scale_key (x k : Nat) : scale (base x) k = scale (base k) x := base_scale x k
/-- THE STAGE'S THEOREM, one step: the first hop peels its part off. -/
theorem peel_last (pad f : List Byte) (hp : pad.length = 640) (x k : Nat) (hx : x % q ≠ 0) (hk : k ≠ 0 ∧ k < q) (h : Hop) (ho : HopOk h) (hy : mayB h = true) (hn : h.1 < 0) (hf : f.length + 80 ≤ 640) :
    peelB k (packetB (base x) (wrapR pad f (wayB x [base k]) [h])) = (h, [], sharedB (scale (base k) x), 0) := by
  have hs : stopB x (base k) = (base x, sharedB (scale (base x) k)) := by rw [stopB, scale_key]
  have hl := wrapR_length pad hp (wayB x [base k]) [h] f rfl (by rw [wayB_length]; simp; omega)
  have hrd : readH (opened (base x, sharedB (scale (base x) k)) (wrapR pad f (wayB x [base k]) [h]).1) = h := by
    show readH (opened _ (put (layer (stopB x (base k)) h (zeros 32) pad) f)) = h
    rw [hs]
    rw [← List.take_append_drop 48 (opened _ _), opened_put _ h _ pad f (zeros_length 32) hp hf, readH_lay h ho]
  rw [peelB_packet k (base x) _ hk (right_base x) (base_ne_one hx) hl.1 hl.2 (by rw [← hs]; exact wrapR_mac pad [] [h] f (stopB x (base k)) rfl) (by rw [hrd]; exact hy), hrd, if_pos hn, scale_key x k]
theorem peel_more (pad f : List Byte) (hp : pad.length = 640) (x k : Nat) (hx : x % q ≠ 0) (hk : k ≠ 0 ∧ k < q) (h h' : Hop) (ks : List Nat) (k' : Nat) (hs : List Hop) (ho : HopOk h) (hy : mayB h = true) (hn : ¬ h.1 < 0) (hlen : ks.length = hs.length) (hf : f.length + 80 * (ks.length + 2) ≤ 640) :
    peelB k (packetB (base x) (wrapR pad f (wayB x (base k :: k' :: ks)) (h :: h' :: hs))) =
      (h, packetB (base (nextX x (base k))) (wrapR pad (fillS f (stopB x (base k))) (wayB (nextX x (base k)) (k' :: ks)) (h' :: hs)), sharedB (scale (base k) x), 0) := by
  have hs' : stopB x (base k) = (base x, sharedB (scale (base x) k)) := by rw [stopB, scale_key]
  have hfl := fillS_length f (stopB x (base k)) (by omega)
  have hl := wrapR_length pad hp (wayB x (base k :: k' :: ks)) (h :: h' :: hs) f (by rw [wayB_length]; simp [hlen]) (by rw [wayB_length]; simp only [List.length_cons]; omega)
  have hl2 := wrapR_length pad hp (wayB (nextX x (base k)) (k' :: ks)) (h' :: hs) (fillS f (stopB x (base k))) (by rw [wayB_length]; simp [hlen]) (by rw [wayB_length]; simp only [List.length_cons]; omega)
  have ht := wrapR_tail pad hp (wayB (nextX x (base k)) (k' :: ks)) (h' :: hs) (fillS f (stopB x (base k))) (by simp [wayB]) (by rw [wayB_length]; simp [hlen]) (by rw [wayB_length]; simp only [List.length_cons]; omega)
  have hop : opened (base x, sharedB (scale (base x) k)) (wrapR pad f (wayB x (base k :: k' :: ks)) (h :: h' :: hs)).1 = layB h ++ (wrapR pad (fillS f (stopB x (base k))) (wayB (nextX x (base k)) (k' :: ks)) (h' :: hs)).2 ++ (wrapR pad (fillS f (stopB x (base k))) (wayB (nextX x (base k)) (k' :: ks)) (h' :: hs)).1 := by
    show opened _ (layer (stopB x (base k)) h _ _) = _
    rw [← hs', opened_layer _ h _ _ hl2.2 hl2.1, List.append_assoc (layB h ++ _)]
    congr 1
    have e : (rho (stopB x (base k)) 720).drop 640 = (wrapR pad (fillS f (stopB x (base k))) (wayB (nextX x (base k)) (k' :: ks)) (h' :: hs)).1.drop 560 := by
      rw [hfl] at ht
      have e' : ∀ W : List Byte, W.drop 560 = (W.drop (640 - (f.length + 80))).drop f.length := fun W => by
        rw [List.drop_drop]; congr 1; omega
      rw [e', ht, fillS, xorB_drop, List.drop_left, List.drop_drop, show 720 - (f.length + 80) + f.length = 640 by omega, xorB_zeros 80 _ (by rw [List.length_drop, rho_length])]
    rw [e, List.take_append_drop]
  have hrd : readH (opened (base x, sharedB (scale (base x) k)) (wrapR pad f (wayB x (base k :: k' :: ks)) (h :: h' :: hs)).1) = h := by
    rw [hop, List.append_assoc, readH_lay h ho]
  rw [peelB_packet k (base x) _ hk (right_base x) (base_ne_one hx) hl.1 hl.2 (by
    rw [← hs']
    exact wrapR_mac pad (stopB (nextX x (base k)) k' :: wayB _ ks) (h :: h' :: hs) f (stopB x (base k)) (by simp [wayB_length, hlen])) (by rw [hrd]; exact hy), hrd, if_neg hn, hop, scale_key x k]
  have e1 : scale (base x) (blindB (base x, sharedB (scale (base k) x))) = base (nextX x (base k)) := by
    show _ = scale 4 (mulS x (blindB (stopB x (base k))))
    rw [scale_mulS]; rfl
  have e2 : (layB h ++ (wrapR pad (fillS f (stopB x (base k))) (wayB (nextX x (base k)) (k' :: ks)) (h' :: hs)).2 ++ (wrapR pad (fillS f (stopB x (base k))) (wayB (nextX x (base k)) (k' :: ks)) (h' :: hs)).1).drop 80 = (wrapR pad (fillS f (stopB x (base k))) (wayB (nextX x (base k)) (k' :: ks)) (h' :: hs)).1 :=
    List.drop_left' (by rw [List.length_append, layB_length, hl2.2])
  have e3 : ((layB h ++ (wrapR pad (fillS f (stopB x (base k))) (wayB (nextX x (base k)) (k' :: ks)) (h' :: hs)).2 ++ (wrapR pad (fillS f (stopB x (base k))) (wayB (nextX x (base k)) (k' :: ks)) (h' :: hs)).1).drop 48).take 32 = (wrapR pad (fillS f (stopB x (base k))) (wayB (nextX x (base k)) (k' :: ks)) (h' :: hs)).2 := by
    rw [List.append_assoc, List.drop_left' (layB_length h), List.take_left' hl2.2]
  rw [e1, e2, e3]
theorem nextX_ne (x k : Nat) (hx : x % q ≠ 0) : nextX x k % q ≠ 0 := mulS_ne hx (fromB_ne _)
theorem startX_ne (seed : List Byte) : startX seed % q ≠ 0 := fromB_ne _
end Go.Osp
