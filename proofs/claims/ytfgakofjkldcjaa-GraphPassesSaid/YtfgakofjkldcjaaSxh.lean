/- Words of 64 bits that wrap, as plain numbers; bytes of strings; one digit of a long division. No program in sight. -/
import Derived.Test.YtfgakofjkldcjaaSxg
namespace Go.Sx
open Go Go.RowKit
section
variable {P : Program} {env : Env} {n : Nat} {d : Option Nat} {T : TypeId} {p : String} {af : Array Edge} {g : Option (Nat × Bool)} {w : World}
theorem Any.as {o : Oper} {v v' : Value} (h : Any P env n o v) (e : v = v') : Any P env n o v' := e ▸ h
theorem Rd.as {o : Oper} {v v' : Value} (h : Rd P w env n o v) (e : v = v') : Rd P w env n o v' := e ▸ h
theorem wrap_u64_nat (a : Nat) : IntKind.u64.wrap (a : Int) = ((a % 18446744073709551616 : Nat) : Int) := by rw [wrap_u64]; omega
theorem Any.addN {t ty : TypeId} {x y : Operand} {i j : Int} (a b c : Nat) (hx : ev env x = some (.int .u64 i)) (hi : i = (a : Int)) (hy : ev env y = some (.int .u64 j)) (hj : j = (b : Int)) (h : (a + b) % 18446744073709551616 = c) :
    Any P env n ⟨d, .binOp .add t x y ty, T, p, af, g⟩ (.int .u64 (c : Int)) := .int hx hy fun w => by
  subst hi hj h
  have e : IntKind.u64.wrap ((a : Int) + (b : Int)) = (((a + b) % 18446744073709551616 : Nat) : Int) := by rw [← Int.natCast_add, wrap_u64_nat]
  simp only [binOp, Op.intArith, e]; rfl
theorem Any.mulN {t ty : TypeId} {x y : Operand} {i j : Int} (a b c : Nat) (hx : ev env x = some (.int .u64 i)) (hi : i = (a : Int)) (hy : ev env y = some (.int .u64 j)) (hj : j = (b : Int)) (h : (a * b) % 18446744073709551616 = c) :
    Any P env n ⟨d, .binOp .mul t x y ty, T, p, af, g⟩ (.int .u64 (c : Int)) := .int hx hy fun w => by
  subst hi hj h
  have e : IntKind.u64.wrap ((a : Int) * (b : Int)) = (((a * b) % 18446744073709551616 : Nat) : Int) := by rw [← Int.natCast_mul, wrap_u64_nat]
  simp only [binOp, Op.intArith, e]; rfl
theorem Any.subN {t ty : TypeId} {x y : Operand} {i j : Int} (a b c : Nat) (hx : ev env x = some (.int .u64 i)) (hi : i = (a : Int)) (hy : ev env y = some (.int .u64 j)) (hj : j = (b : Int)) (hb : b ≤ 18446744073709551616) (h : (a + (18446744073709551616 - b)) % 18446744073709551616 = c) :
    Any P env n ⟨d, .binOp .sub t x y ty, T, p, af, g⟩ (.int .u64 (c : Int)) := .int hx hy fun w => by
  subst hi hj h
  have e : IntKind.u64.wrap ((a : Int) - (b : Int)) = (((a + (18446744073709551616 - b)) % 18446744073709551616 : Nat) : Int) := by rw [wrap_u64]; omega
  simp only [binOp, Op.intArith, e]; rfl
theorem Any.quoN {t ty : TypeId} {x y : Operand} {i j : Int} (a b c : Nat) (hx : ev env x = some (.int .u64 i)) (hi : i = (a : Int)) (hy : ev env y = some (.int .u64 j)) (hj : j = (b : Int)) (ha : a < 18446744073709551616) (hb : 0 < b) (h : a / b = c) :
    Any P env n ⟨d, .binOp .quo t x y ty, T, p, af, g⟩ (.int .u64 (c : Int)) := by
  subst hi hj h
  exact (Any.quoU hx hy (by omega)).as (by rw [Int.natCast_ediv])
theorem Any.remN {t ty : TypeId} {x y : Operand} {i j : Int} (a b c : Nat) (hx : ev env x = some (.int .u64 i)) (hi : i = (a : Int)) (hy : ev env y = some (.int .u64 j)) (hj : j = (b : Int)) (hb : 0 < b) (h : a % b = c) :
    Any P env n ⟨d, .binOp .rem t x y ty, T, p, af, g⟩ (.int .u64 (c : Int)) := by
  subst hi hj h
  exact (Any.remU hx hy (by omega)).as (by rw [Int.natCast_emod])
theorem Any.shlN {t ty : TypeId} {x y : Operand} {k' : IntKind} {i j : Int} (a m c : Nat) (hx : ev env x = some (.int .u64 i)) (hi : i = (a : Int)) (hy : ev env y = some (.int k' j)) (hj : j = (m : Int)) (hm : m ≤ 64) (h : (a * 2 ^ m) % 18446744073709551616 = c) :
    Any P env n ⟨d, .binOp .shl t x y ty, T, p, af, g⟩ (.int .u64 (c : Int)) := .int hx hy fun w => by
  subst hi hj h
  have h1 : ¬ ((m : Int) < 0) := by omega
  have h2 : min m IntKind.u64.bits = m := Nat.min_eq_left hm
  have e : IntKind.u64.wrap ((a : Int) * 2 ^ m) = (((a * 2 ^ m) % 18446744073709551616 : Nat) : Int) := by
    rw [← wrap_u64_nat, Int.natCast_mul, Int.natCast_pow]; rfl
  simp only [binOp, Op.shift]
  rw [if_neg h1]
  simp only [Int.toNat_natCast, h2, e]
  rfl
theorem Any.shrE {t ty : TypeId} {x y : Operand} {k k' : IntKind} {i j : Int} (a m c : Nat) (hx : ev env x = some (.int k i)) (ha : i = (a : Int)) (hy : ev env y = some (.int k' j)) (hj : j = (m : Int)) (hm : m ≤ k.bits) (h : a / 2 ^ m = c) :
    Any P env n ⟨d, .binOp .shr t x y ty, T, p, af, g⟩ (.int k (c : Int)) :=
  (Any.shrN a m hx ha hy hj hm).as (by rw [Nat.shiftRight_eq_div_pow, h])
theorem mask32 (a : Nat) : a &&& 4294967295 = a % 4294967296 := Nat.and_two_pow_sub_one_eq_mod a 32
theorem mask1 (a : Nat) : a &&& 1 = a % 2 := Nat.and_two_pow_sub_one_eq_mod a 1
theorem Any.andE {t ty : TypeId} {x y : Operand} {i j : Int} (a b c : Nat) (hx : ev env x = some (.int .u64 i)) (hi : i = (a : Int)) (hy : ev env y = some (.int .u64 j)) (hj : j = (b : Int)) (ha : a < 18446744073709551616) (hb : b < 18446744073709551616) (h : a &&& b = c) :
    Any P env n ⟨d, .binOp .and t x y ty, T, p, af, g⟩ (.int .u64 (c : Int)) := (Any.andN a b hx hi hy hj ha hb).as (by rw [h])
theorem Any.orE {t ty : TypeId} {x y : Operand} {i j : Int} (a b c : Nat) (hx : ev env x = some (.int .u64 i)) (hi : i = (a : Int)) (hy : ev env y = some (.int .u64 j)) (hj : j = (b : Int)) (ha : a < 18446744073709551616) (hb : b < 18446744073709551616) (h : a ||| b = c) :
    Any P env n ⟨d, .binOp .or t x y ty, T, p, af, g⟩ (.int .u64 (c : Int)) := (Any.orN a b hx hi hy hj ha hb).as (by rw [h])
theorem Rd.u64to64 {s t : TypeId} {x : Operand} {i : Int} (hs : (P.underlying s).isSome = true) (ht : P.underlying t = some (.int .u64)) (hx : ev env x = some (.int .u64 i)) (h : 0 ≤ i ∧ i ≤ 18446744073709551615) :
    Rd P w env n ⟨d, .convert s t x, T, p, af, g⟩ (.int .u64 i) := Rd.convEq hs ht hx (IntWalk.u64_in _ h)
/-- A byte of a string. -/
theorem Any.idxStr {t : TypeId} {x y : Operand} {s : ByteArray} {k : IntKind} {i : Int} (m : Nat) (b : UInt8) (ht : P.underlying t = some .string) (hx : ev env x = some (.string s)) (hy : ev env y = some (.int k i)) (hi : i = (m : Int)) (hb : s[m]? = some b) :
    Any P env n ⟨d, .index t x y, T, p, af, g⟩ (.int .u8 (b.toNat : Int)) := fun a ha w => by
  subst hi
  simp [execOp, ha.eval hx, ha.eval hy, Instr.index, asIntOf, run_underlying ht, hb]
/-- A byte of an array of bytes. -/
theorem Any.idxV {t e len : TypeId} {x y : Operand} {xs : List (BitVec 8)} {k : IntKind} {i : Int} (m : Nat) (ht : P.underlying t = some (.array len e)) (he : P.underlying e = some (.int .u8)) (hs : Sz P e 1) (hl : xs.length = len) (hx : ev env x = some (.agg (xs.map u8v).toArray)) (hy : ev env y = some (.int k i)) (hi : i = (m : Int)) (hm : m < len) :
    Any P env n ⟨d, .index t x y, T, p, af, g⟩ (u8v (xs.getD m 0)) := fun a ha w => by
  subst hi
  have h1 : (0 ≤ (m : Int) ∧ (m : Int) < (len : Int)) := by omega
  have h2 := run_part1 (P := P) (e := e) (xs := (xs.map u8v).toArray) (o := m) (v := u8v (xs.getD m 0)) ⟨_, he, rfl⟩ (getbA xs (by omega)) w
  simp [execOp, ha.eval hx, ha.eval hy, Instr.index, asIntOf, run_underlying ht, h1, hm, hs.run, h2]
theorem or_byte (a b : Nat) (hb : b < 256) : a * 256 ||| b = a * 256 + b := by
  rw [Nat.mul_comm, show (256 : Nat) = 2 ^ 8 by decide]
  exact (Nat.two_pow_add_eq_or_of_lt (by omega) _).symm
theorem or_byteM (a b : Nat) (hb : b < 256) : a * 256 % 18446744073709551616 ||| b = a * 256 % 18446744073709551616 + b := by
  rw [show a * 256 % 18446744073709551616 = a % 72057594037927936 * 256 by omega]
  exact or_byte _ b hb
end
/-! ### A digit of a long division -/
theorem dig_gt {Y a b U e qh r : Nat} (hY : Y = a * 4294967296 + b) (hU : U < Y) (he : e < 4294967296) (hi : qh * a + r = U) (ht : 4294967296 ≤ qh ∨ 4294967296 * r + e < qh * b) : (U * 4294967296 + e) / Y < qh := by
  have hY0 : 0 < Y := by omega
  rw [Nat.div_lt_iff_lt_mul hY0]
  rcases ht with h | h
  · have h1 : 4294967296 * Y ≤ qh * Y := Nat.mul_le_mul_right _ h
    omega
  · have h1 : qh * Y = (qh * a) * 4294967296 + qh * b := by rw [hY, Nat.mul_add, ← Nat.mul_assoc]
    rw [h1]
    omega
theorem dig_le {Y a b U e qh r : Nat} (hY : Y = a * 4294967296 + b) (hY0 : 0 < Y) (hi : qh * a + r = U) (ht : qh * b ≤ 4294967296 * r + e) : qh ≤ (U * 4294967296 + e) / Y := by
  rw [Nat.le_div_iff_mul_le hY0]
  have h1 : qh * Y = (qh * a) * 4294967296 + qh * b := by rw [hY, Nat.mul_add, ← Nat.mul_assoc]
  rw [h1]
  omega
theorem dig_brk {Y a b U e qh r : Nat} (hY : Y = a * 4294967296 + b) (hY0 : 0 < Y) (hb : b < 4294967296) (hi : qh * a + r = U) (hr : 4294967296 ≤ r) (hq : qh ≤ 4294967296) : qh ≤ (U * 4294967296 + e) / Y := by
  refine dig_le hY hY0 hi ?_
  have h1 : qh * b ≤ 4294967296 * b := Nat.mul_le_mul_right _ hq
  have h2 : 4294967296 * b ≤ 4294967296 * 4294967296 := by omega
  omega
/-- The first guess is not much too great. -/
theorem dig_first {Y a b U : Nat} (hY : Y = a * 4294967296 + b) (ha : 2147483648 ≤ a) (hb : b < 4294967296) (hU : U < Y) : U / a ≤ 4294967297 := by
  have h : U / a < 4294967298 := by
    rw [Nat.div_lt_iff_lt_mul (by omega)]
    omega
  omega
theorem dig_start {Y a b U e : Nat} (hY : Y = a * 4294967296 + b) (ha : 0 < a) (hU : U < Y) (he : e < 4294967296) : (U * 4294967296 + e) / Y ≤ U / a := by
  have h1 : U / a * a + U % a = U := by rw [Nat.mul_comm]; exact Nat.div_add_mod U a
  have h2 : U % a < a := Nat.mod_lt _ ha
  have h3 : (U * 4294967296 + e) / Y < U / a + 1 := by
    rw [Nat.div_lt_iff_lt_mul (by omega)]
    have h4 : (U / a + 1) * Y = (U / a * a + a) * 4294967296 + (U / a + 1) * b := by rw [hY, Nat.mul_add, ← Nat.mul_assoc, Nat.succ_mul]
    rw [h4]
    omega
  omega
theorem sub_div (U a : Nat) (hU : U < 18446744073709551616) : (U + (18446744073709551616 - U / a * a)) % 18446744073709551616 = U % a := by
  have h1 : U / a * a + U % a = U := by rw [Nat.mul_comm]; exact Nat.div_add_mod U a
  omega
theorem div_fin2 (h l y Y U v e1 e0 R : Nat) (hY : Y = y * 4) (hU : U = h * 4 + l / 4611686018427387904) (hv : v = l * 4 % 18446744073709551616) (h1 : e1 = v / 4294967296) (h0 : e0 = v % 4294967296) (hR : R = (U * 4294967296 + e1) % Y) (_hl : l < 18446744073709551616) :
    (R * 4294967296 + e0) % Y / 2 ^ 2 = (h * 18446744073709551616 + l) % y := by
  have e : (U * 4294967296 + e1) * 4294967296 + e0 = (h * 18446744073709551616 + l) * 4 := by omega
  rw [hR, Nat.add_mod (_ * 4294967296), Nat.mul_mod, Nat.mod_mod, ← Nat.mul_mod, ← Nat.add_mod, e, hY, Nat.mul_mod_mul_right]
  exact Nat.mul_div_cancel _ (by decide)
theorem div_fin3 (h l y Y U v e1 e0 R : Nat) (hY : Y = y * 8) (hU : U = h * 8 + l / 2305843009213693952) (hv : v = l * 8 % 18446744073709551616) (h1 : e1 = v / 4294967296) (h0 : e0 = v % 4294967296) (hR : R = (U * 4294967296 + e1) % Y) (_hl : l < 18446744073709551616) :
    (R * 4294967296 + e0) % Y / 2 ^ 3 = (h * 18446744073709551616 + l) % y := by
  have e : (U * 4294967296 + e1) * 4294967296 + e0 = (h * 18446744073709551616 + l) * 8 := by omega
  rw [hR, Nat.add_mod (_ * 4294967296), Nat.mul_mod, Nat.mod_mod, ← Nat.mul_mod, ← Nat.add_mod, e, hY, Nat.mul_mod_mul_right]
  exact Nat.mul_div_cancel _ (by decide)
/-- The rest behind a digit. -/
theorem dig_rest (Y N Q : Nat) (hQ : Q = N / Y) (hY : 0 < Y) (hY2 : Y ≤ 18446744073709551616) : (N % 18446744073709551616 + (18446744073709551616 - Q * Y % 18446744073709551616)) % 18446744073709551616 = N % Y := by
  subst hQ
  have h1 : N / Y * Y + N % Y = N := by rw [Nat.mul_comm]; exact Nat.div_add_mod N Y
  have h2 : N % Y < Y := Nat.mod_lt _ hY
  generalize N / Y * Y = p at *
  omega
end Go.Sx
