/- math/bits on 32-bit digits. -/
import Derived.Test.YtmamkgbldaehgaaGreatDoorCyFacts
namespace Go.Cy
open Go Go.Proofs

theorem i64n {p : Int} {r : Nat} (h : p = r) (h2 : r ≤ 9223372036854775807) : IntKind.i64.wrap p = (r : Int) := by rw [wrap_i64 (by omega) (by omega)]; exact h
theorem u64n {p : Int} {r : Nat} (h : p = r) (h2 : r ≤ 18446744073709551615) : IntKind.u64.wrap p = (r : Int) := by rw [wrap_u64_in (by omega) (by omega)]; exact h
theorem u32n {p : Int} {r : Nat} (h : p = r) (h2 : r ≤ 4294967295) : IntKind.u32.wrap p = (r : Int) := by rw [wrap_u32_in (by omega) (by omega)]; exact h
theorem u32m {p : Int} {r : Nat} (h : p % 4294967296 = r) : IntKind.u32.wrap p = (r : Int) := by rw [wrap_u32]; exact h
theorem u64m {p : Int} {r : Nat} (h : p % 18446744073709551616 = r) : IntKind.u64.wrap p = (r : Int) := by rw [wrap_u64]; exact h
theorem shr_nat (p k b : Nat) (h : k ≤ b) : ((p : Int)).fdiv (2 ^ (min ((k : Int).toNat) b)) = ((p / 2 ^ k : Nat) : Int) := by
  rw [Int.toNat_natCast, Nat.min_eq_left h, Int.fdiv_eq_ediv_of_nonneg _ (by exact Int.pow_nonneg (by omega))]
  simp
theorem shr32_64 (p : Nat) : ((p : Int)).fdiv (2 ^ (min ((32 : Int).toNat) (IntKind.bits .u64))) = ((p / 4294967296 : Nat) : Int) := shr_nat p 32 64 (by omega)

def two (a b : Nat) : Value := .tuple #[.int .u32 a, .int .u32 b]

theorem add32_ok {m : Mem} {x y c : Nat} (hx : x < 4294967296) (hy : y < 4294967296) (hc : c ≤ 1) : Pure Tryz.prog 156 #[.int .u32 x, .int .u32 y, .int .u32 c] m fun v _ => v = two ((x + y + c) % 4294967296) ((x + y + c) / 4294967296) := by
  refine enterp Tryz.func156 rfl rfl ?_
  intro K hm0 hks
  refine w_seq ?_
  refine w_region ?_
  refine wl_val rfl rfl rfl (x_assign rfl) ?_
  refine wl_val rfl rfl rfl (x_assign rfl) ?_
  refine wl_nil ?_
  refine at_seq ?_
  refine w_seq ?_
  refine w_region ?_
  refine wl_val rfl rfl rfl (x_move rfl) ?_
  refine wl_val rfl rfl rfl (x_conv Tryz.underlying51 Tryz.underlying111 rfl (u64n (r := x) (by omega) (by omega))) ?_
  refine wl_val rfl rfl rfl (x_move rfl) ?_
  refine wl_val rfl rfl rfl (x_conv Tryz.underlying51 Tryz.underlying111 rfl (u64n (r := y) (by omega) (by omega))) ?_
  refine wl_val rfl rfl rfl (x_add rfl rfl (u64n (r := x + y) (by omega) (by omega))) ?_
  refine wl_val rfl rfl rfl (x_move rfl) ?_
  refine wl_val rfl rfl rfl (x_conv Tryz.underlying51 Tryz.underlying111 rfl (u64n (r := c) (by omega) (by omega))) ?_
  refine wl_val rfl rfl rfl (x_add rfl rfl (u64n (r := x + y + c) (by omega) (by omega))) ?_
  refine wl_val rfl rfl rfl (x_assign rfl) ?_
  refine wl_nil ?_
  refine at_seq ?_
  refine w_seq ?_
  refine w_region ?_
  refine wl_val rfl rfl rfl (x_move rfl) ?_
  refine wl_val rfl rfl rfl (x_conv Tryz.underlying111 Tryz.underlying51 rfl (u32m (r := (x + y + c) % 4294967296) (by omega))) ?_
  refine wl_val rfl rfl rfl (x_assign rfl) ?_
  refine wl_nil ?_
  refine at_seq ?_
  refine w_seq ?_
  refine w_region ?_
  refine wl_val rfl rfl rfl (x_move rfl) ?_
  refine wl_val rfl rfl rfl (x_shr rfl rfl (by omega) (shr32_64 _)) ?_
  refine wl_val rfl rfl rfl (x_conv Tryz.underlying111 Tryz.underlying51 rfl (u32n (r := (x + y + c) / 4294967296) (by omega) (by omega))) ?_
  refine wl_val rfl rfl rfl (x_assign rfl) ?_
  refine wl_nil ?_
  refine at_seq ?_
  refine w_ret ?_
  refine at_endp (res2 rfl rfl rfl) ?_
  rfl

theorem sub32_ok {m : Mem} {x y b : Nat} (hx : x < 4294967296) (hy : y < 4294967296) (hb : b ≤ 1) : Pure Tryz.prog 158 #[.int .u32 x, .int .u32 y, .int .u32 b] m fun v _ => v = two ((x + 8589934592 - y - b) % 4294967296) (if x < y + b then 1 else 0) := by
  have g1 : 4294967295 ^^^ x < 4294967296 := Nat.xor_lt_two_pow (n := 32) (by omega) hx
  have g2 : x ^^^ y < 4294967296 := Nat.xor_lt_two_pow (n := 32) hx hy
  have g3 : 4294967295 ^^^ (x ^^^ y) < 4294967296 := Nat.xor_lt_two_pow (n := 32) (by omega) g2
  have g4 : (4294967295 ^^^ x) &&& y < 4294967296 := Nat.lt_of_le_of_lt Nat.and_le_left g1
  have g5 : (4294967295 ^^^ (x ^^^ y)) &&& ((x + 8589934592 - y - b) % 4294967296) < 4294967296 := Nat.lt_of_le_of_lt Nat.and_le_left g3
  refine enterp Tryz.func158 rfl rfl ?_
  intro K hm0 hks
  refine w_seq ?_
  refine w_region ?_
  refine wl_val rfl rfl rfl (x_assign rfl) ?_
  refine wl_val rfl rfl rfl (x_assign rfl) ?_
  refine wl_nil ?_
  refine at_seq ?_
  refine w_seq ?_
  refine w_region ?_
  refine wl_val rfl rfl rfl (x_move rfl) ?_
  refine wl_val rfl rfl rfl (x_move rfl) ?_
  refine wl_val rfl rfl rfl (x_sub rfl rfl (u32m (r := (x + 4294967296 - y) % 4294967296) (by omega))) ?_
  refine wl_val rfl rfl rfl (x_move rfl) ?_
  refine wl_val rfl rfl rfl (x_sub rfl rfl (u32m (r := (x + 8589934592 - y - b) % 4294967296) (by omega))) ?_
  refine wl_val rfl rfl rfl (x_assign rfl) ?_
  refine wl_nil ?_
  refine at_seq ?_
  refine w_seq ?_
  refine w_region ?_
  refine wl_val rfl rfl rfl (x_move rfl) ?_
  refine wl_val rfl rfl rfl (x_bnot32 (by omega) rfl) ?_
  refine wl_val rfl rfl rfl (x_move rfl) ?_
  refine wl_val rfl rfl rfl (x_and rfl rfl (and_u32 g1)) ?_
  refine wl_val rfl rfl rfl (x_move rfl) ?_
  refine wl_val rfl rfl rfl (x_move rfl) ?_
  refine wl_val rfl rfl rfl (x_xor rfl rfl (xor_u32 hx hy)) ?_
  refine wl_val rfl rfl rfl (x_bnot32 (by omega) rfl) ?_
  refine wl_val rfl rfl rfl (x_move rfl) ?_
  refine wl_val rfl rfl rfl (x_and rfl rfl (and_u32 g3)) ?_
  refine wl_val rfl rfl rfl (x_or rfl rfl (or_u32 g4 g5)) ?_
  refine wl_val rfl rfl rfl (x_shr rfl rfl (by omega) (shr_nat _ 31 32 (by omega))) ?_
  refine wl_val rfl rfl rfl (x_assign rfl) ?_
  refine wl_nil ?_
  refine at_seq ?_
  refine w_ret ?_
  refine at_endp (res2 rfl rfl rfl) ?_
  show two _ _ = _
  rw [show (2 : Nat) ^ 31 = 2147483648 from rfl, borrow32 hx hy hb]

theorem mul32_ok {m : Mem} {x y : Nat} (hx : x < 4294967296) (hy : y < 4294967296) : Pure Tryz.prog 252 #[.int .u32 x, .int .u32 y] m fun v _ => v = two (x * y / 4294967296) (x * y % 4294967296) := by
  have h1 : x * y ≤ 4294967295 * 4294967295 := Nat.mul_le_mul (by omega) (by omega)
  refine enterp Tryz.func252 rfl rfl ?_
  intro K hm0 hks
  refine w_seq ?_
  refine w_region ?_
  refine wl_val rfl rfl rfl (x_assign rfl) ?_
  refine wl_val rfl rfl rfl (x_assign rfl) ?_
  refine wl_nil ?_
  refine at_seq ?_
  refine w_seq ?_
  refine w_region ?_
  refine wl_val rfl rfl rfl (x_move rfl) ?_
  refine wl_val rfl rfl rfl (x_conv Tryz.underlying51 Tryz.underlying111 rfl (u64n (r := x) (by omega) (by omega))) ?_
  refine wl_val rfl rfl rfl (x_move rfl) ?_
  refine wl_val rfl rfl rfl (x_conv Tryz.underlying51 Tryz.underlying111 rfl (u64n (r := y) (by omega) (by omega))) ?_
  refine wl_val rfl rfl rfl (x_mul rfl rfl (u64n (r := x * y) (by simp) (by omega))) ?_
  refine wl_val rfl rfl rfl (x_assign rfl) ?_
  refine wl_nil ?_
  refine at_seq ?_
  refine w_seq ?_
  refine w_region ?_
  refine wl_val rfl rfl rfl (x_move rfl) ?_
  refine wl_val rfl rfl rfl (x_shr rfl rfl (by omega) (shr32_64 _)) ?_
  refine wl_val rfl rfl rfl (x_conv Tryz.underlying111 Tryz.underlying51 rfl (u32n (r := x * y / 4294967296) (by omega) (by omega))) ?_
  refine wl_val rfl rfl rfl (x_move rfl) ?_
  refine wl_val rfl rfl rfl (x_conv Tryz.underlying111 Tryz.underlying51 rfl (u32m (r := x * y % 4294967296) (by omega))) ?_
  refine wl_val rfl rfl rfl (x_assign rfl) ?_
  refine wl_val rfl rfl rfl (x_assign rfl) ?_
  refine wl_nil ?_
  refine at_seq ?_
  refine w_ret ?_
  refine at_endp (res2 rfl rfl rfl) ?_
  rfl
end Go.Cy

