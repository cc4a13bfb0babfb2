/- strconv.FormatBool. -/
import Derived.Test.YtmamkgbldaehgaaGreatDoorCyText
import Derived.Test.YtmamkgbldaehgaaGreatDoorCyShelf
import Derived.Test.YtmamkgbldaehgaaGreatDoorTryzShelf
namespace Go.Cy
open Go Go.Proofs
set_option maxRecDepth 20000

def boolB (b : Bool) : List UInt8 := if b then [116, 114, 117, 101] else [102, 97, 108, 115, 101]
theorem formatBool_ok {m : Mem} {b : Bool} : Pure Tryz.prog 126 #[.bool b] m fun r _ => r = .string (B (boolB b)) := by
  refine enterp Tryz.func126 rfl rfl ?_
  intro K hm0 hks
  refine w_seq ?_
  refine w_region ?_
  refine wl_val rfl rfl rfl (x_assign rfl) ?_
  refine wl_nil ?_
  refine at_seq ?_
  refine w_seq ?_
  refine w_seq ?_
  refine w_region ?_
  refine wl_val rfl rfl rfl (x_move rfl) ?_
  refine wl_nil ?_
  refine at_seq ?_
  refine w_cond rfl (fun h => ?_) (fun h => ?_)
  · skip
    subst h
    refine w_seq ?_
    refine w_region ?_
    refine wl_val rfl rfl rfl (x_assign rfl) ?_
    refine wl_nil ?_
    refine at_seq ?_
    refine w_ret ?_
    refine at_then_ret ?_
    refine at_endp (res1 rfl rfl) ?_
    rfl
  · skip
    subst h
    refine w_skip ?_
    refine at_seq ?_
    refine w_seq ?_
    refine w_region ?_
    refine wl_val rfl rfl rfl (x_assign rfl) ?_
    refine wl_nil ?_
    refine at_seq ?_
    refine w_ret ?_
    refine at_endp (res1 rfl rfl) ?_
    rfl
theorem FormatBool_ok {m : Mem} {b : Bool} : Pure Tryz.prog 69 #[.bool b] m fun r _ => r = .string (B (boolB b)) := by
  refine enterp Tryz.func69 rfl rfl ?_
  intro K hm0 hks
  refine w_seq ?_
  refine w_region ?_
  refine wl_val rfl rfl rfl (x_assign rfl) ?_
  refine wl_nil ?_
  refine at_seq ?_
  refine w_seq ?_
  refine w_region ?_
  refine wl_val rfl rfl rfl (x_move rfl) ?_
  refine wl_callp rfl rfl rfl Tryz.c126 (formatBool_ok) ?_; rintro v1 m1 hm1 rfl
  refine wl_val rfl rfl rfl (x_assign rfl) ?_
  refine wl_nil ?_
  refine at_seq ?_
  refine w_ret ?_
  refine at_endp (res1 rfl rfl) ?_
  rfl

theorem Itoa_ok {m : Mem} {n : Int} (hT : Tab Tryz.prog m) (h0 : -9223372036854775808 ≤ n) (h1 : n ≤ 9223372036854775807) : Pure Tryz.prog 127 #[.int .i64 n] m fun r _ => r = .string (B (Lib.itoa n)) :=
  Pure.of_grow fun w hf => Tryz.strconv_Itoa n h0 h1 w (hT w hf)
end Go.Cy

