/- From the kit's contracts of library functions to this calculus. -/
import Derived.Test.YtmamkgbldaehgaaGreatDoorCyCal3
import Derived.Sort.Grow
import Derived.Deep.Draws
import Derived.Lib.LaidTab
import Derived.Lib.ItoaNum
namespace Go.Cy
open Go

theorem St.grown {m : Mem} {w : World} (hf : Fits m w) (k : Nat) (os : Array Obj) : St ⟨w, m, []⟩ m [] (Go.Sort.grow (w.drewN k) os) where
  os := rfl
  tape := rfl
  output := rfl
  size := by simp [Go.Sort.grow, World.drewN]
  old := fun j hj _ => by
    show (w.heap ++ os)[j]? = w.heap[j]?
    rw [Array.getElem?_append_left hj]
  mem := fun b o hb => by
    have h := hf b o hb
    have hlt : b < w.heap.size := (Array.getElem?_eq_some_iff.1 h).1
    show (w.heap ++ os)[b]? = some o
    rw [Array.getElem?_append_left hlt]
    exact h
  heap := fun _ _ h => absurd h List.not_mem_nil
  own := fun _ _ h => absurd h List.not_mem_nil
  nodup := List.nodup_nil
  apart := fun _ _ h => absurd h List.not_mem_nil
  le := Mem.le.refl _
  grow := fun b h => absurd rfl h

theorem Pure.of_grow {P : Program} {f : FuncId} {args : Array Value} {m : Mem} {v : Value} (h : ∀ w, Fits m w → Calls P f args w fun e w' => e = .returned v ∧ ∃ k os, w' = Go.Sort.grow (w.drewN k) os) : Pure P f args m fun r _ => r = v := by
  intro w hf _ _ _
  refine Calls.mono (h w hf) ?_
  rintro e w' ⟨rfl, k, os, rfl⟩
  exact ⟨m, [], St.grown hf k os, rfl, rfl⟩
theorem Pure.of_same {P : Program} {f : FuncId} {args : Array Value} {m : Mem} {v : Value} (h : ∀ w, Fits m w → Calls P f args w fun e w' => e = .returned v ∧ w' = w) : Pure P f args m fun r _ => r = v :=
  Pure.of_grow fun w hf => Calls.mono (h w hf) fun e w' ⟨he, hw⟩ => ⟨he, 0, #[], by subst hw; simp [World.drewN]⟩

/-- The table of powers of ten lies in memory. -/
def Tab (P : Program) (m : Mem) : Prop := ∀ w, Fits m w → Lib.TabIs P w "internal/strconv.uint64pow10" .u64 Lib.pow10Tab
theorem Fits.le {m m' : Mem} {w : World} (h : Fits m' w) (hm : m.le m') : Fits m w := fun b o hb => h b o (hm b o hb)
theorem Tab.up {P : Program} {m m' : Mem} (h : Tab P m) (hm : m.le m') : Tab P m' := fun w hf => h w (hf.le hm)
end Go.Cy
