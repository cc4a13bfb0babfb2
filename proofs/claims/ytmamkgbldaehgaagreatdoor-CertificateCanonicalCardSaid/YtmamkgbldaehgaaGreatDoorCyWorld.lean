/- From a walk of this calculus to a row and its card. -/
import Derived.Test.YtmamkgbldaehgaaGreatDoorCyShelf
import Derived.Test.YtmamkgbldaehgaaGreatDoorCards
import Derived.Test.YtmamkgbldaehgaaGreatDoorTie
import Derived.WalkKit
import Derived.ProofKit
import Derived.OpenShut
import Derived.Below
import Derived.ChangeSame
import Derived.Deep.DeepHandedRow
import Derived.SevenTiedAt
import Derived.Lay
import Derived.Test.YtmamkgbldaehgaaGreatDoorCyDecP
import Derived.Stop.LaidErr
namespace Go.Cy
open Go Go.RowKit Go.WideShapes Go.ChangeShapes

def all0 (W : World) : Mem := fun b => W.heap[b]?
theorem fits_all0 (W : World) : Fits (all0 W) W := fun _ _ h => h
theorem below_of_st {W w' : World} {m' : Mem} {H' : Hp} (h : St ⟨W, all0 W, []⟩ m' H' w') : Below W.heap.size W w' :=
  ⟨h.os, h.tape, h.output, h.size, fun k hk => h.old k hk List.not_mem_nil⟩
theorem calls_of_pure {P : Program} {f : FuncId} {args : Array Value} {W : World} {v : Value} (h : Pure P f args (all0 W) fun r _ => r = v) : Calls P f args W fun e w' => e = .returned v ∧ Below W.heap.size W w' := by
  refine Calls.mono (h W (fits_all0 W) (fun _ _ hb => absurd hb List.not_mem_nil) List.nodup_nil (fun _ _ hb => absurd hb List.not_mem_nil)) fun e w' he => ?_
  cases e with
  | returned r => obtain ⟨m', H', hst, _, rfl⟩ := he; exact ⟨rfl, below_of_st hst⟩
  | panicked c => exact he.elim
  | outgrown => exact he.elim

section
variable {H : Type} {enc : TypeId × Value → H} {P : Program}
theorem post_of_below {f : Func} {s : ChangeSpec} {apart fresh handsOn again : Bool} {W W' : World} {args : Array Value} {v : Value} {ds gs : List (DataW H)} {before pa pv : List MemPlace}
    (hW : DataW.Whole enc P f.params.toList s.vars apart W args.toList ds gs before)
    (hres : ∀ (b : Nat) (sp : Nat → Bool) (hd : Bool), DataW.TrodAll enc P W' b sp hd f.resultTypes.toList (v.resultList f.resultTypes.size) (s.fn H (ds ++ gs)).results [])
    (hargs : ∀ sp : Nat → Bool, (∀ p ∈ before, sp p.block = true) → DataW.TrodAll enc P W' 0 sp true f.params.toList args.toList (s.fn H (ds ++ gs)).args pa)
    (hvars : ∀ sp : Nat → Bool, (∀ p ∈ before, sp p.block = true) → DataW.TrodVars enc P W' sp s.vars (s.fn H (ds ++ gs)).vars pv)
    (hps : before = pa ++ pv) (hb : Below W.heap.size W W')
    (hok : ∀ (j : Nat) (t : TypeId) (r : Value), f.resultTypes[j]? = some t → (v.resultList f.resultTypes.size)[j]? = some r → Value.okWide P W' .any 0 t r) :
    s.post enc P f apart fresh handsOn again W args v W' := by
  have hlt : ∀ p ∈ before, p.block < W.heap.size := fun p hp => hW.lt p hp
  have hold : ∀ p ∈ before, (fun b => decide (b < W.heap.size)) p.block = true := fun p hp => by simpa using hlt p hp
  refine ⟨ds, gs, before, [], pa, pv, hW, hres _ _ _, hargs _ hold, hvars _ hold, World.keptBut_mono (fun p hp => ⟨hp, ?_⟩) (hb.frame (· ∈ before)), fun _ => ?_⟩
  · rw [hps, List.mem_append] at hp
    exact Or.inr hp
  · obtain ⟨_, _, _, _, _, hz, hn⟩ := hW
    refine ⟨hok, _, _, ([] ++ pa) ++ pv, ⟨[] ++ pa, pv, trodAll_append (hargs _ (fun _ _ => rfl)) (hres _ _ _), hvars _ (fun _ _ => rfl), rfl, ?_, ?_⟩, ?_⟩
    · intro b off hp
      have hin : MemPlace.cell b off ∈ before := by rw [hps]; simpa using hp
      rw [hb.frozen (hlt _ hin)]
      exact hz b off hin
    · intro ha
      have := hn ha
      rw [hps] at this
      simpa using this
    · intro p hp _
      rw [hps]
      simpa using hp
end

theorem laidMet_tail {P : Program} {x : String × DataW Unit} {l : List (String × DataW Unit)} {W : World} (h : laidMet P (x :: l) W) : laidMet P l W := by
  obtain ⟨n, d⟩ := x
  obtain ⟨ps, ⟨g, t, cs, fuel, p, q, _, _, _, _, hq, rfl⟩, hn, hc⟩ := h
  exact ⟨q, hq, (List.nodup_append.1 hn).2.1, fun b off hb => hc b off (List.mem_append_right _ hb)⟩
theorem tab_of_world {P : Program} {W : World} (h : Lib.TabIs P W "internal/strconv.uint64pow10" .u64 Lib.pow10Tab) : Tab P (all0 W) := by
  intro w hf
  unfold Lib.TabIs World.var? at *
  cases hg : P.globalNamed "internal/strconv.uint64pow10" with
  | none => rw [hg] at h; simp at h
  | some g =>
    rw [hg] at h
    simp only [Option.bind_some] at h ⊢
    cases ho : W.heap[g]? with
    | none => rw [ho] at h; simp at h
    | some o => rw [ho] at h; rw [hf g o ho]; exact h
end Go.Cy

/- What the laid variables give to the walks. -/
namespace Go.Cy
open Go Go.Proofs
open Go.RowKit

theorem cell_all0 {W w : World} (hf : Fits (all0 W) w) {a : Addr} {v : Value} (h : W.cell? a = some v) : w.cell? a = some v := by
  unfold World.cell? at h ⊢
  cases ho : W.heap[a.block]? with
  | none => rw [ho] at h; simp at h
  | some o => rw [ho] at h; rw [hf a.block o ho]; exact h
theorem wd_of_world {W : World} (h : W.ShapedOpen Tryz.prog) : Wd (all0 W) := by
  obtain ⟨k, hk⟩ := Go.Proofs.cell_of_shapedOpen_int (g := 2) (zero := #[.int .i64 0]) (t := 3) h (of_decide_eq_true (by kernel_rfl)) (by kernel_rfl) rfl (by kernel_rfl) (by kernel_rfl) Tryz.underlying3
  exact ⟨k, fun w hf => cell_all0 hf hk⟩
theorem gES : Tryz.prog.globalNamed "strconv.ErrSyntax" = some 0 := by kernel_rfl
theorem gESType : (Tryz.prog.globals[0]?).map (·.type) = some 183 := by kernel_rfl
theorem gER : Tryz.prog.globalNamed "strconv.ErrRange" = some 1 := by kernel_rfl
theorem gERType : (Tryz.prog.globals[1]?).map (·.type) = some 183 := by kernel_rfl
theorem cells308 : Tryz.prog.cellsOf 308 = 1 := by kernel_rfl
theorem cells9 : Tryz.prog.cellsOf 9 = 1 := by kernel_rfl
theorem star : "*" ++ "errors.errorString" = "*errors.errorString" := by decide
theorem row306 (u : TypeId) (h : Tryz.prog.typeName? 3 u = some "*errors.errorString") : u = 306 :=
  typeName_ptr_named (nm := "errors.errorString") (by rw [star]; kernel_rfl) (by kernel_rfl) (by decide) u (by rw [star]; exact h)
theorem sentinel {W : World} {n : String} {g : Nat} {text : List UInt8} {r : List (String × DataW Unit)} (h : laidMet Tryz.prog ((n, .iface "*errors.errorString" (.ptr (.agg [.lit (.string text)]))) :: r) W) (hg : Tryz.prog.globalNamed n = some g) (ht : (Tryz.prog.globals[g]?).map (·.type) = some 183) : ∃ ev, (ev = Value.nilIface ∨ ∃ te pe, ev = .iface te pe) ∧ ∀ w, Fits (all0 W) w → w.cell? ⟨g, 0, none⟩ = some ev := by
  obtain ⟨a0, s0, hv0, -, -, -⟩ := laid_sentinel h hg ht Tryz.underlying183 row306 Tryz.underlying306 Tryz.underlying308 rfl rfl Tryz.underlying9 cells308 cells9
  exact ⟨_, .inr ⟨_, _, rfl⟩, fun w hf => cell_all0 hf (by have h0 := World.var?_cell hg hv0 0; simpa using h0)⟩
theorem er_of_laid {W : World} {t1 t2 : List UInt8} {r r' : List (String × DataW Unit)} (h0 : laidMet Tryz.prog (("strconv.ErrSyntax", .iface "*errors.errorString" (.ptr (.agg [.lit (.string t1)]))) :: r) W) (h1 : laidMet Tryz.prog (("strconv.ErrRange", .iface "*errors.errorString" (.ptr (.agg [.lit (.string t2)]))) :: r') W) : Er (all0 W) := ⟨sentinel h0 gES gESType, sentinel h1 gER gERType⟩
end Go.Cy
