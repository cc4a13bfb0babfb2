/- The plain law of checkpoly.Normal: canonical lists of terms are told by their coefficient sums. -/
import Derived.Test.YtmamkgbldaehgaaGreatDoorCyIntAdd
import Derived.Test.YtmamkgbldaehgaaGreatDoorCyRot
namespace Go.Cy
open Go Go.Proofs
set_option maxRecDepth 20000

abbrev Tm := Int × List Int
def cf (e : List Int) : List Tm → Int
  | [] => 0
  | t :: l => (if t.2 = e then t.1 else 0) + cf e l
theorem cf_app (e : List Int) (a b : List Tm) : cf e (a ++ b) = cf e a + cf e b := by
  induction a with
  | nil => simp [cf]
  | cons t a ih => simp only [List.cons_append, cf, ih]; omega
theorem cf_perm {e : List Int} {a b : List Tm} (h : a.Perm b) : cf e a = cf e b := by
  induction h with
  | nil => rfl
  | cons t _ ih => simp only [cf, ih]
  | swap t u l => simp only [cf]; omega
  | trans _ _ h1 h2 => rw [h1, h2]
theorem cf_none {e : List Int} {a : List Tm} (h : ∀ t ∈ a, t.2 ≠ e) : cf e a = 0 := by
  induction a with
  | nil => rfl
  | cons t a ih => rw [cf, if_neg (h t (List.mem_cons_self ..)), ih (fun u hu => h u (List.mem_cons_of_mem _ hu))]; rfl

theorem lxl_irrefl : ∀ (k : Nat) (a : List Int), ¬ lxl k a a
  | 0, _ => id
  | k + 1, a => by
    rintro (h | h)
    · omega
    · exact lxl_irrefl k a h.2
theorem lxl_tri : ∀ (k : Nat) (a b : List Int), (∀ i, i < k → a.getD i 0 = b.getD i 0) ∨ lxl k a b ∨ lxl k b a
  | 0, _, _ => .inl fun i h => by omega
  | k + 1, a, b => by
    rcases Int.lt_trichotomy (a.getD k 0) (b.getD k 0) with h | h | h
    · exact .inr (.inl (.inl h))
    · rcases lxl_tri k a b with h1 | h1 | h1
      · refine .inl fun i hi => ?_
        by_cases e : i = k
        · rw [e]; exact h
        · exact h1 i (by omega)
      · exact .inr (.inl (.inr ⟨h, h1⟩))
      · exact .inr (.inr (.inr ⟨h.symm, h1⟩))
    · exact .inr (.inr (.inl h))
theorem lxl_of {a b : List Int} (ha : a.length = 4) (hb : b.length = 4) (h : ¬ lxl 4 a b) (hne : a ≠ b) : lxl 4 b a := by
  rcases lxl_tri 4 a b with h1 | h1 | h1
  · refine absurd (List.ext_getElem (by omega) fun i h2 h3 => ?_) hne
    have := h1 i (by omega)
    simpa [List.getD, h2, h3] using this
  · exact absurd h1 h
  · exact h1
theorem lxl_trans {a b c : List Int} (ha : a.length = 4) (hb : b.length = 4) (hc : c.length = 4) (h1 : lxl 4 a b) (h2 : lxl 4 b c) : lxl 4 a c := by
  refine lxl_of hc ha (nlxl_trans 4 _ _ _ (lxl_asymm 4 _ _ h2) (lxl_asymm 4 _ _ h1)) fun e => ?_
  subst e
  exact lxl_asymm 4 _ _ h1 h2

def Can (l : List Tm) : Prop := l.Pairwise (fun x y => lxl 4 y.2 x.2) ∧ ∀ t ∈ l, t.1 ≠ 0 ∧ t.2.length = 4 ∧ ∀ y ∈ t.2, 0 ≤ y
theorem Can.tail {t : Tm} {l : List Tm} (h : Can (t :: l)) : Can l := ⟨(List.pairwise_cons.1 h.1).2, fun u hu => h.2 u (List.mem_cons_of_mem _ hu)⟩
theorem Can.head {t : Tm} {l : List Tm} (h : Can (t :: l)) : cf t.2 l = 0 := cf_none fun u hu e => by
  have := (List.pairwise_cons.1 h.1).1 u hu
  rw [e] at this; exact lxl_irrefl _ _ this
theorem Can.above {t : Tm} {l : List Tm} {e : List Int} (h : Can (t :: l)) (he : e.length = 4) (hl : lxl 4 t.2 e) : cf e (t :: l) = 0 := cf_none fun u hu e1 => by
  rcases List.mem_cons.1 hu with rfl | hu
  · rw [e1] at hl; exact lxl_irrefl _ _ hl
  · have h1 := (List.pairwise_cons.1 h.1).1 u hu
    rw [e1] at h1; exact lxl_asymm _ _ _ h1 hl
theorem Can.uniq : ∀ {a b : List Tm}, Can a → Can b → (∀ e, e.length = 4 → cf e a = cf e b) → a = b
  | [], [], _, _, _ => rfl
  | [], t :: l, _, hb, h => by
    have h1 := h t.2 (hb.2 t (List.mem_cons_self ..)).2.1
    rw [cf, cf, hb.head, if_pos rfl] at h1
    exact absurd h1 (by have := (hb.2 t (List.mem_cons_self ..)).1; omega)
  | t :: l, [], ha, _, h => by
    have h1 := h t.2 (ha.2 t (List.mem_cons_self ..)).2.1
    rw [cf, cf, ha.head, if_pos rfl] at h1
    exact absurd h1 (by have := (ha.2 t (List.mem_cons_self ..)).1; omega)
  | t :: l, u :: k, ha, hb, h => by
    have ht := ha.2 t (List.mem_cons_self ..)
    have hu := hb.2 u (List.mem_cons_self ..)
    by_cases e : t.2 = u.2
    · have h1 := h t.2 ht.2.1
      rw [cf, cf, ha.head, if_pos rfl, if_pos e.symm, e, hb.head] at h1
      have e2 : t = u := Prod.ext (by omega) e
      subst e2
      rw [Can.uniq ha.tail hb.tail fun e he => by have := h e he; rw [cf, cf] at this; omega]
    · exfalso
      by_cases hl : lxl 4 t.2 u.2
      · have h1 := h u.2 hu.2.1
        rw [ha.above hu.2.1 hl, cf, hb.head, if_pos rfl] at h1
        exact hu.1 (by omega)
      · have h1 := h t.2 ht.2.1
        rw [hb.above ht.2.1 (lxl_of ht.2.1 hu.2.1 hl e), cf, ha.head, if_pos rfl] at h1
        exact ht.1 (by omega)

def Abv (a : List Tm) (e : List Int) : Prop := ∀ x ∈ a, ¬ lxl 4 x.2 e
def Tok (t : Tm) : Prop := t.1 ≠ 0 ∧ t.2.length = 4 ∧ ∀ y ∈ t.2, 0 ≤ y
theorem Can.init {a : List Tm} {t : Tm} (h : Can (a ++ [t])) : Can a := ⟨(List.pairwise_append.1 h.1).1, fun u hu => h.2 u (List.mem_append_left _ hu)⟩
theorem Can.push {a : List Tm} {t : Tm} (h : Can a) (ht : Tok t) (hb : Abv a t.2) (hne : ∀ x ∈ a, x.2 ≠ t.2) : Can (a ++ [t]) := by
  refine ⟨List.pairwise_append.2 ⟨h.1, List.pairwise_singleton _ _, fun x hx y hy => ?_⟩, fun u hu => ?_⟩
  · rw [List.mem_singleton.1 hy]
    exact lxl_of (h.2 x hx).2.1 ht.2.1 (hb x hx) (hne x hx)
  · rcases List.mem_append.1 hu with hu | hu
    · exact h.2 u hu
    · rw [List.mem_singleton.1 hu]; exact ht
theorem Can.others {a : List Tm} {u : Tm} {e : List Int} (h : Can (a ++ [u])) (he : e.length = 4) (hb : ¬ lxl 4 u.2 e) (hne : u.2 ≠ e) : ∀ x ∈ a ++ [u], x.2 ≠ e := by
  have hu := h.2 u (List.mem_append_right _ (List.mem_singleton.2 rfl))
  have h1 : lxl 4 e u.2 := lxl_of hu.2.1 he hb hne
  intro x hx ex
  rcases List.mem_append.1 hx with hx | hx
  · have h2 := (List.pairwise_append.1 h.1).2.2 x hx u (List.mem_singleton.2 rfl)
    rw [ex] at h2; exact lxl_asymm _ _ _ h1 h2
  · rw [List.mem_singleton.1 hx] at ex; exact hne ex
theorem Can.set {a : List Tm} {z w : Int} {e : List Int} (h : Can (a ++ [(z, e)])) (hw : w ≠ 0) : Can (a ++ [(w, e)]) := by
  have hu := h.2 _ (List.mem_append_right _ (List.mem_singleton.2 rfl))
  refine ⟨List.pairwise_append.2 ⟨(List.pairwise_append.1 h.1).1, List.pairwise_singleton _ _, fun x hx y hy => ?_⟩, fun u hu' => ?_⟩
  · rw [List.mem_singleton.1 hy]
    exact (List.pairwise_append.1 h.1).2.2 x hx (z, e) (List.mem_singleton.2 rfl)
  · rcases List.mem_append.1 hu' with hu' | hu'
    · exact h.2 u (List.mem_append_left _ hu')
    · rw [List.mem_singleton.1 hu']; exact ⟨hw, hu.2⟩
theorem cf_set (a : List Tm) (z w : Int) (e f : List Int) : cf f (a ++ [(z + w, e)]) = cf f (a ++ [(z, e)]) + cf f [(w, e)] := by
  simp only [cf_app, cf]; split <;> omega
theorem cf_gone {a : List Tm} {z w : Int} {e : List Int} (h : z + w = 0) (f : List Int) : cf f a = cf f (a ++ [(z, e)]) + cf f [(w, e)] := by
  simp only [cf_app, cf]; split <;> omega
end Go.Cy


/- Arrays: a slice of all of one; comparison. -/
namespace Go.Cy
open Go Go.Proofs
set_option maxRecDepth 20000
section
variable {P : Program}
theorem run_part1 (w : World) {E : TypeId} {k : IntKind} (hE : P.underlying E = some (.int k)) (hs : sizeIs P E 1) {cs : Array Value} {i : Nat} {v : Value} (h : cs[i]? = some v) : (part E cs i).run P w = .ok v w := by
  simp [part, isAgg, underlying, hE, run_sizeOf hs, h]
theorem run_eq_int (w : World) (dp : Nat) {E : TypeId} {k : IntKind} (hE : P.underlying E = some (.int k)) (a b : Int) : (Op.equalIn (dp + 1) E (.int k a) (.int k b)).run P w = .ok (a == b) w := by
  simp [Op.equalIn, run_underlying hE]
theorem run_eq_arr4 (w : World) (dp : Nat) {T E : TypeId} {k : IntKind} (ht : P.underlying T = some (.array 4 E)) (hE : P.underlying E = some (.int k)) (hs : sizeIs P E 1) (a0 a1 a2 a3 b0 b1 b2 b3 : Int) :
    (Op.equalIn (dp + 2) T (.agg #[.int k a0, .int k a1, .int k a2, .int k a3]) (.agg #[.int k b0, .int k b1, .int k b2, .int k b3])).run P w = .ok (decide (a0 = b0 ∧ a1 = b1 ∧ a2 = b2 ∧ a3 = b3)) w := by
  rw [Op.equalIn]
  simp [run_underlying ht, run_sizeOf hs]
  rw [show List.range' 0 4 = [0, 1, 2, 3] from rfl]
  have p0 : ∀ (x0 x1 x2 x3 : Int) (w : World), (part E #[.int k x0, .int k x1, .int k x2, .int k x3] 0).run P w = .ok (.int k x0) w := fun _ _ _ _ w => run_part1 w hE hs rfl
  have p1 : ∀ (x0 x1 x2 x3 : Int) (w : World), (part E #[.int k x0, .int k x1, .int k x2, .int k x3] 1).run P w = .ok (.int k x1) w := fun _ _ _ _ w => run_part1 w hE hs rfl
  have p2 : ∀ (x0 x1 x2 x3 : Int) (w : World), (part E #[.int k x0, .int k x1, .int k x2, .int k x3] 2).run P w = .ok (.int k x2) w := fun _ _ _ _ w => run_part1 w hE hs rfl
  have p3 : ∀ (x0 x1 x2 x3 : Int) (w : World), (part E #[.int k x0, .int k x1, .int k x2, .int k x3] 3).run P w = .ok (.int k x3) w := fun _ _ _ _ w => run_part1 w hE hs rfl
  have hq : ∀ (a b : Int) (w : World), (Op.equalIn (dp + 1) E (.int k a) (.int k b)).run P w = .ok (a == b) w := fun a b w => run_eq_int w dp hE a b
  by_cases h0 : a0 = b0 <;> by_cases h1 : a1 = b1 <;> by_cases h2 : a2 = b2 <;> by_cases h3 : a3 = b3 <;> simp [p0, p1, p2, p3, hq, h0, h1, h2, h3]
theorem run_equal_arr4 (w : World) {T E : TypeId} {k : IntKind} (ht : P.underlying T = some (.array 4 E)) (hE : P.underlying E = some (.int k)) (hs : sizeIs P E 1) (a0 a1 a2 a3 b0 b1 b2 b3 : Int) :
    (Op.equal T (.agg #[.int k a0, .int k a1, .int k a2, .int k a3]) (.agg #[.int k b0, .int k b1, .int k b2, .int k b3])).run P w = .ok (decide (a0 = b0 ∧ a1 = b1 ∧ a2 = b2 ∧ a3 = b3)) w := run_eq_arr4 w 9998 ht hE hs ..
end
section
variable {P : Program} {n : Nat} {env : Env} {m : Mem} {H : Hp} {d : Option Nat} {ty : TypeId} {pos : String} {aft : Array Edge} {g : Option (Nat × Bool)} {x y : Operand}
theorem x_sliceArr {T E : TypeId} {s N b o : Nat} (ht : P.underlying T = some (.array N E)) (hs : sizeIs P E s) (hx : ev env x = some (.pointer (some ⟨b, o, none⟩))) :
    Ex P n ⟨d, .slice T x none none none, ty, pos, aft, g⟩ env m H (.slice (some ⟨b, o, none⟩) N N) := fun a w ha hf hh => by
  by_cases hN : N = 0
  · subst hN
    simp [execOp, ha.ev hx, Instr.sliceAt, Instr.sureAddr, Instr.slice, Instr.sliceBounds, underlying, ht, run_sizeOf hs, offTo]
  · simp [execOp, ha.ev hx, Instr.sliceAt, Instr.sureAddr, Instr.slice, Instr.sliceBounds, underlying, ht, run_sizeOf hs, offTo, hN, add_none]
theorem guard_arr {d : Nat} {T E : TypeId} {k : IntKind} (ht : P.underlying T = some (.array 4 E)) (hE : P.underlying E = some (.int k)) : P.eqGuardType d T = false ∨ d < 2 := by
  rcases d with _ | _ | d
  · exact .inr (by omega)
  · exact .inr (by omega)
  · left; simp [Program.eqGuardType, ht, hE]
theorem x_neqArr {T T' E : TypeId} {k : IntKind} {a0 a1 a2 a3 b0 b1 b2 b3 : Int} (ht : P.underlying T = some (.array 4 E)) (hE : P.underlying E = some (.int k)) (hs : sizeIs P E 1) (hd : 2 ≤ P.depth) (hx : ev env x = some (.agg [.int k a0, .int k a1, .int k a2, .int k a3].toArray)) (hy : ev env y = some (.agg [.int k b0, .int k b1, .int k b2, .int k b3].toArray)) :
    Ex P n ⟨d, .binOp .neq T x y T', ty, pos, aft, g⟩ env m H (.bool (!decide (a0 = b0 ∧ a1 = b1 ∧ a2 = b2 ∧ a3 = b3))) := fun a w ha _ _ => by
  have hg : P.eqGuardType P.depth T = false := (guard_arr ht hE).resolve_right (by omega)
  have h1 : ∀ u v, binOp .neq T (.agg u) (.agg v) = (do pure (.bool (!(← Op.equal T (.agg u) (.agg v))))) := fun _ _ => rfl
  simp only [execOp, ha.ev hx, ha.ev hy, eqGuard, h1]
  have := run_equal_arr4 w ht hE hs a0 a1 a2 a3 b0 b1 b2 b3
  have hp : ∀ w : World, (Sem.program Sem.pure).run P w = .ok P w := fun _ => rfl
  simp [program, hp, hg, this]
end
end Go.Cy


/- make with a length below the capacity. -/
namespace Go.Cy
open Go Go.Proofs
section
variable {P : Program} {n : Nat} {K : Ctx} {Q : Exit → Act → World → Prop} {rest : List Oper} {env : Env} {m : Mem} {H : Hp} {ops : Array Oper}
variable {ty : TypeId} {pos : String} {aft : Array Edge} {g : Option (Nat × Bool)} {x y : Operand} {v : Value} {dd : Nat}
theorem wl_makeCap {T E : TypeId} {s k L N : Nat} {zs : List Value} {p q : Int} (hg : gd ops env g = some true) (hd : Nat.blt dd n = true) (ht : P.underlying T = some (.slice E)) (hs : sizeIs P E s) (hb : bytesIs P E k) (hz : zeroIs P E zs) (hzs : zs.length = s)
    (hx : ev env x = some (.int .i64 p)) (hy : ev env y = some (.int .i64 q)) (hp : p = (L : Int)) (hLN : L ≤ N) (hq : q = (N : Int)) (hN : N ≤ 9223372036854775807) (hbd : k * N ≤ 281474976710656)
    (h : ∀ b, WL P n K ops Q rest ((dd, .slice (some ⟨b, 0, none⟩) L N) :: env) m ((b, cl E (reps N zs)) :: H)) : WL P n K ops Q (⟨some dd, .makeSlice T x y, ty, pos, aft, g⟩ :: rest) env m H := by
  subst hp; subst hq
  obtain ⟨i, z, hi, hi1, hi2, hi3, hi4⟩ := info_of hs hb hz
  refine wl_new (v := fun b => .slice (some ⟨b, 0, none⟩) L N) (ob := cl E (reps N zs)) hg rfl hd (fun a w ha _ _ => ?_) h
  have w1 : IntKind.i64.wrap (N : Int) = N := wrap_i64 (by omega) (by omega)
  have n1 : ¬ ((N : Int) < 0) := by omega
  have w2 : IntKind.i64.wrap (L : Int) = L := wrap_i64 (by omega) (by omega)
  have n3 : ¬ ((L : Int) < 0) := by omega
  have n4 : ¬ ((N : Int) < L) := by omega
  have n5 : ¬ (281474976710656 < (i.bytes : Int) * L) := by
    have : i.bytes * L ≤ i.bytes * N := Nat.mul_le_mul_left _ hLN
    rw [hi2] at this ⊢; have e : ((k : Int) * L) = ((k * L : Nat) : Int) := by simp
    have e' : k * L ≤ k * N := this
    omega
  have n2 : ¬ (281474976710656 < (i.bytes : Int) * N) := by rw [hi2]; omega
  have e1 : ((Array.range (N * i.size)).map fun j => z.cells[j % z.cells.size]!) = (reps N zs).toArray := by
    rw [hi1, hi4, ← hzs]; exact range_reps zs N
  by_cases h0 : N * i.size = 0
  · have e2 : reps N zs = [] := by
      have := reps_length N zs
      rw [hzs, ← hi1, h0] at this
      exact List.length_eq_zero_iff.1 this
    simp [execOp, ha.ev hx, ha.ev hy, Instr.makeSlice, underlying, ht, typeInfo, hi, asInt, asIntOf, w1, w2, n1, n2, n3, n4, n5, hLN, sizeOf, newRow, cl, e2]
    rw [if_pos (by simpa using h0)]
    simp [h0]
    have e3 : (Array.range 0).map (fun _ => (default : Value)) = #[] := by apply Array.ext <;> simp
    rw [e3]
  · simp [execOp, ha.ev hx, ha.ev hy, Instr.makeSlice, underlying, ht, typeInfo, hi, asInt, asIntOf, w1, w2, n1, n2, n3, n4, n5, hLN, sizeOf, newRow, cl]
    rw [if_neg (by simpa using h0)]
    simp [zeroValue, typeInfo, hi, hi3, ← e1]
theorem wl_appendIn {T T' E D : TypeId} {s len cap len' b : Nat} {xs news : List Value} {H0 : Hp} {ay : Option Addr} {capy : Nat} {tys : Array TypeId}
    (hg : gd ops env g = some true) (hd : Nat.blt dd n = true) (hT : tys = #[T, T']) (ht : P.underlying T = some (.slice E)) (ht' : P.underlying T' = some (.slice D)) (hs : sizeIs P E s)
    (hx : ev env x = some (.slice (some ⟨b, 0, none⟩) len cap)) (hH : H.Perm ((b, cl E xs) :: H0)) (hy : ev env y = some (.slice ay len' capy)) (hxl : xs.length = cap * s) (hl : news.length = len' * s) (hr : len' = 0 ∨ ∃ b o, ay = some ⟨b, o, none⟩ ∧ Row m H b o news) (h1 : ∀ u ∈ news, u.oneCell' = true)
    (hfit : len + len' ≤ cap)
    (h : WL P n K ops Q rest ((dd, .slice (some ⟨b, 0, none⟩) (len + len') cap) :: env) m ((b, cl E (splice xs (len * s) news)) :: H0)) : WL P n K ops Q (⟨some dd, .call ⟨.builtin .append, [x, y].toArray, tys⟩, ty, pos, aft, g⟩ :: rest) env m H := by
  subst hT
  intro a w ha hst1
  have hst := hst1.perm hH
  unfold wpList
  rw [if_pos (ha.wanted hg)]
  refine .inl ?_
  have hnews : (Builtin.firstCells s len' (.slice ay len' capy)).run P w = .ok news.toArray w := by
    rcases hr with h0 | ⟨b, o, rfl, hrow⟩
    · subst h0
      have : news = [] := List.length_eq_zero_iff.1 (by simpa using hl)
      subst this
      cases ay <;> simp [Builtin.firstCells, loadCells, loadCellsFrom]
    · exact firstCells_row hrow hst1.mem hst1.heap hl
  obtain ⟨w', hrun, e1, e2, e3, e4, e5, e6⟩ := run_storeCells' (P := P) (b := b) (T := E) news (len * s) 0 xs w (hst.heap b _ (.head _)) (by rw [hxl, hl, Nat.add_zero, ← Nat.add_mul]; exact Nat.mul_le_mul_right _ hfit) h1
  have hadd : (⟨b, 0, none⟩ : Addr).add (len * s) = ⟨b, len * s, none⟩ := by rw [add_none, Nat.zero_add]
  have hx' : (execOp a.eval ⟨some dd, .call ⟨.builtin .append, [x, y].toArray, #[T, T']⟩, ty, pos, aft, g⟩).run P w = .ok (.value (.slice (some ⟨b, 0, none⟩) (len + len') cap)) w' := by
    simp [execOp, resolve, invoke, builtin, ha.ev hx, ha.ev hy, Builtin.append_, underlying, ht, ht', run_sizeOf hs, Builtin.lenOf, hnews, hfit, hadd, hrun]
  unfold Oper.wp
  rw [hx', Oper.upon_value]
  exact h _ w' (ha.put _ hd) (St.write hst e1 e2 e3 e4 (by simpa using e5) e6)
end
theorem DStep.mono {P : Program} {n : Nat} {ops : Array Oper} {Q : Exit → Act → World → Prop} {o : Oper} {env : Env} {m : Mem} {H : Hp} {φ ψ : Value → Mem → Hp → Prop} (h : DStep P n ops Q o env m H φ) (hi : ∀ v m' h, m.le m' → φ v m' h → ψ v m' h) : DStep P n ops Q o env m H ψ := by
  intro a w ha hf hh
  have := h a w ha hf hh
  split at this
  · rename_i hw
    rw [if_pos hw]
    exact Oper.wp_mono (fun a' w' ⟨v, m', h', e1, e2, e3⟩ => ⟨v, m', h', e1, e2, hi _ _ _ e2.le e3⟩) this
  · rename_i hw
    rw [if_neg hw]; exact hi _ _ _ (Mem.le.refl _) this
end Go.Cy


/- math/bits.Len32; natural.BitLen, Uint64. -/
namespace Go.Cy
open Go Go.Proofs
set_option maxRecDepth 20000

theorem u8n {p : Int} {r : Nat} (h : p = r) (h2 : r ≤ 255) : IntKind.u8.wrap p = (r : Int) := by rw [wrap_u8_in (by omega) (by omega)]; exact h
theorem len_two {ds : List Nat} (h : ds.length = 2) : ∃ d e, ds = [d, e] := by
  match ds, h with
  | [d, e], _ => exact ⟨d, e, rfl⟩

theorem len32_ok {m : Mem} {x : Nat} (hx : x < 4294967296) : Pure Tryz.prog 176 #[.int .u32 x] m fun v _ => v = .int .i64 (blen x) := by
  have b0 : ∀ y, y < 256 → blen y ≤ 8 := fun y h => blen_le.2 (by simpa using h)
  refine enterp Tryz.func176 rfl rfl ?_
  intro K hm0 hks
  refine wsr ?_
  refine was ?_
  refine wns ?_
  refine w_seq ?_
  refine wsr ?_
  refine wmv ?_
  refine wv (x_geq rfl rfl) ?_
  refine wns ?_
  refine w_if rfl (fun h1 => ?_) (fun h1 => ?_)
  · skip
    have e1 := blen_shr (n := x) (k := 16) (by omega)
    refine wsr ?_
    refine wmv ?_
    refine wv (x_shr rfl rfl (by omega) (shr_nat x 16 32 (by omega))) ?_
    refine was ?_
    refine wns ?_
    refine w_region ?_
    refine was ?_
    refine wns ?_
    refine w_seq ?_
    refine wsr ?_
    refine wmv ?_
    refine wv (x_geq rfl rfl) ?_
    refine wns ?_
    refine w_if rfl (fun h2 => ?_) (fun h2 => ?_)
    · skip
      have e2 := blen_shr (n := x / 2 ^ 16) (k := 8) (by omega)
      refine wsr ?_
      refine wmv ?_
      refine wv (x_shr rfl rfl (by omega) (shr_nat (x / 2 ^ 16) 8 32 (by omega))) ?_
      refine was ?_
      refine wns ?_
      refine w_region ?_
      refine wmv ?_
      refine wv (x_add rfl rfl (wrap_i64 (by omega) (by omega))) ?_
      refine was ?_
      refine wnr ?_
      refine wmv ?_
      refine wmv ?_
      refine wv (x_conv Tryz.underlying51 Tryz.underlying5 rfl (u8n (r := x / 2 ^ 16 / 2 ^ 8) (by omega) (by omega))) ?_
      refine wv (x_indexLen Tryz.underlying9 rfl rfl rfl (by omega) (by decide +kernel)) ?_
      have := b0 (x / 2 ^ 16 / 2 ^ 8) (by omega)
      refine wv (x_conv Tryz.underlying5 Tryz.underlying3 rfl (wrap_i64 (by omega) (by omega))) ?_
      refine wv (x_add rfl rfl (wrap_i64 (by omega) (by omega))) ?_
      refine was ?_
      refine wns ?_
      refine w_ret ?_
      refine at_endp (res1 rfl rfl) ?_
      simp only [Value.int.injEq, true_and]
      omega
    · skip
      refine w_skip ?_
      refine at_seq ?_
      refine wsr ?_
      refine wmv ?_
      refine wmv ?_
      refine wv (x_conv Tryz.underlying51 Tryz.underlying5 rfl (u8n (r := x / 2 ^ 16) (by omega) (by omega))) ?_
      refine wv (x_indexLen Tryz.underlying9 rfl rfl rfl (by omega) (by decide +kernel)) ?_
      have := b0 (x / 2 ^ 16) (by omega)
      refine wv (x_conv Tryz.underlying5 Tryz.underlying3 rfl (wrap_i64 (by omega) (by omega))) ?_
      refine wv (x_add rfl rfl (wrap_i64 (by omega) (by omega))) ?_
      refine was ?_
      refine wns ?_
      refine w_ret ?_
      refine at_endp (res1 rfl rfl) ?_
      simp only [Value.int.injEq, true_and]
      omega
  · skip
    refine w_skip ?_
    refine at_seq ?_
    refine w_seq ?_
    refine wsr ?_
    refine wmv ?_
    refine wv (x_geq rfl rfl) ?_
    refine wns ?_
    refine w_if rfl (fun h2 => ?_) (fun h2 => ?_)
    · skip
      have e2 := blen_shr (n := x) (k := 8) (by omega)
      refine wsr ?_
      refine wmv ?_
      refine wv (x_shr rfl rfl (by omega) (shr_nat x 8 32 (by omega))) ?_
      refine was ?_
      refine wns ?_
      refine w_region ?_
      refine wmv ?_
      refine wv (x_add rfl rfl (wrap_i64 (by omega) (by omega))) ?_
      refine was ?_
      refine wnr ?_
      refine wmv ?_
      refine wmv ?_
      refine wv (x_conv Tryz.underlying51 Tryz.underlying5 rfl (u8n (r := x / 2 ^ 8) (by omega) (by omega))) ?_
      refine wv (x_indexLen Tryz.underlying9 rfl rfl rfl (by omega) (by decide +kernel)) ?_
      have := b0 (x / 2 ^ 8) (by omega)
      refine wv (x_conv Tryz.underlying5 Tryz.underlying3 rfl (wrap_i64 (by omega) (by omega))) ?_
      refine wv (x_add rfl rfl (wrap_i64 (by omega) (by omega))) ?_
      refine was ?_
      refine wns ?_
      refine w_ret ?_
      refine at_endp (res1 rfl rfl) ?_
      simp only [Value.int.injEq, true_and]
      omega
    · skip
      refine w_skip ?_
      refine at_seq ?_
      refine wsr ?_
      refine wmv ?_
      refine wmv ?_
      refine wv (x_conv Tryz.underlying51 Tryz.underlying5 rfl (u8n (r := x) (by omega) (by omega))) ?_
      refine wv (x_indexLen Tryz.underlying9 rfl rfl rfl (by omega) (by decide +kernel)) ?_
      have := b0 x (by omega)
      refine wv (x_conv Tryz.underlying5 Tryz.underlying3 rfl (wrap_i64 (by omega) (by omega))) ?_
      refine wv (x_add rfl rfl (wrap_i64 (by omega) (by omega))) ?_
      refine was ?_
      refine wns ?_
      refine w_ret ?_
      refine at_endp (res1 rfl rfl) ?_
      simp only [Value.int.injEq, true_and]
      omega

theorem blen_nv {ds : List Nat} (hn : norm ds) (hb : okd ds) (hk : ds.length - 1 < ds.length) : blen (nv ds) = 32 * (ds.length - 1) + blen ds[ds.length - 1] := by
  have h0 : ds[ds.length - 1] ≠ 0 := by
    intro e
    refine hn ?_
    rw [List.getLast?_eq_getElem?, List.getElem?_eq_getElem hk, e]
  have e1 : nv ds = nv (ds.take (ds.length - 1)) + 2 ^ (32 * (ds.length - 1)) * ds[ds.length - 1] := by
    have := nv_take_succ hk
    rw [show ds.length - 1 + 1 = ds.length by omega, List.take_length] at this
    rw [this, Nat.pow_mul]
  have h1 := nv_lt (okd_take hb (ds.length - 1))
  rw [List.length_take, Nat.min_eq_left (by omega), show 4294967296 = 2 ^ 32 from rfl, ← Nat.pow_mul] at h1
  have hp : 0 < 2 ^ (32 * (ds.length - 1)) := Nat.pow_pos (by omega)
  have e2 : nv ds / 2 ^ (32 * (ds.length - 1)) = ds[ds.length - 1] := by
    rw [e1, Nat.add_mul_div_left _ _ hp, Nat.div_eq_of_lt h1, Nat.zero_add]
  have h2 : 2 ^ (32 * (ds.length - 1)) ≤ nv ds := by
    rw [e1]
    have := Nat.mul_le_mul_left (2 ^ (32 * (ds.length - 1))) (Nat.pos_of_ne_zero h0)
    omega
  rw [blen_shr h2, e2, Nat.add_comm]

theorem BitLen_ok {m : Mem} {v : Value} {x : Nat} (h : Nt m v x) : Pure Tryz.prog 213 #[v] m fun r _ => r = .int .i64 (blen x) := by
  refine enterp Tryz.func213 rfl rfl ?_
  intro K hm0 hks
  refine wsr ?_
  refine was ?_
  refine wnr ?_
  refine wmv ?_
  refine wl_callp rfl rfl rfl Tryz.c151 (trim_ok h) ?_; rintro v1 m1 hm1 ⟨ds, ⟨hb, hl, a, cap, rfl, hc, hr⟩, rfl, hn⟩
  refine was ?_
  refine wns ?_
  refine w_seq ?_
  refine wsr ?_
  refine wmv ?_
  refine wv (x_len Tryz.underlying47 rfl rfl) ?_
  refine wv (x_eql rfl rfl) ?_
  refine wns ?_
  refine w_if rfl (fun h0 => ?_) (fun h0 => ?_)
  · skip
    have : ds = [] := List.length_eq_zero_iff.1 (by omega)
    subst this
    refine wsr ?_
    refine was ?_
    refine wns ?_
    refine w_ret ?_
    refine at_then_ret ?_
    refine at_endp (res1 rfl rfl) ?_
    rfl
  · skip
    have hk : ds.length - 1 < ds.length := by omega
    obtain ⟨ba, oa, rfl, hra⟩ := hr (by omega)
    have hd := hb _ (List.getElem_mem hk)
    have hd2 : blen ds[ds.length - 1] ≤ 32 := blen_le.2 (by simpa using hd)
    refine w_skip ?_
    refine at_seq ?_
    refine wsr ?_
    refine wmv ?_
    refine wv (x_len Tryz.underlying47 rfl rfl) ?_
    refine wv (x_sub rfl rfl (wrap_i64 (by omega) (by omega))) ?_
    refine wv (x_mul rfl rfl (wrap_i64 (by omega) (by omega))) ?_
    refine wmv ?_
    refine wmv ?_
    refine wv (x_len Tryz.underlying47 rfl rfl) ?_
    refine wv (x_sub rfl rfl (wrap_i64 (by omega) (by omega))) ?_
    refine wv (x_index Tryz.underlying47 Tryz.size51 rfl rfl (j := (ds.length - 1)) (by omega) (by omega)) ?_
    refine wv (x_load Tryz.plain51 rfl ((hra.heap.nth (ds.length - 1) (dsv_get hk) (by omega)))) ?_
    refine wl_callp rfl rfl rfl Tryz.c176 (len32_ok hd) ?_; rintro v2 m2 hm2 rfl
    refine wv (x_add rfl rfl (wrap_i64 (by omega) (by omega))) ?_
    refine was ?_
    refine wns ?_
    refine w_ret ?_
    refine at_endp (res1 rfl rfl) ?_
    simp only [Value.int.injEq, true_and]
    rw [blen_nv hn hb hk]
    omega

theorem Uint64_ok {m : Mem} {v : Value} {x : Nat} (h : Nt m v x) : Pure Tryz.prog 190 #[v] m fun r _ => r = .tuple #[.int .u64 (if x < 18446744073709551616 then x else 0 : Nat), .bool (decide (x < 18446744073709551616))] := by
  refine enterp Tryz.func190 rfl rfl ?_
  intro K hm0 hks
  refine wsr ?_
  refine was ?_
  refine was ?_
  refine wnr ?_
  refine wmv ?_
  refine wl_callp rfl rfl rfl Tryz.c151 (trim_ok h) ?_; rintro v1 m1 hm1 ⟨ds, ⟨hb, hl, a, cap, rfl, hc, hr⟩, rfl, hn⟩
  refine was ?_
  refine wns ?_
  refine w_seq ?_
  refine wsr ?_
  refine wmv ?_
  refine wv (x_len Tryz.underlying47 rfl rfl) ?_
  refine wns ?_
  refine w_block ?_
  refine wsr ?_
  refine wv (x_eql rfl rfl) ?_
  refine was ?_
  refine wns ?_
  refine w_if rfl (fun h0 => ?_) (fun h0 => ?_)
  · skip
    have : ds = [] := List.length_eq_zero_iff.1 (by omega)
    subst this
    refine wsr ?_
    refine was ?_
    refine was ?_
    refine wns ?_
    refine w_ret ?_
    refine at_block_ret ?_
    refine at_then_ret ?_
    refine at_endp (res2 rfl rfl rfl) ?_
    rfl
  · skip
    obtain ⟨ba, oa, rfl, hra⟩ := hr (by omega)
    refine wsr ?_
    refine wv (x_eql rfl rfl) ?_
    refine was ?_
    refine wns ?_
    refine w_if rfl (fun h1 => ?_) (fun h1 => ?_)
    · skip
      obtain ⟨d, rfl⟩ : ∃ d, ds = [d] := List.length_eq_one_iff.1 (by omega)
      have hd : d < 4294967296 := hb d (by simp)
      refine wsr ?_
      refine wmv ?_
      refine wv (x_index Tryz.underlying47 Tryz.size51 rfl rfl (j := 0) (by omega) (by omega)) ?_
      refine wv (x_load Tryz.plain51 rfl ((hra.heap.nth 0 (dsv_get (by simp)) (by omega)))) ?_
      refine wv (x_conv Tryz.underlying51 Tryz.underlying111 rfl (u64n (r := d) (by simp) (by omega))) ?_
      refine was ?_
      refine was ?_
      refine wns ?_
      refine w_ret ?_
      refine at_block_ret ?_
      refine at_then_ret ?_
      refine at_endp (res2 rfl rfl rfl) ?_
      simp [nv, show d < 18446744073709551616 by omega]
    · skip
      refine wsr ?_
      refine wv (x_eql rfl rfl) ?_
      refine was ?_
      refine wns ?_
      refine w_if rfl (fun h2 => ?_) (fun h2 => ?_)
      · skip
        obtain ⟨d, e, rfl⟩ : ∃ d e, ds = [d, e] := len_two (by omega)
        have hd : d < 4294967296 := hb d (by simp)
        have he : e < 4294967296 := hb e (by simp)
        refine w_seq ?_
        refine dr_start [] [[], [0], [1], [2], [3], [], [5], [6], [7]] ?_
        refine dr_val rfl rfl (fun m' hm' => ds_val rfl (x_move rfl)) ?_
        refine dr_val rfl rfl (fun m' hm' => ds_val rfl (x_index Tryz.underlying47 Tryz.size51 rfl rfl (j := 1) (by omega) (by omega))) ?_
        refine dr_val rfl rfl (fun m' hm' => ds_val rfl (x_load Tryz.plain51 rfl (((hra.up hm').heap.nth 1 (dsv_get (ds := [d, e]) (i := 1) (by simp)) (by omega))))) ?_
        refine dr_val rfl rfl (fun m' hm' => ds_val rfl (x_conv Tryz.underlying51 Tryz.underlying111 rfl (u64n (r := e) (by simp) (by omega)))) ?_
        refine dr_val rfl rfl (fun m' hm' => ds_val rfl (x_shl rfl rfl (by omega) (shl_32_64 he))) ?_
        refine dr_val rfl rfl (fun m' hm' => ds_val rfl (x_move rfl)) ?_
        refine dr_val rfl rfl (fun m' hm' => ds_val rfl (x_index Tryz.underlying47 Tryz.size51 rfl rfl (j := 0) (by omega) (by omega))) ?_
        refine dr_val rfl rfl (fun m' hm' => ds_val rfl (x_load Tryz.plain51 rfl (((hra.up hm').heap.nth 0 (dsv_get (ds := [d, e]) (i := 0) (by simp)) (by omega))))) ?_
        refine dr_val rfl rfl (fun m' hm' => ds_val rfl (x_conv Tryz.underlying51 Tryz.underlying111 rfl (u64n (r := d) (by simp) (by omega)))) ?_
        refine dr_done (k := 9) Tryz.mixed rfl rfl rfl fun m2 hm_m2 => ?_
        show WL _ _ _ _ _ _ _ _ _
        refine wv (x_or rfl rfl (or_hi64 he hd)) ?_
        refine was ?_
        refine was ?_
        refine wns ?_
        refine w_ret ?_
        refine at_block_ret ?_
        refine at_then_ret ?_
        refine at_endp (res2 rfl rfl rfl) ?_
        have e1 : nv [d, e] = e * 4294967296 + d := by simp [nv]; omega
        rw [e1]
        simp [show e * 4294967296 + d < 18446744073709551616 by omega]
      · skip
        refine w_skip ?_
        refine at_block_normal ?_
        refine at_seq ?_
        refine wsr ?_
        refine was ?_
        refine was ?_
        refine wns ?_
        refine w_ret ?_
        refine at_endp (res2 rfl rfl rfl) ?_
        have g1 := nv_pos hn (fun e => by subst e; simp at h0)
        have g2 : 4294967296 ^ 2 ≤ 4294967296 ^ (ds.length - 1) := Nat.pow_le_pow_right (by omega) (by omega)
        have g3 : ¬ nv ds < 18446744073709551616 := by omega
        simp [g3]
end Go.Cy


/- math/bits.LeadingZeros32; natural.Shl, Shr. -/
namespace Go.Cy
open Go Go.Proofs
set_option maxRecDepth 20000

theorem lz32_ok {m : Mem} {x : Nat} (hx : x < 4294967296) : Pure Tryz.prog 223 #[.int .u32 x] m fun v _ => v = .int .i64 ((32 - blen x : Nat) : Int) := by
  have hb : blen x ≤ 32 := blen_le.2 (by simpa using hx)
  refine enterp Tryz.func223 rfl rfl ?_
  intro K hm0 hks
  refine wsr ?_
  refine was ?_
  refine wnr ?_
  refine wmv ?_
  refine wl_callp rfl rfl rfl Tryz.c176 (len32_ok hx) ?_; rintro v1 m1 hm1 rfl
  refine wv (x_sub rfl rfl (wrap_i64 (by omega) (by omega))) ?_
  refine was ?_
  refine wns ?_
  refine w_ret ?_
  refine at_endp (res1 rfl rfl) ?_
  simp only [Value.int.injEq, true_and]
  omega

theorem shl_nat {a s : Nat} (ha : a < 4294967296) (hs : s < 32) : IntKind.u64.wrap ((a : Int) * 2 ^ (min ((s : Int).toNat) (IntKind.bits .u64))) = ((a * 2 ^ s : Nat) : Int) := by
  have hp : 2 ^ s ≤ 2 ^ 31 := Nat.pow_le_pow_right (by omega) (by omega)
  have h1 : a * 2 ^ s ≤ 4294967295 * 2147483648 := Nat.mul_le_mul (by omega) hp
  have e : (a : Int) * 2 ^ (min ((s : Int).toNat) (IntKind.bits .u64)) = ((a * 2 ^ s : Nat) : Int) := by
    rw [Int.toNat_natCast, Nat.min_eq_left (show s ≤ IntKind.bits .u64 from by have : IntKind.bits .u64 = 64 := rfl; omega)]
    simp
  rw [e, wrap_u64_in (by omega) (by omega)]
theorem or_add {k a s : Nat} (ha : a < 2 ^ s) : (a ||| k * 2 ^ s) = a + k * 2 ^ s := by
  have := Nat.shiftLeft_add_eq_or_of_lt ha k
  rw [Nat.shiftLeft_eq] at this
  rw [Nat.or_comm, ← this, Nat.add_comm]
theorem low_mul {x s : Nat} (hs : s < 32) : (x * 2 ^ s) % 4294967296 = (x % 2 ^ (32 - s)) * 2 ^ s := by
  rw [show 4294967296 = 2 ^ (32 - s) * 2 ^ s by rw [← Nat.pow_add, Nat.sub_add_cancel (by omega)], Nat.mul_mod_mul_right]
theorem high_mul {x s : Nat} (hx : x < 4294967296) (hs : s < 32) : x * 2 ^ s / 4294967296 < 2 ^ s := by
  refine Nat.div_lt_of_lt_mul ?_
  exact Nat.mul_lt_mul_of_pos_right hx (Nat.pow_pos (by omega))

theorem shl_step {zs xs : List Nat} {w s i : Nat} (hi : i < xs.length) (hzl : zs.length = w + xs.length + 1) (hs : s < 32) (h1 : nv zs = 4294967296 ^ w * (nv (xs.take i) * 2 ^ s)) (h2 : zs.drop (w + i + 1) = List.replicate (xs.length - i) 0) :
    nv ((zs.set (w + i) (zs[w + i]'(by omega) + xs[i] * 2 ^ s % 4294967296)).set (w + (i + 1)) (xs[i] * 2 ^ s / 4294967296)) = 4294967296 ^ w * (nv (xs.take (i + 1)) * 2 ^ s) := by
  have a1 := nv_set (ds := zs) (k := w + i) (by omega) (zs[w + i]'(by omega) + xs[i] * 2 ^ s % 4294967296)
  have a2 := nv_set (ds := zs.set (w + i) (zs[w + i]'(by omega) + xs[i] * 2 ^ s % 4294967296)) (k := w + (i + 1)) (by simp; omega) (xs[i] * 2 ^ s / 4294967296)
  have hz : zs[w + (i + 1)]'(by omega) = 0 := zero_digit (by omega) (by rw [← Nat.add_assoc]; exact h2)
  rw [List.getElem_set_ne (by omega), hz, Nat.mul_zero, Nat.add_zero] at a2
  rw [a2, nv_take_succ hi, Nat.add_mul, Nat.mul_add, ← h1]
  have e : 4294967296 ^ w * (4294967296 ^ i * xs[i] * 2 ^ s) = 4294967296 ^ (w + i) * (xs[i] * 2 ^ s) := by rw [Nat.pow_add, Nat.mul_assoc (4294967296 ^ i), Nat.mul_assoc (4294967296 ^ w)]
  have e2 : 4294967296 ^ (w + i) * (xs[i] * 2 ^ s) = 4294967296 ^ (w + i) * (xs[i] * 2 ^ s % 4294967296) + 4294967296 ^ (w + (i + 1)) * (xs[i] * 2 ^ s / 4294967296) := by
    rw [← Nat.add_assoc w i 1, Nat.pow_succ, Nat.mul_assoc, ← Nat.mul_add, Nat.mod_add_div]
  rw [Nat.mul_add] at a1
  omega
theorem Shl_ok {m : Mem} {v : Value} {x n : Nat} (hv : Nt m v x) (hn : n ≤ 16777216) (hl : dlen x ≤ 35184000000000) : Pure Tryz.prog 224 #[v, .int .i64 n] m fun r m' => Nn m' r (x * 2 ^ n) := by
  refine enterp Tryz.func224 rfl rfl ?_
  intro K hm0 hks
  refine wsr ?_
  refine was ?_
  refine wnr ?_
  refine wmv ?_
  refine wl_callp rfl rfl rfl Tryz.c151 (trim_ok hv) ?_; rintro v1 m1 hm1 ⟨xs, hx, hxv, hxn⟩
  have hxl := dlen_nv hx.1 hxn
  obtain ⟨hxo, hxs, a, acap, rfl, hac, har⟩ := hx
  rw [hxv] at hxl
  refine was ?_
  refine wns ?_
  refine w_seq ?_
  refine wsr ?_
  refine wmv ?_
  refine wv (x_len Tryz.underlying47 rfl rfl) ?_
  refine wv (x_eql rfl rfl) ?_
  refine wns ?_
  refine w_if rfl (fun h1 => ?_) (fun h1 => ?_)
  · skip
    have hx0 : xs = [] := List.length_eq_zero_iff.1 (by omega)
    subst hx0
    refine wsr ?_
    refine was ?_
    refine wns ?_
    refine w_ret ?_
    refine at_then_ret ?_
    refine at_endp (res1 rfl rfl) ?_
    rw [← hxv]
    exact ⟨[], ⟨fun _ h => absurd h List.not_mem_nil, by simp, none, 0, rfl, Nat.le_refl _, fun h => absurd h (by simp)⟩, by simp [nv], norm_nil⟩
  · skip
    have hs : n % 32 < 32 := Nat.mod_lt _ (by omega)
    refine w_skip ?_
    refine at_seq ?_
    refine wsr ?_
    refine wmv ?_
    refine wv (x_maxAs (r := (n : Nat)) rfl rfl (by rw [if_neg (by omega)])) ?_
    refine wv (x_minAs (r := (n : Nat)) rfl rfl (by rw [if_neg (by omega)])) ?_
    refine was ?_
    refine wnr ?_
    refine wmv ?_
    refine wv (x_quo rfl rfl (by omega) (i64n (r := n / 32) (by rw [Int.tdiv_eq_ediv_of_nonneg (by omega)]; omega) (by omega))) ?_
    refine wmv ?_
    refine wv (x_rem rfl rfl (by omega) ((Int.ofNat_tmod n 32).symm)) ?_
    refine wv (x_conv Tryz.underlying3 Tryz.underlying179 rfl (u64n (r := n % 32) rfl (by omega))) ?_
    refine was ?_
    refine was ?_
    refine wnr ?_
    refine wmv ?_
    refine wmv ?_
    refine wv (x_len Tryz.underlying47 rfl rfl) ?_
    refine wv (x_add rfl rfl (wrap_i64 (by omega) (by omega))) ?_
    refine wv (x_add rfl rfl (wrap_i64 (by omega) (by omega))) ?_
    refine wl_make (N := (n / 32 + xs.length + 1)) rfl rfl Tryz.underlying47 Tryz.size51 Tryz.bytes51 Tryz.zero51 rfl rfl rfl (by omega) (by omega) (by omega) (by omega) ?_; intro b30
    refine was ?_
    refine wnr ?_
    refine wmv ?_
    refine wmv ?_
    refine wv (x_sliceAs (lo := n / 32) (hi := n / 32 + xs.length + 1) (p := some ⟨b30, n / 32, none⟩) (L := xs.length + 1) (C := xs.length + 1) Tryz.underlying47 Tryz.size51 rfl (⟨_, by first | rfl | exact lk_int rfl (by omega)⟩) (rfl) (by omega) (by omega) (by first | (rw [offTo_lt (by omega)]; simp) | rfl) (by omega) (by omega)) ?_
    refine was ?_
    refine wns ?_
    refine w_seq ?_
    refine wsr ?_
    refine wmv ?_
    refine wv (x_len Tryz.underlying47 rfl rfl) ?_
    refine wmv ?_
    refine wns ?_
    refine w_block ?_
    refine w_loop (fun r m' H' env' => ∃ i zs, m1.le m' ∧ r + i = xs.length ∧ ∃ hzl : zs.length = n / 32 + xs.length + 1, okd zs ∧ nv zs = 4294967296 ^ (n / 32) * (nv (xs.take i) * 2 ^ (n % 32)) ∧ zs.drop (n / 32 + i + 1) = List.replicate (xs.length - i) 0 ∧ (∀ h : i ≤ xs.length, zs[n / 32 + i]'(by omega) < 2 ^ (n % 32)) ∧ H' = [(b30, cl 51 (dsv zs))] ∧ env' = [(0, .slice a xs.length acap), (1, .int .i64 n), (6, .int .u64 ((n % 32 : Nat) : Int)), (7, .slice (some ⟨b30, 0, none⟩) (n / 32 + xs.length + 1) (n / 32 + xs.length + 1)), (8, .slice (some ⟨b30, n / 32, none⟩) (xs.length + 1) (xs.length + 1)), (34, .slice a xs.length acap), (35, .int .i64 xs.length), (36, .int .i64 (i : Nat))]) xs.length [(0, .slice a xs.length acap), (1, .int .i64 n), (6, .int .u64 ((n % 32 : Nat) : Int)), (7, .slice (some ⟨b30, 0, none⟩) (n / 32 + xs.length + 1) (n / 32 + xs.length + 1)), (8, .slice (some ⟨b30, n / 32, none⟩) (xs.length + 1) (xs.length + 1)), (34, .slice a xs.length acap), (35, .int .i64 xs.length), (36, .int .i64 (0 : Nat))] ⟨0, List.replicate (n / 32 + xs.length + 1) 0, Mem.le.refl _, rfl, by simp, fun e he => by simp at he; omega, by simp [nv, nv_zero], by rw [List.drop_replicate]; congr 1; omega, fun _ => by simp; exact Nat.pow_pos (by omega), by rw [dsv_zero], rfl⟩ (by repeat' (first | exact trivial | exact rfl | exact lk_int rfl (by omega) | apply And.intro)) ?_
    rintro r m2 H' env' ⟨i, zs, hm2, hri, hzl, hzo, hinv, hzd, hlow, rfl, rfl⟩
    refine wsr ?_
    refine wv (x_lss rfl rfl) ?_
    refine wns ?_
    refine w_seq ?_
    refine w_if rfl (fun h2 => ?_) (fun h2 => ?_)
    · skip
      have hi : i < xs.length := by omega
      obtain ⟨ba, oa, rfl, hra⟩ := har (by omega)
      have hx := hxo _ (List.getElem_mem hi)
      have hlo := hlow (by omega)
      have hk : n / 32 + i < zs.length := by omega
      have st := shl_step hi hzl hs hinv hzd
      have hm := low_mul (x := xs[i]) hs
      have hh := high_mul hx hs
      have hor : (zs[n / 32 + i] ||| xs[i] * 2 ^ (n % 32) % 4294967296) = zs[n / 32 + i] + xs[i] * 2 ^ (n % 32) % 4294967296 := by rw [hm]; exact or_add hlo
      have horl : zs[n / 32 + i] + xs[i] * 2 ^ (n % 32) % 4294967296 < 4294967296 := by rw [← hor]; exact Nat.or_lt_two_pow (n := 32) (hzo _ (List.getElem_mem hk)) (Nat.mod_lt _ (by omega))
      have hp31 : 2 ^ (n % 32) ≤ 2 ^ 31 := Nat.pow_le_pow_right (by omega) (by omega)
      have hz2 : zs[n / 32 + (i + 1)]'(by omega) = 0 := zero_digit (by omega) (by rw [← Nat.add_assoc]; exact hzd)
      generalize hW : xs[i] * 2 ^ (n % 32) = W at *
      have hWl : W < 18446744073709551616 := by omega
      refine w_skip ?_
      refine at_seq ?_
      refine w_seq ?_
      refine w_block ?_
      refine wsr ?_
      refine wmv ?_
      refine wv (x_index Tryz.underlying47 Tryz.size51 rfl rfl rfl (by omega)) ?_
      refine wv (x_load Tryz.plain51 rfl (((hra.up hm2).heap.nth i (dsv_get hi) (by omega)))) ?_
      refine was ?_
      refine was ?_
      refine wnr ?_
      refine wmv ?_
      refine wv (x_conv Tryz.underlying51 Tryz.underlying111 rfl (u64n (r := xs[i]) rfl (by omega))) ?_
      refine wmv ?_
      refine wv (x_shl rfl rfl (by omega) ((shl_nat hx hs).trans (congrArg (fun t : Nat => (t : Int)) hW))) ?_
      refine was ?_
      refine wnr ?_
      refine wmv ?_
      refine wmv ?_
      refine wv (x_index Tryz.underlying47 Tryz.size51 rfl rfl (j := i) (by omega) (by omega)) ?_
      refine wv (x_load Tryz.plain51 rfl (rowH1 (.head _) (dsv_at hk (by omega)))) ?_
      refine wmv ?_
      refine wv (x_conv Tryz.underlying111 Tryz.underlying51 rfl (u32m (r := W % 4294967296) (by omega))) ?_
      refine wv (x_or rfl rfl ((or_u32 (hzo _ (List.getElem_mem hk)) (Nat.mod_lt _ (by omega))).trans (congrArg (fun t : Nat => (t : Int)) hor))) ?_
      refine wv (x_index Tryz.underlying47 Tryz.size51 rfl rfl (j := i) (by omega) (by omega)) ?_
      refine wl_storeAs (xs' := dsv (zs.set (n / 32 + i) (zs[n / 32 + i] + W % 4294967296))) rfl Tryz.size51 rfl rfl rfl (by simp [dsv]; omega) (dsv_setAs (by omega) (by omega)) ?_
      refine wns ?_
      refine w_region ?_
      refine wmv ?_
      refine wmv ?_
      refine wv (x_add rfl rfl (wrap_i64 (by omega) (by omega))) ?_
      refine wmv ?_
      refine wv (x_shr rfl rfl (by omega) (shr32_64 _)) ?_
      refine wv (x_conv Tryz.underlying111 Tryz.underlying51 rfl (u32n (r := W / 4294967296) (by omega) (by omega))) ?_
      refine wv (x_index Tryz.underlying47 Tryz.size51 rfl rfl (j := (i + 1)) (by omega) (by omega)) ?_
      refine wl_storeAs (xs' := dsv ((zs.set (n / 32 + i) (zs[n / 32 + i] + W % 4294967296)).set (n / 32 + (i + 1)) (W / 4294967296))) rfl Tryz.size51 rfl rfl rfl (by simp [dsv]; omega) (dsv_setAs (by omega) (by omega)) ?_
      refine wl_nil ?_
      refine at_block_normal ?_
      refine at_seq ?_
      refine w_region ?_
      refine wv (x_add rfl rfl (wrap_i64 (by omega) (by omega))) ?_
      refine wmv ?_
      refine wl_nil ?_
      exact at_again (r - 1) [(0, .slice (some ⟨ba, oa, none⟩) xs.length acap), (1, .int .i64 n), (6, .int .u64 ((n % 32 : Nat) : Int)), (7, .slice (some ⟨b30, 0, none⟩) (n / 32 + xs.length + 1) (n / 32 + xs.length + 1)), (8, .slice (some ⟨b30, n / 32, none⟩) (xs.length + 1) (xs.length + 1)), (34, .slice (some ⟨ba, oa, none⟩) xs.length acap), (35, .int .i64 xs.length), (36, .int .i64 (i + 1 : Nat))] (by omega) ⟨i + 1, _, hm2, by omega, by simpa using hzl, okd_set (okd_set hzo _ horl) _ (by omega), st, by rw [List.drop_set_of_lt (by omega), List.drop_set_of_lt (by omega), show n / 32 + (i + 1) + 1 = n / 32 + i + 1 + 1 by omega]; rw [← List.drop_drop, hzd, List.drop_replicate]; congr 1, fun _ => by rw [List.getElem_set_self]; exact hh, rfl, rfl⟩ (by repeat' (first | exact trivial | exact rfl | exact lk_int rfl (by omega) | apply And.intro))
    · skip
      obtain rfl : i = xs.length := by omega
      rw [List.take_length, hxv] at hinv
      refine w_exit ?_
      refine at_then_exit ?_
      refine at_then_exit ?_
      refine at_block_hit ?_
      refine at_seq ?_
      refine wsr ?_
      refine wmv ?_
      refine wl_freeze ?_; intro hfz
      refine wl_callp rfl rfl rfl Tryz.c151 (trim_ok (x := x * 2 ^ n) ⟨zs, Dg.made' (Mem.add_at _ _ _) hzo hzl (by omega), by rw [hinv, show 4294967296 = 2 ^ 32 from rfl, ← Nat.pow_mul, Nat.mul_left_comm, ← Nat.pow_add]; congr 2; omega⟩) ?_; rintro v6 m6 hm6 hv6
      refine was ?_
      refine wns ?_
      refine w_ret ?_
      refine at_endp (res1 rfl rfl) ?_
      exact hv6

theorem or_u64 {a b : Nat} (ha : a < 18446744073709551616) (hb : b < 18446744073709551616) : IntKind.u64.wrap ((BitVec.ofInt (IntKind.bits .u64) (a : Int) ||| BitVec.ofInt (IntKind.bits .u64) (b : Int)).toNat : Int) = ((a ||| b : Nat) : Int) := by
  have hlt : a ||| b < 2 ^ 64 := Nat.or_lt_two_pow ha hb
  have h : (BitVec.ofInt (IntKind.bits .u64) (a : Int) ||| BitVec.ofInt (IntKind.bits .u64) (b : Int)).toNat = a ||| b := by
    rw [ofInt_nat, ofInt_nat]
    simp only [BitVec.toNat_or, BitVec.toNat_ofNat]
    rw [show (2 : Nat) ^ IntKind.bits .u64 = 2 ^ 64 from rfl, Nat.mod_eq_of_lt ha, Nat.mod_eq_of_lt hb]
  rw [h, wrap_u64_in (by omega) (by omega)]
theorem shr_digit {tp : List Nat} (ho : okd tp) {s i : Nat} (hi : i < tp.length) (hs : s < 32) : nv tp / 2 ^ s / 4294967296 ^ i % 4294967296 = (tp[i] + 4294967296 * (tp[i + 1]?.getD 0)) / 2 ^ s % 4294967296 := by
  have h1 : nv tp / 4294967296 ^ i = nv (tp.drop i) := by
    rw [nv_split tp i (by omega), Nat.add_mul_div_left _ _ (Nat.pow_pos (by omega)), Nat.div_eq_of_lt, Nat.zero_add]
    have := nv_lt (okd_take ho i)
    rwa [List.length_take, Nat.min_eq_left (by omega)] at this
  rw [Nat.div_div_eq_div_mul, Nat.mul_comm (2 ^ s), ← Nat.div_div_eq_div_mul, h1, List.drop_eq_getElem_cons hi]
  have h2 : nv (tp.drop (i + 1)) = (tp[i + 1]?.getD 0) + 4294967296 * nv (tp.drop (i + 2)) := by
    by_cases h : i + 1 < tp.length
    · rw [List.drop_eq_getElem_cons h, List.getElem?_eq_getElem h]; rfl
    · rw [List.drop_eq_nil_of_le (by omega), List.drop_eq_nil_of_le (by omega), List.getElem?_eq_none (by omega)]; rfl
  have e : nv (tp[i] :: tp.drop (i + 1)) = (tp[i] + 4294967296 * (tp[i + 1]?.getD 0)) + 2 ^ s * (4294967296 * (2 ^ (32 - s) * nv (tp.drop (i + 2)))) := by
    have h3 : 2 ^ s * (4294967296 * (2 ^ (32 - s) * nv (tp.drop (i + 2)))) = 4294967296 * (4294967296 * nv (tp.drop (i + 2))) := by
      rw [Nat.mul_left_comm, ← Nat.mul_assoc (2 ^ s), ← Nat.pow_add, show s + (32 - s) = 32 by omega]
    rw [nv, h2, h3]
    omega
  rw [e, Nat.add_mul_div_left _ _ (Nat.pow_pos (by omega)), Nat.add_mul_mod_self_left]
theorem shr_step {zs tp : List Nat} (ho : okd tp) {s i : Nat} (hi : i < tp.length) (hz : i < zs.length) (hs : s < 32) (h : nv (zs.take i) = nv tp / 2 ^ s % 4294967296 ^ i) : nv ((zs.set i ((tp[i] + 4294967296 * (tp[i + 1]?.getD 0)) / 2 ^ s % 4294967296)).take (i + 1)) = nv tp / 2 ^ s % 4294967296 ^ (i + 1) := by
  rw [nv_take_set hz, h, ← shr_digit ho hi hs, Nat.pow_succ, Nat.mod_mul]

theorem Shr_ok {m : Mem} {v : Value} {x n : Nat} (hv : Nt m v x) (hn : n ≤ 9223372036854775807) (hl : dlen x ≤ 35184372088832) : Pure Tryz.prog 228 #[v, .int .i64 n] m fun r m' => Nn m' r (x / 2 ^ n) := by
  have hs : n % 32 < 32 := Nat.mod_lt _ (by omega)
  have hpn : 2 ^ n = 4294967296 ^ (n / 32) * 2 ^ (n % 32) := by rw [show 4294967296 = 2 ^ 32 from rfl, ← Nat.pow_mul, ← Nat.pow_add]; congr 1; omega
  refine enterp Tryz.func228 rfl rfl ?_
  intro K hm0 hks
  refine wsr ?_
  refine was ?_
  refine wnr ?_
  refine wmv ?_
  refine wl_callp rfl rfl rfl Tryz.c151 (trim_ok hv) ?_; rintro v1 m1 hm1 ⟨xs, hx, hxv, hxn⟩
  have hxl := dlen_nv hx.1 hxn
  have hx0 := hx
  obtain ⟨hxo, hxs, a, acap, rfl, hac, har⟩ := hx
  rw [hxv] at hxl
  refine was ?_
  refine wnr ?_
  refine wmv ?_
  refine wv (x_maxAs (r := (n : Nat)) rfl rfl (by rw [if_neg (by omega)])) ?_
  refine was ?_
  refine wnr ?_
  refine wmv ?_
  refine wv (x_quo rfl rfl (by omega) (i64n (r := n / 32) (by rw [Int.tdiv_eq_ediv_of_nonneg (by omega)]; omega) (by omega))) ?_
  refine wmv ?_
  refine wv (x_rem rfl rfl (by omega) ((Int.ofNat_tmod n 32).symm)) ?_
  refine wv (x_conv Tryz.underlying3 Tryz.underlying179 rfl (u64n (r := n % 32) rfl (by omega))) ?_
  refine was ?_
  refine was ?_
  refine wns ?_
  refine w_seq ?_
  refine wsr ?_
  refine wmv ?_
  refine wmv ?_
  refine wv (x_len Tryz.underlying47 rfl rfl) ?_
  refine wv (x_geq rfl rfl) ?_
  refine wns ?_
  refine w_if rfl (fun h1 => ?_) (fun h1 => ?_)
  · skip
    have hz : x / 2 ^ n = 0 := by
      refine Nat.div_eq_of_lt (Nat.lt_of_lt_of_le (hxv ▸ nv_lt hxo) ?_)
      rw [hpn]
      exact Nat.le_trans (Nat.pow_le_pow_right (by omega) (by omega)) (Nat.le_mul_of_pos_right _ (Nat.pow_pos (by omega)))
    rw [hz]
    refine wsr ?_
    refine was ?_
    refine wns ?_
    refine w_ret ?_
    refine at_then_ret ?_
    refine at_endp (res1 rfl rfl) ?_
    exact ⟨[], ⟨fun _ h => absurd h List.not_mem_nil, by simp, none, 0, rfl, Nat.le_refl _, fun h => absurd h (by simp)⟩, by simp [nv], norm_nil⟩
  · skip
    have hdr := hx0.drop (k := n / 32) (by omega)
    have htl : (xs.drop (n / 32)).length = xs.length - n / 32 := by simp
    have hxq : x / 4294967296 ^ (n / 32) = nv (xs.drop (n / 32)) := by
      rw [← hxv, nv_split xs (n / 32) (by omega), Nat.add_mul_div_left _ _ (Nat.pow_pos (by omega)), Nat.div_eq_of_lt, Nat.zero_add]
      have := nv_lt (okd_take hxo (n / 32))
      rwa [List.length_take, Nat.min_eq_left (by omega)] at this
    have hgoal : x / 2 ^ n = nv (xs.drop (n / 32)) / 2 ^ (n % 32) := by rw [hpn, ← Nat.div_div_eq_div_mul, hxq]
    rw [hgoal]
    rw [← htl] at hdr
    generalize hQ : xs.drop (n / 32) = tp at *
    obtain ⟨hto, hts, ta, tc, e1, htc, htr⟩ := hdr
    cases e1
    refine w_skip ?_
    refine at_seq ?_
    refine wsr ?_
    refine wmv ?_
    refine wmv ?_
    refine wv (x_sliceAs (lo := n / 32) (hi := xs.length) (p := offTo a (n / 32) 1 acap) (L := tp.length) (C := acap - n / 32) Tryz.underlying47 Tryz.size51 rfl (⟨_, by first | rfl | exact lk_int rfl (by omega)⟩) (rfl) (by omega) (by omega) (by first | (rw [offTo_lt (by omega)]; simp) | rfl) (by omega) (by omega)) ?_
    refine was ?_
    refine wnr ?_
    refine wmv ?_
    refine wv (x_len Tryz.underlying47 rfl rfl) ?_
    refine wl_make (N := tp.length) rfl rfl Tryz.underlying47 Tryz.size51 Tryz.bytes51 Tryz.zero51 rfl rfl rfl (by omega) (by omega) (by omega) (by omega) ?_; intro b30
    refine was ?_
    refine wns ?_
    refine w_seq ?_
    refine wsr ?_
    refine wmv ?_
    refine wv (x_len Tryz.underlying47 rfl rfl) ?_
    refine wmv ?_
    refine wns ?_
    refine w_block ?_
    refine w_loop (fun r m' H' env' => ∃ i zs, m1.le m' ∧ r + i = tp.length ∧ zs.length = tp.length ∧ okd zs ∧ nv (zs.take i) = nv tp / 2 ^ (n % 32) % 4294967296 ^ i ∧ H' = [(b30, cl 51 (dsv zs))] ∧ env' = [(6, .int .u64 ((n % 32 : Nat) : Int)), (7, .slice (offTo a (n / 32) 1 acap) tp.length (acap - n / 32)), (8, .slice (some ⟨b30, 0, none⟩) tp.length tp.length), (31, .slice (offTo a (n / 32) 1 acap) tp.length (acap - n / 32)), (32, .int .i64 tp.length), (33, .int .i64 (i : Nat))]) tp.length [(6, .int .u64 ((n % 32 : Nat) : Int)), (7, .slice (offTo a (n / 32) 1 acap) tp.length (acap - n / 32)), (8, .slice (some ⟨b30, 0, none⟩) tp.length tp.length), (31, .slice (offTo a (n / 32) 1 acap) tp.length (acap - n / 32)), (32, .int .i64 tp.length), (33, .int .i64 (0 : Nat))] ⟨0, List.replicate tp.length 0, Mem.le.refl _, rfl, by simp, fun e he => by simp at he; omega, by simp [nv, Nat.mod_one], by rw [dsv_zero], rfl⟩ (by repeat' (first | exact trivial | exact rfl | exact lk_int rfl (by omega) | apply And.intro)) ?_
    rintro r m2 H' env' ⟨i, zs, hm2, hri, hzl, hzo, hinv, rfl, rfl⟩
    refine wsr ?_
    refine wv (x_lss rfl rfl) ?_
    refine wns ?_
    refine w_seq ?_
    refine w_if rfl (fun h2 => ?_) (fun h2 => ?_)
    · skip
      have hi : i < tp.length := by omega
      obtain ⟨bt, ot, htae, hrt⟩ := htr (by omega)
      rw [htae]
      have st := shr_step (zs := zs) hto hi (by omega) hs hinv
      have hx := hto _ (List.getElem_mem hi)
      refine w_skip ?_
      refine at_seq ?_
      refine w_seq ?_
      refine w_block ?_
      refine wsr ?_
      refine wmv ?_
      refine wv (x_index Tryz.underlying47 Tryz.size51 rfl rfl rfl (by omega)) ?_
      refine wv (x_load Tryz.plain51 rfl (((hrt.up hm2).heap.nth i (dsv_get hi) (by omega)))) ?_
      refine was ?_
      refine was ?_
      refine wnr ?_
      refine wmv ?_
      refine wv (x_conv Tryz.underlying51 Tryz.underlying111 rfl (u64n (r := tp[i]) rfl (by omega))) ?_
      refine was ?_
      refine wns ?_
      refine w_seq ?_
      refine wsr ?_
      refine wmv ?_
      refine wv (x_add rfl rfl (wrap_i64 (by omega) (by omega))) ?_
      refine wmv ?_
      refine wv (x_len Tryz.underlying47 rfl rfl) ?_
      refine wv (x_lss rfl rfl) ?_
      refine wns ?_
      refine w_if rfl (fun h3 => ?_) (fun h3 => ?_)
      · skip
        have hi1 : i + 1 < tp.length := by omega
        have hy := hto _ (List.getElem_mem hi1)
        have hor : (tp[i] ||| tp[i + 1] * 4294967296) = tp[i] + 4294967296 * (tp[i + 1]?.getD 0) := by rw [show 4294967296 = 2 ^ 32 from rfl, or_add (by omega), List.getElem?_eq_getElem hi1, Option.getD_some, Nat.mul_comm]
        have horl : tp[i] + 4294967296 * (tp[i + 1]?.getD 0) < 18446744073709551616 := by rw [List.getElem?_eq_getElem hi1, Option.getD_some]; omega
        refine w_region ?_
        refine wmv ?_
        refine wmv ?_
        refine wmv ?_
        refine wv (x_add rfl rfl (wrap_i64 (by omega) (by omega))) ?_
        refine wv (x_index Tryz.underlying47 Tryz.size51 rfl rfl (j := (i + 1)) (by omega) (by omega)) ?_
        refine wv (x_load Tryz.plain51 rfl (((hrt.up hm2).heap.nth (i + 1) (dsv_get hi1) (by omega)))) ?_
        refine wv (x_conv Tryz.underlying51 Tryz.underlying111 rfl (u64n (r := tp[i + 1]) rfl (by omega))) ?_
        refine wv (x_shl rfl rfl (by omega) (shl_32_64 hy)) ?_
        refine wv (x_or rfl rfl ((or_u64 (by omega) (by omega)).trans (congrArg (fun t : Nat => (t : Int)) hor))) ?_
        refine was ?_
        refine wns ?_
        refine w_region ?_
        refine wmv ?_
        refine wmv ?_
        refine wmv ?_
        refine wmv ?_
        refine wv (x_shr rfl rfl (by omega) (shr_nat _ (n % 32) _ (by have : IntKind.bits .u64 = 64 := rfl; omega))) ?_
        refine wv (x_conv Tryz.underlying111 Tryz.underlying51 rfl (u32m (r := (tp[i] + 4294967296 * (tp[i + 1]?.getD 0)) / 2 ^ (n % 32) % 4294967296) (by omega))) ?_
        refine wv (x_index Tryz.underlying47 Tryz.size51 rfl rfl (j := i) (by omega) (by omega)) ?_
        refine wl_storeAs (xs' := dsv (zs.set i ((tp[i] + 4294967296 * (tp[i + 1]?.getD 0)) / 2 ^ (n % 32) % 4294967296))) rfl Tryz.size51 rfl rfl rfl (by simp [dsv]; omega) (dsv_setAs (by omega) (by omega)) ?_
        refine wl_nil ?_
        refine at_block_normal ?_
        refine at_seq ?_
        refine w_region ?_
        refine wv (x_add rfl rfl (wrap_i64 (by omega) (by omega))) ?_
        refine wmv ?_
        refine wl_nil ?_
        exact at_again (r - 1) [(6, .int .u64 ((n % 32 : Nat) : Int)), (7, .slice (some ⟨bt, ot, none⟩) tp.length (acap - n / 32)), (8, .slice (some ⟨b30, 0, none⟩) tp.length tp.length), (31, .slice (some ⟨bt, ot, none⟩) tp.length (acap - n / 32)), (32, .int .i64 tp.length), (33, .int .i64 (i + 1 : Nat))] (by omega) ⟨i + 1, _, hm2, by omega, by simpa using hzl, okd_set hzo _ (Nat.mod_lt _ (by omega)), st, rfl, rfl⟩ (by repeat' (first | exact trivial | exact rfl | exact lk_int rfl (by omega) | apply And.intro))
      · skip
        have he0 : tp[i] + 4294967296 * (tp[i + 1]?.getD 0) = tp[i] := by rw [List.getElem?_eq_none (by omega)]; simp
        rw [he0] at st
        refine w_skip ?_
        refine at_seq ?_
        refine w_region ?_
        refine wmv ?_
        refine wmv ?_
        refine wmv ?_
        refine wmv ?_
        refine wv (x_shr rfl rfl (by omega) (shr_nat _ (n % 32) _ (by have : IntKind.bits .u64 = 64 := rfl; omega))) ?_
        refine wv (x_conv Tryz.underlying111 Tryz.underlying51 rfl (u32m (r := tp[i] / 2 ^ (n % 32) % 4294967296) (by omega))) ?_
        refine wv (x_index Tryz.underlying47 Tryz.size51 rfl rfl (j := i) (by omega) (by omega)) ?_
        refine wl_storeAs (xs' := dsv (zs.set i (tp[i] / 2 ^ (n % 32) % 4294967296))) rfl Tryz.size51 rfl rfl rfl (by simp [dsv]; omega) (dsv_setAs (by omega) (by omega)) ?_
        refine wl_nil ?_
        refine at_block_normal ?_
        refine at_seq ?_
        refine w_region ?_
        refine wv (x_add rfl rfl (wrap_i64 (by omega) (by omega))) ?_
        refine wmv ?_
        refine wl_nil ?_
        exact at_again (r - 1) [(6, .int .u64 ((n % 32 : Nat) : Int)), (7, .slice (some ⟨bt, ot, none⟩) tp.length (acap - n / 32)), (8, .slice (some ⟨b30, 0, none⟩) tp.length tp.length), (31, .slice (some ⟨bt, ot, none⟩) tp.length (acap - n / 32)), (32, .int .i64 tp.length), (33, .int .i64 (i + 1 : Nat))] (by omega) ⟨i + 1, _, hm2, by omega, by simpa using hzl, okd_set hzo _ (Nat.mod_lt _ (by omega)), st, rfl, rfl⟩ (by repeat' (first | exact trivial | exact rfl | exact lk_int rfl (by omega) | apply And.intro))
    · skip
      obtain rfl : i = tp.length := by omega
      rw [List.take_of_length_le (by omega), Nat.mod_eq_of_lt (Nat.lt_of_le_of_lt (Nat.div_le_self _ _) (nv_lt hto))] at hinv
      refine w_exit ?_
      refine at_then_exit ?_
      refine at_then_exit ?_
      refine at_block_hit ?_
      refine at_seq ?_
      refine wsr ?_
      refine wmv ?_
      refine wl_freeze ?_; intro hfz
      refine wl_callp rfl rfl rfl Tryz.c151 (trim_ok (x := nv tp / 2 ^ (n % 32)) ⟨zs, Dg.made' (Mem.add_at _ _ _) hzo hzl (by omega), hinv⟩) ?_; rintro v6 m6 hm6 hv6
      refine was ?_
      refine wns ?_
      refine w_ret ?_
      refine at_endp (res1 rfl rfl) ?_
      exact hv6
end Go.Cy


/- division: the digits of a quotient. -/
namespace Go.Cy
open Go Go.Proofs
set_option maxRecDepth 20000

theorem est_pred {u3 d e R v1 v2 U u0 : Nat} (he : d = e + 1) (hexp : d * (v1 * 4294967296 + v2) = d * v1 * 4294967296 + d * v2) (hdr : d * v1 + R = U) (hgt : R * 4294967296 + u0 < d * v2) (hu : u3 = U * 4294967296 + u0) : u3 < (e + 1) * (v1 * 4294967296 + v2) := by
  subst he; rw [hexp]; omega
theorem estimate_ok {m : Mem} {u2 u1 u0 v1 v2 : Nat} (h2 : u2 < 4294967296) (h1 : u1 < 4294967296) (h0 : u0 < 4294967296) (hv1 : v1 < 4294967296) (hv2 : v2 < 4294967296) (hhi : 2147483648 ≤ v1) (hle : u2 ≤ v1) :
    Pure Tryz.prog 225 #[.int .u32 u2, .int .u32 u1, .int .u32 u0, .int .u32 v1, .int .u32 v2] m fun r _ => ∃ q, r = .int .u32 (q : Nat) ∧ Est ((u2 * 4294967296 + u1) * 4294967296 + u0) (v1 * 4294967296 + v2) q := by
  refine enterp Tryz.func225 rfl rfl ?_
  intro K hm0 hks
  refine wsr ?_
  refine was ?_
  refine wnr ?_
  refine was ?_
  refine was ?_
  refine was ?_
  refine wns ?_
  refine w_seq_mid (fun m' H' env' => ∃ d R, H' = [] ∧ d < 4294967296 ∧ R < 8589934592 ∧ d * v1 + R = u2 * 4294967296 + u1 ∧ ((u2 * 4294967296 + u1) * 4294967296 + u0 < (d + 1) * (v1 * 4294967296 + v2) ∨ d = 4294967295) ∧ env' = [(0, .int .u32 (u2 : Nat)), (1, .int .u32 (u1 : Nat)), (2, .int .u32 (u0 : Nat)), (3, .int .u32 (v1 : Nat)), (4, .int .u32 (v2 : Nat)), (11, .int .u32 (d : Nat)), (12, .int .u32 (R % 4294967296 : Nat)), (13, .int .u32 (R / 4294967296 : Nat))]) ?_ ?_
  · skip
    refine wsr ?_
    refine wmv ?_
    refine wmv ?_
    refine wv (x_geq rfl rfl) ?_
    refine wns ?_
    refine w_if rfl (fun c1 => ?_) (fun c1 => ?_)
    · skip
      have huv : u2 = v1 := by omega
      refine wsr ?_
      refine was ?_
      refine wns ?_
      refine w_region ?_
      refine wmv ?_
      refine wmv ?_
      refine wl_callp rfl rfl rfl Tryz.c156 (add32_ok (c := 0) h1 hv1 (by omega)) ?_; rintro w1 m1 hm1 rfl
      refine wmv ?_
      refine wex ?_
      refine wex ?_
      refine was ?_
      refine was ?_
      refine wl_nil ?_
      exact at_meets [(0, .int .u32 (u2 : Nat)), (1, .int .u32 (u1 : Nat)), (2, .int .u32 (u0 : Nat)), (3, .int .u32 (v1 : Nat)), (4, .int .u32 (v2 : Nat)), (11, .int .u32 (4294967295 : Nat)), (12, .int .u32 ((u1 + v1 + 0) % 4294967296 : Nat)), (13, .int .u32 ((u1 + v1 + 0) / 4294967296 : Nat))] ⟨4294967295, u1 + v1 + 0, rfl, by omega, by omega, by omega, .inr rfl, rfl⟩ (by repeat' (first | exact trivial | exact rfl | exact lk_int rfl (by omega) | apply And.intro))
    · skip
      have hlt : u2 < v1 := by omega
      have hq : (u2 * 4294967296 + u1) / v1 < 4294967296 := divStep_lt hlt h1
      have hm := Nat.mod_lt (u2 * 4294967296 + u1) (show 0 < v1 by omega)
      have hdm := Nat.div_add_mod (u2 * 4294967296 + u1) v1
      generalize hD : (u2 * 4294967296 + u1) / v1 = D at *
      generalize hR : (u2 * 4294967296 + u1) % v1 = R at *
      have hmax : (u2 * 4294967296 + u1) * 4294967296 + u0 < (D + 1) * (v1 * 4294967296 + v2) := by
        have e1 : u2 * 4294967296 + u1 + 1 ≤ (D + 1) * v1 := by rw [Nat.add_mul, Nat.mul_comm D]; omega
        have e2 := Nat.mul_le_mul_right 4294967296 e1
        have e3 : (D + 1) * (v1 * 4294967296 + v2) = (D + 1) * v1 * 4294967296 + (D + 1) * v2 := by rw [Nat.mul_add, Nat.mul_assoc]
        omega
      refine w_region ?_
      refine wmv ?_
      refine wmv ?_
      refine wmv ?_
      refine wl_callp rfl rfl rfl Tryz.c240 (div32_ok hlt h1 hv1) ?_; rintro w1 m1 hm1 hw
      rw [hD, hR] at hw
      subst hw
      refine wmv ?_
      refine wex ?_
      refine wex ?_
      refine was ?_
      refine was ?_
      refine wl_nil ?_
      exact at_meets [(0, .int .u32 (u2 : Nat)), (1, .int .u32 (u1 : Nat)), (2, .int .u32 (u0 : Nat)), (3, .int .u32 (v1 : Nat)), (4, .int .u32 (v2 : Nat)), (11, .int .u32 (D : Nat)), (12, .int .u32 (R % 4294967296 : Nat)), (13, .int .u32 (R / 4294967296 : Nat))] ⟨D, R, rfl, hq, by omega, by rw [Nat.mul_comm]; exact hdm, .inl hmax, rfl⟩ ⟨rfl, rfl, rfl, rfl, rfl, rfl, lk_int rfl (by omega), lk_int rfl (by omega), trivial⟩
  · skip
    rintro m' H' env' ⟨d, R, rfl, hd, hR, hdr, hmax, rfl⟩
    refine w_seq ?_
    refine w_block ?_
    refine w_loop (fun r m' H' env' => ∃ d R, r = d ∧ H' = [] ∧ d < 4294967296 ∧ R < 8589934592 ∧ d * v1 + R = u2 * 4294967296 + u1 ∧ ((u2 * 4294967296 + u1) * 4294967296 + u0 < (d + 1) * (v1 * 4294967296 + v2) ∨ d = 4294967295) ∧ env' = [(0, .int .u32 (u2 : Nat)), (1, .int .u32 (u1 : Nat)), (2, .int .u32 (u0 : Nat)), (3, .int .u32 (v1 : Nat)), (4, .int .u32 (v2 : Nat)), (11, .int .u32 (d : Nat)), (12, .int .u32 (R % 4294967296 : Nat)), (13, .int .u32 (R / 4294967296 : Nat))]) d [(0, .int .u32 (u2 : Nat)), (1, .int .u32 (u1 : Nat)), (2, .int .u32 (u0 : Nat)), (3, .int .u32 (v1 : Nat)), (4, .int .u32 (v2 : Nat)), (11, .int .u32 (d : Nat)), (12, .int .u32 (R % 4294967296 : Nat)), (13, .int .u32 (R / 4294967296 : Nat))] ⟨d, R, rfl, rfl, hd, hR, hdr, hmax, rfl⟩ (by repeat' (first | exact trivial | exact rfl | exact lk_int rfl (by omega) | apply And.intro)) ?_
    clear hd hR hdr hmax
    clear d R
    rintro d m1 H' env' ⟨_, R, rfl, rfl, hd, hR, hdr, hmax, rfl⟩
    have hdv : d * v2 ≤ 4294967295 * 4294967295 := Nat.mul_le_mul (by omega) (by omega)
    have hexp : d * (v1 * 4294967296 + v2) = d * v1 * 4294967296 + d * v2 := by rw [Nat.mul_add, Nat.mul_assoc]
    refine w_seq ?_
    refine wsr ?_
    refine wmv ?_
    refine wv (x_eql rfl rfl) ?_
    refine wns ?_
    refine w_if rfl (fun c1 => ?_) (fun c1 => ?_)
    · skip
      have hR1 : R < 4294967296 := by omega
      have hRm : R % 4294967296 = R := Nat.mod_eq_of_lt hR1
      refine w_skip ?_
      refine at_seq ?_
      refine w_block ?_
      refine wsr ?_
      refine wmv ?_
      refine wmv ?_
      refine wl_callp rfl rfl rfl Tryz.c252 (mul32_ok hd hv2) ?_; rintro w1 m2 hm2 rfl
      refine wmv ?_
      refine wex ?_
      refine wex ?_
      refine was ?_
      refine was ?_
      refine wns ?_
      refine w_seq ?_
      refine wsr ?_
      refine wmv ?_
      refine wmv ?_
      refine wv (x_lss rfl rfl) ?_
      refine wmv ?_
      refine wl_splitp (t := 43) rfl (fun c2 => ?_) (fun c2 => ?_)
      · skip
        refine wl_off rfl rfl rfl ?_
        refine wl_off rfl rfl rfl ?_
        refine wl_off rfl rfl rfl ?_
        refine wl_off rfl rfl rfl ?_
        refine wl_off rfl rfl rfl ?_
        refine wl_off rfl rfl rfl ?_
        refine wl_off rfl rfl rfl ?_
        refine wl_off rfl rfl rfl ?_
        refine wv (x_pick_t rfl rfl) ?_
        refine wns ?_
        refine w_true rfl ?_
        refine w_exit ?_
        refine at_then_exit ?_
        refine at_block_miss rfl ?_
        refine at_then_exit ?_
        refine at_block_hit ?_
        refine at_seq ?_
        refine wsr ?_
        refine wmv ?_
        refine was ?_
        refine wns ?_
        refine w_ret ?_
        refine at_endp (res1 rfl rfl) ?_
        exact ⟨d, rfl, hd, by rw [hexp]; omega, hmax⟩
      · skip
        refine wmv ?_
        refine wmv ?_
        refine wv (x_eql rfl rfl) ?_
        refine wmv ?_
        refine wl_splitp (t := 47) rfl (fun c3 => ?_) (fun c3 => ?_)
        · skip
          refine wmv ?_
          refine wmv ?_
          refine wv (x_leq rfl rfl) ?_
          refine wv (x_pick_t rfl rfl) ?_
          refine wv (x_pick_f rfl rfl) ?_
          refine wns ?_
          refine w_if rfl (fun c4 => ?_) (fun c4 => ?_)
          · skip
            refine w_exit ?_
            refine at_then_exit ?_
            refine at_block_miss rfl ?_
            refine at_then_exit ?_
            refine at_block_hit ?_
            refine at_seq ?_
            refine wsr ?_
            refine wmv ?_
            refine was ?_
            refine wns ?_
            refine w_ret ?_
            refine at_endp (res1 rfl rfl) ?_
            exact ⟨d, rfl, hd, by rw [hexp]; omega, hmax⟩
          · skip
            have hgt : R * 4294967296 + u0 < d * v2 := by omega
            have hd0 : 0 < d := Nat.pos_of_ne_zero fun h => by rw [h, Nat.zero_mul] at hgt; omega
            obtain ⟨e, he⟩ : ∃ e, d = e + 1 := ⟨d - 1, by omega⟩
            have hn := est_pred he hexp hdr hgt rfl
            have hdr2 : e * v1 + (R + v1 + 0) = u2 * 4294967296 + u1 := by have h := hdr; rw [he, Nat.add_mul] at h; omega
            refine w_skip ?_
            refine at_seq ?_
            refine wsr ?_
            refine wmv ?_
            refine wv (x_sub rfl rfl (u32n (r := e) (by omega) (by omega))) ?_
            refine was ?_
            refine wns ?_
            refine w_region ?_
            refine wmv ?_
            refine wmv ?_
            refine wl_callp rfl rfl rfl Tryz.c156 (add32_ok (x := R % 4294967296) (y := v1) (c := 0) (by omega) hv1 (by omega)) ?_; rintro w2 m3 hm3 hw
            rw [hRm] at hw
            subst hw
            refine wmv ?_
            refine wex ?_
            refine wex ?_
            refine was ?_
            refine was ?_
            refine wl_nil ?_
            refine at_block_normal ?_
            exact at_again e [(0, .int .u32 (u2 : Nat)), (1, .int .u32 (u1 : Nat)), (2, .int .u32 (u0 : Nat)), (3, .int .u32 (v1 : Nat)), (4, .int .u32 (v2 : Nat)), (11, .int .u32 (e : Nat)), (12, .int .u32 ((R + v1 + 0) % 4294967296 : Nat)), (13, .int .u32 ((R + v1 + 0) / 4294967296 : Nat))] (by omega) ⟨e, R + v1 + 0, rfl, rfl, by omega, by omega, hdr2, .inl hn, rfl⟩ (by repeat' (first | exact trivial | exact rfl | exact lk_int rfl (by omega) | apply And.intro))
        · skip
          have hgt : R * 4294967296 + u0 < d * v2 := by omega
          have hd0 : 0 < d := Nat.pos_of_ne_zero fun h => by rw [h, Nat.zero_mul] at hgt; omega
          obtain ⟨e, he⟩ : ∃ e, d = e + 1 := ⟨d - 1, by omega⟩
          have hn := est_pred he hexp hdr hgt rfl
          have hdr2 : e * v1 + (R + v1 + 0) = u2 * 4294967296 + u1 := by have h := hdr; rw [he, Nat.add_mul] at h; omega
          refine wl_off rfl rfl rfl ?_
          refine wl_off rfl rfl rfl ?_
          refine wl_off rfl rfl rfl ?_
          refine wv (x_pick_f rfl rfl) ?_
          refine wv (x_pick_f rfl rfl) ?_
          refine wns ?_
          refine w_false rfl ?_
          refine w_skip ?_
          refine at_seq ?_
          refine wsr ?_
          refine wmv ?_
          refine wv (x_sub rfl rfl (u32n (r := e) (by omega) (by omega))) ?_
          refine was ?_
          refine wns ?_
          refine w_region ?_
          refine wmv ?_
          refine wmv ?_
          refine wl_callp rfl rfl rfl Tryz.c156 (add32_ok (x := R % 4294967296) (y := v1) (c := 0) (by omega) hv1 (by omega)) ?_; rintro w2 m3 hm3 hw
          rw [hRm] at hw
          subst hw
          refine wmv ?_
          refine wex ?_
          refine wex ?_
          refine was ?_
          refine was ?_
          refine wl_nil ?_
          refine at_block_normal ?_
          exact at_again e [(0, .int .u32 (u2 : Nat)), (1, .int .u32 (u1 : Nat)), (2, .int .u32 (u0 : Nat)), (3, .int .u32 (v1 : Nat)), (4, .int .u32 (v2 : Nat)), (11, .int .u32 (e : Nat)), (12, .int .u32 ((R + v1 + 0) % 4294967296 : Nat)), (13, .int .u32 ((R + v1 + 0) / 4294967296 : Nat))] (by omega) ⟨e, R + v1 + 0, rfl, rfl, by omega, by omega, hdr2, .inl hn, rfl⟩ (by repeat' (first | exact trivial | exact rfl | exact lk_int rfl (by omega) | apply And.intro))
    · skip
      have hR1 : 4294967296 ≤ R := by omega
      refine w_exit ?_
      refine at_then_exit ?_
      refine at_then_exit ?_
      refine at_block_hit ?_
      refine at_seq ?_
      refine wsr ?_
      refine wmv ?_
      refine was ?_
      refine wns ?_
      refine w_ret ?_
      refine at_endp (res1 rfl rfl) ?_
      exact ⟨d, rfl, hd, by rw [hexp]; omega, hmax⟩

theorem subm_ok {m : Mem} {b o L cap q : Nat} {u : Value} {us vs : List Nat} (hu : Dg m u vs) (huo : okd us) (hL : L = vs.length + 1) (hoL : o + L ≤ us.length) (hs : us.length ≤ 35184372088832) (hq : q < 4294967296) :
    Does Tryz.prog 226 #[.slice (some ⟨b, o, none⟩) L cap, u, .int .u32 q] m [(b, cl 51 (dsv us))] fun r _ H' => ∃ ws bo, bo ≤ 1 ∧ r = .bool (decide (bo ≠ 0)) ∧ ws.length = us.length ∧ okd ws ∧ ws.drop (o + (vs.length + 1)) = us.drop (o + (vs.length + 1)) ∧ nv ws + 4294967296 ^ o * (nv vs * q) = nv us + 4294967296 ^ (o + (vs.length + 1)) * bo ∧ H' = [(b, cl 51 (dsv ws))] := by
  obtain ⟨hvo, hvl, a, vcap, rfl, hac, har⟩ := hu
  refine enter Tryz.func226 rfl rfl ?_
  intro K hm0 hks
  refine wsr ?_
  refine was ?_
  refine wnr ?_
  refine was ?_
  refine was ?_
  refine wns ?_
  refine w_seq ?_
  refine wsr ?_
  refine wmv ?_
  refine wv (x_len Tryz.underlying47 rfl rfl) ?_
  refine wmv ?_
  refine wns ?_
  refine w_block ?_
  refine w_loop (fun r m' H' env' => ∃ i ws c bo, m.le m' ∧ r + i = vs.length ∧ ws.length = us.length ∧ okd ws ∧ c < 4294967296 ∧ bo ≤ 1 ∧ ws.drop (o + (vs.length + 1)) = us.drop (o + (vs.length + 1)) ∧ nv ws + 4294967296 ^ o * (nv (vs.take i) * q) = nv us + 4294967296 ^ (o + i) * (c + bo) ∧ H' = [(b, cl 51 (dsv ws))] ∧ env' = [(0, .slice (some ⟨b, o, none⟩) L cap), (1, .slice a vs.length vcap), (2, .int .u32 (q : Nat)), (7, .int .u32 (c : Nat)), (8, .int .u32 (bo : Nat)), (15, .slice a vs.length vcap), (16, .int .i64 vs.length), (17, .int .i64 (i : Nat))]) vs.length [(0, .slice (some ⟨b, o, none⟩) L cap), (1, .slice a vs.length vcap), (2, .int .u32 (q : Nat)), (7, .int .u32 (0 : Nat)), (8, .int .u32 (0 : Nat)), (15, .slice a vs.length vcap), (16, .int .i64 vs.length), (17, .int .i64 (0 : Nat))] ⟨0, us, 0, 0, Mem.le.refl _, rfl, rfl, huo, by omega, by omega, rfl, by simp [nv], rfl, rfl⟩ (by repeat' (first | exact trivial | exact rfl | exact lk_int rfl (by omega) | apply And.intro)) ?_
  rintro r m1 H' env' ⟨i, ws, c, bo, hm1, hri, hwl, hwo, hc, hbo, hwd, hinv, rfl, rfl⟩
  refine wsr ?_
  refine wv (x_lss rfl rfl) ?_
  refine wns ?_
  refine w_seq ?_
  refine w_if rfl (fun h1 => ?_) (fun h1 => ?_)
  · skip
    have hi : i < vs.length := by omega
    have hk : o + i < ws.length := by omega
    obtain ⟨bx, ox, rfl, hrx⟩ := har (by omega)
    have hy := hvo _ (List.getElem_mem hi)
    have hw := hwo _ (List.getElem_mem hk)
    have hp : vs[i] * q ≤ 4294967295 * 4294967295 := Nat.mul_le_mul (by omega) (by omega)
    have st := subm_step (q := q) (y := vs[i]) (c := c) hk hw hbo
    have hbo' : (if ws[o + i] < (vs[i] * q + c) % 4294967296 + bo then 1 else 0) ≤ 1 := by split <;> omega
    have hinv' : nv (ws.set (o + i) ((ws[o + i] + 8589934592 - (vs[i] * q + c) % 4294967296 - bo) % 4294967296)) + 4294967296 ^ o * (nv (vs.take (i + 1)) * q) = nv us + 4294967296 ^ (o + (i + 1)) * ((vs[i] * q + c) / 4294967296 + (if ws[o + i] < (vs[i] * q + c) % 4294967296 + bo then 1 else 0)) := by
      rw [nv_take_succ hi, Nat.add_mul, Nat.mul_add, ← Nat.add_assoc o i 1]
      have e : 4294967296 ^ o * (4294967296 ^ i * vs[i] * q) = 4294967296 ^ (o + i) * (vs[i] * q) := by rw [Nat.pow_add, Nat.mul_assoc (4294967296 ^ i), Nat.mul_assoc (4294967296 ^ o)]
      omega
    have hlow : (vs[i] * q % 4294967296 + c + 0) % 4294967296 = (vs[i] * q + c) % 4294967296 := by omega
    have hhigh : vs[i] * q / 4294967296 + (vs[i] * q % 4294967296 + c + 0) / 4294967296 = (vs[i] * q + c) / 4294967296 := by omega
    generalize hB : (if ws[o + i] < (vs[i] * q + c) % 4294967296 + bo then 1 else 0) = bo' at *
    generalize hLo : (vs[i] * q + c) % 4294967296 = lo at *
    generalize hHi : (vs[i] * q + c) / 4294967296 = hi' at *
    have hlo : lo < 4294967296 := by omega
    refine w_skip ?_
    refine at_seq ?_
    refine w_seq ?_
    refine w_block ?_
    refine wsr ?_
    refine wmv ?_
    refine wv (x_index Tryz.underlying47 Tryz.size51 rfl rfl rfl (by omega)) ?_
    refine wv (x_load Tryz.plain51 rfl (((hrx.up hm1).heap.nth i (dsv_get hi) (by omega)))) ?_
    refine was ?_
    refine was ?_
    refine wnr ?_
    refine wmv ?_
    refine wmv ?_
    refine wl_callp rfl rfl rfl Tryz.c252 (mul32_ok hy hq) ?_; rintro w1 m2 hm2 rfl
    refine wmv ?_
    refine wex ?_
    refine wex ?_
    refine was ?_
    refine was ?_
    refine wnr ?_
    refine wmv ?_
    refine wmv ?_
    refine wl_callp rfl rfl rfl Tryz.c156 (add32_ok (c := 0) (Nat.mod_lt _ (by omega)) hc (by omega)) ?_; rintro w2 m3 hm3 hw2
    rw [hlow] at hw2
    subst hw2
    refine wmv ?_
    refine wex ?_
    refine wex ?_
    refine was ?_
    refine was ?_
    refine wnr ?_
    refine wmv ?_
    refine wmv ?_
    refine wv (x_add rfl rfl (u32n (r := hi') (by omega) (by omega))) ?_
    refine was ?_
    refine wns ?_
    refine w_region ?_
    refine wmv ?_
    refine wmv ?_
    refine wmv ?_
    refine wmv ?_
    refine wv (x_index Tryz.underlying47 Tryz.size51 rfl rfl (j := i) (by omega) (by omega)) ?_
    refine wv (x_load Tryz.plain51 rfl (rowH1 (.head _) (dsv_at hk (by omega)))) ?_
    refine wmv ?_
    refine wmv ?_
    refine wl_callp rfl rfl rfl Tryz.c158 (sub32_ok hw hlo hbo) ?_; rintro w3 m4 hm4 hw3
    rw [hB] at hw3
    subst hw3
    refine wmv ?_
    refine wex ?_
    refine wex ?_
    refine wv (x_index Tryz.underlying47 Tryz.size51 rfl rfl (j := i) (by omega) (by omega)) ?_
    refine wl_storeAs (xs' := dsv (ws.set (o + i) ((ws[o + i] + 8589934592 - lo - bo) % 4294967296))) rfl Tryz.size51 rfl rfl rfl (by simp [dsv]; omega) (dsv_setAs (by omega) (by omega)) ?_
    refine was ?_
    refine wl_nil ?_
    refine at_block_normal ?_
    refine at_seq ?_
    refine w_region ?_
    refine wv (x_add rfl rfl (wrap_i64 (by omega) (by omega))) ?_
    refine wmv ?_
    refine wl_nil ?_
    exact at_again (r - 1) [(0, .slice (some ⟨b, o, none⟩) L cap), (1, .slice (some ⟨bx, ox, none⟩) vs.length vcap), (2, .int .u32 (q : Nat)), (7, .int .u32 (hi' : Nat)), (8, .int .u32 (bo' : Nat)), (15, .slice (some ⟨bx, ox, none⟩) vs.length vcap), (16, .int .i64 vs.length), (17, .int .i64 (i + 1 : Nat))] (by omega) ⟨i + 1, _, hi', bo', hm1.trans (hm2.trans (hm3.trans hm4)), by omega, by simpa using hwl, okd_set hwo _ (Nat.mod_lt _ (by omega)), by omega, hbo', by rw [List.drop_set_of_lt (by omega)]; exact hwd, hinv', rfl, rfl⟩ (by repeat' (first | exact trivial | exact rfl | exact lk_int rfl (by omega) | apply And.intro))
  · skip
    obtain rfl : i = vs.length := by omega
    rw [List.take_length] at hinv
    have hk : o + vs.length < ws.length := by omega
    have hw := hwo _ (List.getElem_mem hk)
    have st := subm_step (q := 0) (y := 0) (c := c) hk hw hbo
    rw [Nat.mul_zero, Nat.mul_zero, Nat.zero_add, Nat.mod_eq_of_lt hc, Nat.div_eq_of_lt hc, Nat.zero_add] at st
    have hbo' : (if ws[o + vs.length] < c + bo then 1 else 0) ≤ 1 := by split <;> omega
    generalize hB : (if ws[o + vs.length] < c + bo then 1 else 0) = bo' at *
    refine w_exit ?_
    refine at_then_exit ?_
    refine at_then_exit ?_
    refine at_block_hit ?_
    refine at_seq ?_
    refine wsr ?_
    refine wmv ?_
    refine wv (x_len Tryz.underlying47 rfl rfl) ?_
    refine was ?_
    refine wnr ?_
    refine wmv ?_
    refine wmv ?_
    refine wmv ?_
    refine wmv ?_
    refine wv (x_index Tryz.underlying47 Tryz.size51 rfl rfl (j := vs.length) (by omega) (by omega)) ?_
    refine wv (x_load Tryz.plain51 rfl (rowH1 (.head _) (dsv_at hk (by omega)))) ?_
    refine wmv ?_
    refine wmv ?_
    refine wl_callp rfl rfl rfl Tryz.c158 (sub32_ok hw hc hbo) ?_; rintro w3 m4 hm4 hw3
    rw [hB] at hw3
    subst hw3
    refine wmv ?_
    refine wex ?_
    refine wex ?_
    refine wv (x_index Tryz.underlying47 Tryz.size51 rfl rfl (j := vs.length) (by omega) (by omega)) ?_
    refine wl_storeAs (xs' := dsv (ws.set (o + vs.length) ((ws[o + vs.length] + 8589934592 - c - bo) % 4294967296))) rfl Tryz.size51 rfl rfl rfl (by simp [dsv]; omega) (dsv_setAs (by omega) (by omega)) ?_
    refine was ?_
    refine wnr ?_
    refine wmv ?_
    refine wv (x_neq rfl rfl) ?_
    refine was ?_
    refine wns ?_
    refine w_ret ?_
    refine at_end (res1 rfl rfl) ?_
    exact ⟨_, bo', hbo', by congr 1; rw [decide_eq_decide]; omega, by simpa using hwl, okd_set hwo _ (Nat.mod_lt _ (by omega)), by rw [List.drop_set_of_lt (by omega)]; exact hwd, by rw [← Nat.add_assoc]; omega, rfl⟩
end Go.Cy
