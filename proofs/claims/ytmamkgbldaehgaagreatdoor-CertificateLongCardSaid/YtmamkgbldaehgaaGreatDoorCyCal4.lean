/- The calculus, further: addresses compared and converted, a function without a body, a row of bytes handed out as a string. -/
import Derived.Test.YtmamkgbldaehgaaGreatDoorCyCal3
import Derived.Lib.Builder
import Derived.Lib.UnsafeStr
import Derived.Laws.Externs
namespace Go.Cy
open Go

section
variable {P : Program} {n : Nat} {K : Ctx} {Q : Exit → Act → World → Prop} {env : Env} {m : Mem} {H : Hp} {ops : Array Oper} {rest : List Oper}
variable {d : Option Nat} {ty : TypeId} {pos : String} {aft : Array Edge} {g : Option (Nat × Bool)} {x y : Operand}

theorem x_eqlNN {T E T' : TypeId} (ht : P.underlying T = some (.pointer E)) (hx : ev env x = some (.pointer none)) (hy : ev env y = some (.pointer none)) : Ex P n ⟨d, .binOp .eql T x y T', ty, pos, aft, g⟩ env m H (.bool true) := fun a w ha _ _ => by
  have h0 : ∀ d : Nat, (Op.equalIn (d + 1) T (.pointer none) (.pointer none)).run P w = .ok true w := fun d => by simp [Op.equalIn, run_underlying ht]
  have h : (Op.equal T (.pointer none) (.pointer none)).run P w = .ok true w := by simp [Op.equal, Op.maxDepth, h0 9999]
  simp [execOp, ha.ev hx, ha.ev hy, eqGuard, binOp, h]
theorem x_eqlPN {T E T' : TypeId} {ad : Addr} (ht : P.underlying T = some (.pointer E)) (hx : ev env x = some (.pointer (some ad))) (hy : ev env y = some (.pointer none)) : Ex P n ⟨d, .binOp .eql T x y T', ty, pos, aft, g⟩ env m H (.bool false) := fun a w ha _ _ => by
  have h0 : ∀ d : Nat, (Op.equalIn (d + 1) T (.pointer (some ad)) (.pointer none)).run P w = .ok false w := fun d => by simp [Op.equalIn, run_underlying ht]
  have h : (Op.equal T (.pointer (some ad)) (.pointer none)).run P w = .ok false w := by simp [Op.equal, Op.maxDepth, h0 9999]
  simp [execOp, ha.ev hx, ha.ev hy, eqGuard, binOp, h]
theorem x_neqNN {T E T' : TypeId} (ht : P.underlying T = some (.pointer E)) (hx : ev env x = some (.pointer none)) (hy : ev env y = some (.pointer none)) : Ex P n ⟨d, .binOp .neq T x y T', ty, pos, aft, g⟩ env m H (.bool false) := fun a w ha _ _ => by
  have h0 : ∀ d : Nat, (Op.equalIn (d + 1) T (.pointer none) (.pointer none)).run P w = .ok true w := fun d => by simp [Op.equalIn, run_underlying ht]
  have h : (Op.equal T (.pointer none) (.pointer none)).run P w = .ok true w := by simp [Op.equal, Op.maxDepth, h0 9999]
  simp [execOp, ha.ev hx, ha.ev hy, eqGuard, binOp, h]
theorem x_neqPN {T E T' : TypeId} {ad : Addr} (ht : P.underlying T = some (.pointer E)) (hx : ev env x = some (.pointer (some ad))) (hy : ev env y = some (.pointer none)) : Ex P n ⟨d, .binOp .neq T x y T', ty, pos, aft, g⟩ env m H (.bool true) := fun a w ha _ _ => by
  have h0 : ∀ d : Nat, (Op.equalIn (d + 1) T (.pointer (some ad)) (.pointer none)).run P w = .ok false w := fun d => by simp [Op.equalIn, run_underlying ht]
  have h : (Op.equal T (.pointer (some ad)) (.pointer none)).run P w = .ok false w := by simp [Op.equal, Op.maxDepth, h0 9999]
  simp [execOp, ha.ev hx, ha.ev hy, eqGuard, binOp, h]
theorem x_neqSame {T E T' : TypeId} {ad : Addr} {j : TypeInfo} (ht : P.underlying T = some (.pointer E)) (hE : P.info? E = some j) (hx : ev env x = some (.pointer (some ad))) (hy : ev env y = some (.pointer (some ad))) : Ex P n ⟨d, .binOp .neq T x y T', ty, pos, aft, g⟩ env m H (.bool false) := fun a w ha _ _ => by
  have h := Lib.run_neq_ptr_same (P := P) w ad ht hE
  simp [execOp, ha.ev hx, ha.ev hy, eqGuard, h]

theorem shape_cl {w : World} {b : Nat} {E : TypeId} {xs : List Value} (h : w.heap[b]? = some (cl E xs)) : w.shape? b = some (E, xs.length) := by
  simp [World.shape?, h, cl]

theorem x_toUnsafe {T t e E : TypeId} {b o : Nat} {xs : List Value} {s : Nat} (hm : (b, cl E xs) ∈ H) (hs : P.underlying T = some (.pointer e)) (hd : P.underlying t = some .unsafePointer) (he : sizeIs P e (s + 1)) (ho : o < xs.length)
    (hx : ev env x = some (.pointer (some ⟨b, o, none⟩))) : Ex P n ⟨d, .convert T t x, ty, pos, aft, g⟩ env m H (.pointer (some ⟨b, o, none⟩)) := fun a w ha hf hh => by
  unfold sizeIs at he
  obtain ⟨j, hj, hjs⟩ := Option.map_eq_some_iff.1 he
  have h := Lib.run_to_unsafe (P := P) w ⟨b, o, none⟩ hs hd hj (by omega) (shape_cl (hh _ _ hm)) ho
  simp [execOp, ha.ev hx, h]
theorem x_fromUnsafe {T t u E : TypeId} {b o : Nat} {xs : List Value} {s : Nat} (hm : (b, cl E xs) ∈ H) (hs : P.underlying T = some .unsafePointer) (hd : P.underlying t = some (.pointer u)) (he : sizeIs P u s) {c : Nat} (hc : xs.length = c) (hlies : liesAt P P.depth E (c / P.cellsOf E) o u 1 = true)
    (hx : ev env x = some (.pointer (some ⟨b, o, none⟩))) : Ex P n ⟨d, .convert T t x, ty, pos, aft, g⟩ env m H (.pointer (some ⟨b, o, none⟩)) := fun a w ha hf hh => by
  unfold sizeIs at he
  obtain ⟨j, hj, hjs⟩ := Option.map_eq_some_iff.1 he
  subst hc
  have h := Lib.run_from_unsafe (P := P) w ⟨b, o, none⟩ hs hd hj (shape_cl (hh _ _ hm)) hlies
  simp [execOp, ha.ev hx, h]

/-- A function without a body that the model answers itself, and whose answer leaves the world alone. -/
theorem x_extern {f : FuncId} {fn : Func} {e : Array Value → Sem Value} {args : List Operand} {tys : Array TypeId} {vs : List Value} {v : Value} (hf : P.funcs[f]? = some fn) (hname : (fn.name == "runtime.NumGoroutine") = false)
    (hb : fn.body.isNone = true) (hn : Extern.findNext fn = none) (he : Extern.find fn = some e) (ha : evs env args = some vs) (hv : ∀ w, (e vs.toArray).run P w = .ok v w) :
    Ex P n ⟨d, .call ⟨.value (.func f), args.toArray, tys⟩, ty, pos, aft, g⟩ env m H v := fun a w hfr _ _ => by
  have h := run_callFunc_extern (P := P) hf hname hb hn he vs.toArray w
  rw [hv w] at h
  simp only [Result.andThen] at h
  simp [execOp, resolve, Deferred.ofValue, Act.eval, invoke, hfr.evs ha, h]

theorem x_sliceData {tys : Array TypeId} {b o len cap : Nat} (hc : 0 < cap) (hx : ev env x = some (.slice (some ⟨b, o, none⟩) len cap)) : Ex P n ⟨d, .call ⟨.builtin .unsafeSliceData, [x].toArray, tys⟩, ty, pos, aft, g⟩ env m H (.pointer (some ⟨b, o, none⟩)) := fun a w ha _ _ => by
  have h := Lib.run_unsafeSliceData_row (P := P) w tys ty ⟨b, o, none⟩ len cap (by omega)
  simp [execOp, resolve, invoke, builtin, ha.ev hx, h]

/-- A block that is no more spoken of. -/
theorem St.lose {w w' : World} {b : Nat} {o : Obj} (h : St K m ((b, o) :: H) w) (hos : w'.os = w.os) (htape : w'.tape = w.tape) (hout : w'.output = w.output) (hsz : w'.heap.size = w.heap.size)
    (hold : ∀ k, k ≠ b → w'.heap[k]? = w.heap[k]?) : St K m H w' := by
  have hlt : b < w'.heap.size := by rw [hsz]; exact lt_of_heap (h.heap b o (.head _))
  exact (h.write (o' := w'.heap[b]) hos htape hout hsz (Array.getElem?_eq_getElem hlt) hold).drop1

/-- The bytes of a row handed out as a string: the row is given away. -/
theorem wl_unsafeString {dd : Nat} {pt it e : TypeId} {b : Nat} {l : List UInt8} {junk : List Value} {H0 : Hp} {len : Int} {tys : Array TypeId} (hT : tys = #[pt, it]) (hg : gd ops env g = some true) (hd : Nat.blt dd n = true) (hp : P.underlying pt = some (.pointer e)) (hc : P.cellsOf e = 1)
    (hx : ev env x = some (.pointer (some ⟨b, 0, none⟩))) (hy : ev env y = some (.int .i64 len)) (hl : len = l.length) (hH : H = (b, cl e (bsv l ++ junk)) :: H0) (h0 : l ≠ []) (h63 : l.length ≤ 9223372036854775807)
    (h : WL P n K ops Q rest ((dd, .string (B l)) :: env) m H0) : WL P n K ops Q (⟨some dd, .call ⟨.builtin .unsafeString, [x, y].toArray, tys⟩, ty, pos, aft, g⟩ :: rest) env m H := by
  subst hH; subst hT; subst hl
  intro a w ha hst
  unfold wpList
  rw [if_pos (ha.wanted hg)]
  refine .inl ?_
  have hb := hst.heap b _ (.head _)
  have hr := Lib.run_unsafeString_row (P := P) w pt it ty e hp hc b _ (shape_cl hb) l h0 (by simp [bsv]) (by omega) (fun j x hx => by
    rw [add_none]
    have h1 : (bsv l ++ junk)[j]? = some (.int .u8 x.toNat) := by
      have hj := (List.getElem?_eq_some_iff.1 hx).1
      rw [List.getElem?_append_left (by simpa [bsv] using hj)]
      simp [bsv, hx]
    simp [World.cell?, hb, cl, h1])
  unfold Oper.wp
  have hx' : (execOp a.eval ⟨some dd, .call ⟨.builtin .unsafeString, [x, y].toArray, #[pt, it]⟩, ty, pos, aft, g⟩).run P w = .ok (.value (.string (B l))) (w.freeze ⟨b, 0, none⟩ l.length) := by
    simp [execOp, resolve, invoke, builtin, ha.ev hx, ha.ev hy, hr, B]
  rw [hx', Oper.upon_value]
  refine h _ _ (ha.put _ hd) (hst.lose ?_ ?_ ?_ ?_ ?_)
  all_goals unfold World.freeze
  · split <;> rfl
  · split <;> rfl
  · split <;> rfl
  · split <;> simp
  · intro k hk
    split
    · rfl
    · simp only [Array.getElem?_modify]
      rw [if_neg (fun e => hk e.symm)]
end

theorem at_drop1 {n : Nat} {K : Ctx} {Q : Exit → Act → World → Prop} {env : Env} {m : Mem} {H : Hp} {e : Exit} {x : Nat × Obj} (h : At n K Q e env m H) : At n K Q e env m (x :: H) := fun a w ha hs => h a w ha hs.drop1
theorem at_perm {n : Nat} {K : Ctx} {Q : Exit → Act → World → Prop} {env : Env} {m : Mem} {H H' : Hp} {e : Exit} (hp : H.Perm H') (h : At n K Q e env m H') : At n K Q e env m H := fun a w ha hs => h a w ha (hs.perm hp)
theorem St.subl {K : Ctx} {m : Mem} {H H' : Hp} {w : World} (h : St K m H w) (hs : H'.Sublist H) : St K m H' w := h.sub (fun _ _ hb => hs.subset hb) ((hs.map _).nodup h.nodup)
theorem wl_subl {P : Program} {n : Nat} {K : Ctx} {Q : Exit → Act → World → Prop} {env : Env} {m : Mem} {H H' : Hp} {ops : Array Oper} {rest : List Oper} (hs : H'.Sublist H) (h : WL P n K ops Q rest env m H') : WL P n K ops Q rest env m H := fun a w ha hst => h a w ha (hst.subl hs)
theorem at_subl {n : Nat} {K : Ctx} {Q : Exit → Act → World → Prop} {env : Env} {m : Mem} {H H' : Hp} {e : Exit} (hs : H'.Sublist H) (h : At n K Q e env m H') : At n K Q e env m H := fun a w ha hst => h a w ha (hst.subl hs)
theorem w_subl {P : Program} {n : Nat} {K : Ctx} {Q : Exit → Act → World → Prop} {env : Env} {m : Mem} {H H' : Hp} {c : Code} (hs : H'.Sublist H) (h : W P n K c Q env m H') : W P n K c Q env m H := fun a w ha hst => h a w ha (hst.subl hs)
theorem St.clear {K : Ctx} {m : Mem} {H : Hp} {w : World} (h : St K m H w) : St K m [] w := h.sub (fun _ _ hb => absurd hb List.not_mem_nil) List.nodup_nil
theorem wl_clear {P : Program} {n : Nat} {K : Ctx} {Q : Exit → Act → World → Prop} {env : Env} {m : Mem} {H : Hp} {ops : Array Oper} {rest : List Oper} (h : WL P n K ops Q rest env m []) : WL P n K ops Q rest env m H := fun a w ha hs => h a w ha hs.clear
theorem at_clear {n : Nat} {K : Ctx} {Q : Exit → Act → World → Prop} {env : Env} {m : Mem} {H : Hp} {e : Exit} (h : At n K Q e env m []) : At n K Q e env m H := fun a w ha hs => h a w ha hs.clear
theorem w_clear {P : Program} {n : Nat} {K : Ctx} {Q : Exit → Act → World → Prop} {env : Env} {m : Mem} {H : Hp} {c : Code} (h : W P n K c Q env m []) : W P n K c Q env m H := fun a w ha hs => h a w ha hs.clear

/-! ### Calls that are given blocks -/
section
variable {P : Program} {n : Nat} {K : Ctx} {Q : Exit → Act → World → Prop} {env : Env} {m : Mem} {ops : Array Oper} {rest : List Oper}
variable {f : FuncId} {args : List Operand} {tys : Array TypeId} {vs : List Value} {d : Nat} {ty : TypeId} {pos : String} {aft : Array Edge} {g : Option (Nat × Bool)} {Hc : Hp} {R : Value → Mem → Hp → Prop} {e1 e2 e3 : Nat × Obj}
theorem wl_calld0 (hg : gd ops env g = some true) (hd : Nat.blt d n = true) (ha : evs env args = some vs) (hc : Callable P f) (hf : Does P f vs.toArray m Hc R)
    (h : ∀ v m' H', m.le m' → R v m' H' → WL P n K ops Q rest ((d, v) :: env) m' H') : WL P n K ops Q (⟨some d, .call ⟨.value (.func f), args.toArray, tys⟩, ty, pos, aft, g⟩ :: rest) env m Hc :=
  wl_call hg hd ha hc (List.append_nil _).symm hf fun v m' H' hm hR => by rw [List.append_nil]; exact h v m' H' hm hR
theorem wl_calldp {H Hr : Hp} (hp : H.Perm (Hc ++ Hr)) (hg : gd ops env g = some true) (hd : Nat.blt d n = true) (ha : evs env args = some vs) (hc : Callable P f) (hf : Does P f vs.toArray m Hc R)
    (h : ∀ v m' H', m.le m' → R v m' H' → WL P n K ops Q rest ((d, v) :: env) m' (Hr ++ H')) : WL P n K ops Q (⟨some d, .call ⟨.value (.func f), args.toArray, tys⟩, ty, pos, aft, g⟩ :: rest) env m H :=
  wl_perm hp (wl_call hg hd ha hc rfl hf fun v m' H' hm hR => wl_perm List.perm_append_comm (h v m' H' hm hR))
theorem wl_calld1 (hg : gd ops env g = some true) (hd : Nat.blt d n = true) (ha : evs env args = some vs) (hc : Callable P f) (hf : Does P f vs.toArray m Hc R)
    (h : ∀ v m' H', m.le m' → R v m' H' → WL P n K ops Q rest ((d, v) :: env) m' (e1 :: H')) : WL P n K ops Q (⟨some d, .call ⟨.value (.func f), args.toArray, tys⟩, ty, pos, aft, g⟩ :: rest) env m (e1 :: Hc) :=
  wl_calldp (Hr := [e1]) (List.perm_append_comm (l₁ := [e1])) hg hd ha hc hf h
theorem wl_calld2 (hg : gd ops env g = some true) (hd : Nat.blt d n = true) (ha : evs env args = some vs) (hc : Callable P f) (hf : Does P f vs.toArray m Hc R)
    (h : ∀ v m' H', m.le m' → R v m' H' → WL P n K ops Q rest ((d, v) :: env) m' (e1 :: e2 :: H')) : WL P n K ops Q (⟨some d, .call ⟨.value (.func f), args.toArray, tys⟩, ty, pos, aft, g⟩ :: rest) env m (e1 :: e2 :: Hc) :=
  wl_calldp (Hr := [e1, e2]) (List.perm_append_comm (l₁ := [e1, e2])) hg hd ha hc hf h
theorem wl_calld3 (hg : gd ops env g = some true) (hd : Nat.blt d n = true) (ha : evs env args = some vs) (hc : Callable P f) (hf : Does P f vs.toArray m Hc R)
    (h : ∀ v m' H', m.le m' → R v m' H' → WL P n K ops Q rest ((d, v) :: env) m' (e1 :: e2 :: e3 :: H')) : WL P n K ops Q (⟨some d, .call ⟨.value (.func f), args.toArray, tys⟩, ty, pos, aft, g⟩ :: rest) env m (e1 :: e2 :: e3 :: Hc) :=
  wl_calldp (Hr := [e1, e2, e3]) (List.perm_append_comm (l₁ := [e1, e2, e3])) hg hd ha hc hf h
variable {e0 : Nat × Obj}
theorem wl_callw1 (hg : gd ops env g = some true) (hd : Nat.blt d n = true) (ha : evs env args = some vs) (hc : Callable P f) (hf : Does P f vs.toArray m (e0 :: Hc) R)
    (h : ∀ v m' H', m.le m' → R v m' H' → WL P n K ops Q rest ((d, v) :: env) m' (e1 :: H')) : WL P n K ops Q (⟨some d, .call ⟨.value (.func f), args.toArray, tys⟩, ty, pos, aft, g⟩ :: rest) env m (e0 :: e1 :: Hc) :=
  wl_calldp (Hr := [e1]) (.cons _ (List.perm_append_comm (l₁ := [e1]))) hg hd ha hc hf h
theorem wl_callw2 (hg : gd ops env g = some true) (hd : Nat.blt d n = true) (ha : evs env args = some vs) (hc : Callable P f) (hf : Does P f vs.toArray m (e0 :: Hc) R)
    (h : ∀ v m' H', m.le m' → R v m' H' → WL P n K ops Q rest ((d, v) :: env) m' (e1 :: e2 :: H')) : WL P n K ops Q (⟨some d, .call ⟨.value (.func f), args.toArray, tys⟩, ty, pos, aft, g⟩ :: rest) env m (e0 :: e1 :: e2 :: Hc) :=
  wl_calldp (Hr := [e1, e2]) (.cons _ (List.perm_append_comm (l₁ := [e1, e2]))) hg hd ha hc hf h
theorem wl_callw3 (hg : gd ops env g = some true) (hd : Nat.blt d n = true) (ha : evs env args = some vs) (hc : Callable P f) (hf : Does P f vs.toArray m (e0 :: Hc) R)
    (h : ∀ v m' H', m.le m' → R v m' H' → WL P n K ops Q rest ((d, v) :: env) m' (e1 :: e2 :: e3 :: H')) : WL P n K ops Q (⟨some d, .call ⟨.value (.func f), args.toArray, tys⟩, ty, pos, aft, g⟩ :: rest) env m (e0 :: e1 :: e2 :: e3 :: Hc) :=
  wl_calldp (Hr := [e1, e2, e3]) (.cons _ (List.perm_append_comm (l₁ := [e1, e2, e3]))) hg hd ha hc hf h
end
/-- A slice of given cells in a region that draws its order: nobody writes it any more. -/
theorem ds_buildSlice {P : Program} {n : Nat} {Q : Exit → Act → World → Prop} {env : Env} {m : Mem} {H : Hp} {l : List Oper} {d : Option Nat} {ty : TypeId} {pos : String} {aft : Array Edge} {g : Option (Nat × Bool)} {T E : TypeId} {len s : Nat} {zs cs : List Value} {ps : List (Nat × Operand)} {vs : List (Nat × Value)} {up : ∀ (v : Value) (m m' : Mem), m.le m' → (∃ b, v = .slice (some ⟨b, 0, none⟩) len len ∧ Row m [] b 0 cs) → ∃ b, v = .slice (some ⟨b, 0, none⟩) len len ∧ Row m' [] b 0 cs}
    (hg : gd l.toArray env g = some true) (ht : P.underlying T = some (.slice E)) (hs : sizeIs P E (s + 1)) (hz : zeroIs P E zs) (hzl : Nat.beq zs.length (s + 1) = true)
    (hlen : Nat.ble 1 (len * (s + 1)) = true) (hmax : Nat.ble (len * (s + 1)) 16777216 = true) (hv : evp env ps = some vs) (hc' : fillL (fun i => some (i * (s + 1), (s + 1))) (reps len zs) vs = some cs) :
    DStep P n l.toArray Q ⟨d, .buildSlice T len ps.toArray, ty, pos, aft, g⟩ env m H (Phi.ret (fun v m => ∃ b, v = .slice (some ⟨b, 0, none⟩) len len ∧ Row m [] b 0 cs) up).p := by
  obtain ⟨z, hz1, hz2⟩ := hz
  have e : z.cells = zs.toArray := by rw [← hz2]
  have hc1 := fill_eq _ _ _ _ hc'
  intro a w ha hf hh
  rw [if_pos (ha.wanted hg)]
  have hx : (execOp a.eval ⟨d, .buildSlice T len ps.toArray, ty, pos, aft, g⟩).run P w = .ok (.value (.slice (some ⟨w.heap.size, 0, none⟩) len len)) (w.alloc (cl E cs)) := by
    have h1 : ¬ (16777216 < len * (s + 1)) := by have := Nat.le_of_ble_eq_true hmax; omega
    have h2 : ¬ (len * (s + 1) = 0) := by have := Nat.le_of_ble_eq_true hlen; omega
    simp [execOp, Instr.buildSlice, underlying, ht, run_sizeOf hs, h1, run_zeroValue' hz1, newRow, e, ha.evp hv]
    rw [if_neg h2]
    have hr := range_reps zs len
    rw [Nat.eq_of_beq_eq_true hzl] at hr
    have hr2 : ((Array.range (len * (s + 1))).map fun i => zs[i % zs.length]?.getD default) = (reps len zs).toArray := by
      rw [← hr]
      simp
    rw [hr2, hc1]
    simp [cl]
  unfold Oper.wp
  rw [hx, Oper.upon_value]
  have h0 : St ⟨w, m, []⟩ m [] w := St.start (H := []) hf (fun _ _ h => absurd h List.not_mem_nil) List.nodup_nil (fun _ _ h => absurd h List.not_mem_nil)
  have h1 := (h0.alloc (cl E cs)).freeze
  exact ⟨_, m.add w.heap.size (cl E cs), [], rfl, h1, ⟨w.heap.size, rfl, rowM (Mem.add_at _ _ _) fun i _ => by simp⟩, rfl⟩
theorem Own.slice {v : Value} {s : Nat} {E : TypeId} {cells : List Value} {Hs : Hp} (h : Own v s E cells Hs) : ∃ a l c, v = .slice a l c := by
  rcases h with ⟨rfl, _⟩ | ⟨b, len, cap, xs, rfl, _⟩
  · exact ⟨_, _, _, rfl⟩
  · exact ⟨_, _, _, rfl⟩
theorem Own.len {a : Option Addr} {l c s : Nat} {E : TypeId} {cells : List Value} {Hs : Hp} (h : Own (.slice a l c) s E cells Hs) : cells.length = l * s := by
  rcases h with ⟨h1, rfl, _⟩ | ⟨b, len, cap, xs, h1, _, h2, _⟩
  · cases h1; simp
  · cases h1; exact h2
theorem Own.some {v : Value} {s : Nat} {E : TypeId} {cells : List Value} {Hs : Hp} (h : Own v s E cells Hs) (h0 : cells ≠ []) : ∃ b len cap junk, v = .slice (some ⟨b, 0, none⟩) len cap ∧ len ≤ cap ∧ cells.length = len * s ∧ Hs = [(b, cl E (cells ++ junk))] := by
  rcases h with ⟨_, h1, _⟩ | ⟨b, len, cap, xs, h1, h2, h3, h4, h5, h6⟩
  · exact absurd h1 h0
  · exact ⟨b, len, cap, xs.drop (len * s), h1, h2, h3, by rw [h6, ← h5, List.take_append_drop]⟩
end Go.Cy
