/- A small calculus for walking the bodies of loaded Go functions: what is known of a frame is a list of slots with their values, what is known of memory is a part that nobody writes any more and a list of blocks of the call's own; one rule for each operation. It holds for every program. -/
import Derived.Tactics
import Derived.Tactics2
import Derived.Orders
import Derived.Room.AppendOwn
import Derived.Room.Make
import Derived.Below
import Derived.Scope
namespace Go.Cy
open Go

/-! ### What is known of a frame -/
abbrev Env := List (Nat × Value)

def lk : Env → Nat → Option Value
  | [], _ => none
  | (j, v) :: e, i => match Nat.beq j i with
    | true => some v
    | false => lk e i

structure Fr (n : Nat) (env : Env) (a : Act) : Prop where
  size : a.tmps.size = n
  get : ∀ i v, lk env i = some v → a.tmps[i]? = some v
  defers : a.defers = []

def ev (env : Env) : Operand → Option Value
  | .tmp t => lk env t
  | .const v => some v
  | .global g => some (.pointer (some ⟨g, 0, none⟩))
  | .func f => some (.func (.func f) #[] #[])

def evs (env : Env) : List Operand → Option (List Value)
  | [] => some []
  | x :: xs => match ev env x, evs env xs with
    | some v, some vs => some (v :: vs)
    | _, _ => none

theorem Fr.ev {n : Nat} {env : Env} {a : Act} (h : Fr n env a) {x : Operand} {v : Value} (hx : ev env x = some v) : a.eval x = v := by
  cases x with
  | tmp t => simp only [Cy.ev] at hx; simp [Act.eval, Array.getD_eq_getD_getElem?, h.get t v hx]
  | const u => simp only [Cy.ev, Option.some.injEq] at hx; exact hx
  | global g => simp only [Cy.ev, Option.some.injEq] at hx; exact hx
  | func f => simp only [Cy.ev, Option.some.injEq] at hx; exact hx

theorem Fr.evs {n : Nat} {env : Env} {a : Act} (h : Fr n env a) : ∀ {xs : List Operand} {vs : List Value}, evs env xs = some vs → xs.map a.eval = vs
  | [], vs, hx => by simp only [Cy.evs, Option.some.injEq] at hx; simp [← hx]
  | x :: xs, vs, hx => by
    simp only [Cy.evs] at hx
    split at hx
    · rename_i v vs' h1 h2
      simp only [Option.some.injEq] at hx
      rw [List.map_cons, h.ev h1, Fr.evs h h2, hx]
    · exact absurd hx (by simp)

theorem Fr.put {n : Nat} {env : Env} {a : Act} (h : Fr n env a) {d : Nat} (v : Value) (hd : Nat.blt d n = true) : Fr n ((d, v) :: env) (a.put (some d) v) := by
  have hd' : d < n := by simpa [Nat.blt_eq] using hd
  refine ⟨by simp [Act.put, h.size], fun i u hi => ?_, by simp [Act.put, h.defers]⟩
  simp only [lk] at hi
  split at hi
  · rename_i hb
    have : d = i := Nat.eq_of_beq_eq_true hb
    subst this
    simp only [Option.some.injEq] at hi
    subst hi
    simp [Act.put, h.size, hd']
  · rename_i hb
    have hne : d ≠ i := Nat.ne_of_beq_eq_false hb
    simp only [Act.put]
    rw [Array.getElem?_setIfInBounds_ne hne]
    exact h.get i u hi

theorem Fr.know {n : Nat} {env : Env} {a : Act} (h : Fr n env a) {d : Nat} {v : Value} (hd : lk env d = some v) : Fr n ((d, v) :: env) a := by
  refine ⟨h.size, fun i u hi => ?_, h.defers⟩
  simp only [lk] at hi
  split at hi
  · rename_i hb
    have : d = i := Nat.eq_of_beq_eq_true hb
    subst this
    simp only [Option.some.injEq] at hi
    subst hi
    exact h.get d v hd
  · exact h.get i u hi

def Sub (env : Env) : Env → Prop
  | [] => True
  | (i, v) :: t => lk env i = some v ∧ Sub env t

theorem Sub.get {env : Env} : ∀ {env' : Env}, Sub env env' → ∀ i v, lk env' i = some v → lk env i = some v
  | [], _, i, v, hi => by simp [lk] at hi
  | (j, u) :: t, h, i, v, hi => by
    simp only [lk] at hi
    split at hi
    · rename_i hb
      have : j = i := Nat.eq_of_beq_eq_true hb
      subst this
      simp only [Option.some.injEq] at hi
      subst hi
      exact h.1
    · exact Sub.get h.2 i v hi

theorem Fr.sub {n : Nat} {env env' : Env} {a : Act} (h : Fr n env a) (hs : Sub env env') : Fr n env' a := ⟨h.size, fun i v hi => h.get i v (hs.get i v hi), h.defers⟩

theorem lk_int {env : Env} {i : Nat} {k : IntKind} {x y : Int} (h : lk env i = some (.int k x)) (e : x = y) : lk env i = some (.int k y) := e ▸ h
theorem lk_eq {env : Env} {i : Nat} {x y : Value} (h : lk env i = some x) (e : x = y) : lk env i = some y := e ▸ h

/-! ### What is known of memory -/
abbrev Mem := Nat → Option Obj
abbrev Hp := List (Nat × Obj)

def Mem.le (m m' : Mem) : Prop := ∀ b o, m b = some o → m' b = some o
theorem Mem.le.refl (m : Mem) : m.le m := fun _ _ h => h
theorem Mem.le.trans {a b c : Mem} (h : a.le b) (k : b.le c) : a.le c := fun i o hi => k i o (h i o hi)

def Fits (m : Mem) (w : World) : Prop := ∀ b o, m b = some o → w.heap[b]? = some o
def Has (H : Hp) (w : World) : Prop := ∀ b o, (b, o) ∈ H → w.heap[b]? = some o
def keys (H : Hp) : List Nat := H.map (·.1)

theorem keys_mem {H : Hp} {b : Nat} (h : b ∈ keys H) : ∃ o, (b, o) ∈ H := by
  obtain ⟨⟨b', o⟩, hm, rfl⟩ := List.mem_map.1 h
  exact ⟨o, hm⟩
theorem mem_keys {H : Hp} {b : Nat} {o : Obj} (h : (b, o) ∈ H) : b ∈ keys H := List.mem_map.2 ⟨(b, o), h, rfl⟩

theorem lt_of_heap {w : World} {b : Nat} {o : Obj} (h : w.heap[b]? = some o) : b < w.heap.size := (Array.getElem?_eq_some_iff.1 h).1

structure Ctx where
  w0 : World
  m0 : Mem
  ks : List Nat

structure St (K : Ctx) (m : Mem) (H : Hp) (w : World) : Prop where
  os : w.os = K.w0.os
  tape : w.tape = K.w0.tape
  output : w.output = K.w0.output
  size : K.w0.heap.size ≤ w.heap.size
  old : ∀ k, k < K.w0.heap.size → k ∉ K.ks → w.heap[k]? = K.w0.heap[k]?
  mem : Fits m w
  heap : Has H w
  own : ∀ b o, (b, o) ∈ H → b ∈ K.ks ∨ K.w0.heap.size ≤ b
  nodup : (keys H).Nodup
  apart : ∀ b o, (b, o) ∈ H → m b = none
  le : K.m0.le m
  grow : ∀ b, m b ≠ K.m0 b → b ∈ K.ks ∨ K.w0.heap.size ≤ b

theorem St.sub {K : Ctx} {m : Mem} {H H' : Hp} {w : World} (h : St K m H w) (hm : ∀ b o, (b, o) ∈ H' → (b, o) ∈ H) (hn : (keys H').Nodup) : St K m H' w :=
  { h with heap := fun b o hb => h.heap b o (hm b o hb), own := fun b o hb => h.own b o (hm b o hb), nodup := hn, apart := fun b o hb => h.apart b o (hm b o hb) }
theorem St.perm {K : Ctx} {m : Mem} {H H' : Hp} {w : World} (h : St K m H w) (hp : H.Perm H') : St K m H' w :=
  h.sub (fun _ _ hb => hp.mem_iff.2 hb) ((hp.map _).nodup_iff.1 h.nodup)
theorem St.drop {K : Ctx} {m : Mem} {H H' : Hp} {w : World} (h : St K m (H' ++ H) w) : St K m H w := by
  refine h.sub (fun b o hb => List.mem_append_right _ hb) ?_
  have := h.nodup
  unfold keys at *
  rw [List.map_append, List.nodup_append] at this
  exact this.2.1
theorem St.drop1 {K : Ctx} {m : Mem} {H : Hp} {e : Nat × Obj} {w : World} (h : St K m (e :: H) w) : St K m H w := St.drop (H' := [e]) h

theorem St.start {m : Mem} {H : Hp} {w : World} (hf : Fits m w) (hh : Has H w) (hn : (keys H).Nodup) (ha : ∀ b o, (b, o) ∈ H → m b = none) : St ⟨w, m, keys H⟩ m H w :=
  ⟨rfl, rfl, rfl, Nat.le_refl _, fun _ _ _ => rfl, hf, hh, fun _ _ hb => .inl (mem_keys hb), hn, ha, Mem.le.refl m, fun _ hb => absurd rfl hb⟩

theorem St.call {K : Ctx} {m m' : Mem} {Hc Hc' Hr : Hp} {w w' : World} (h : St K m (Hc ++ Hr) w) (c : St ⟨w, m, keys Hc⟩ m' Hc' w') : St K m' (Hc' ++ Hr) w' := by
  have hnd := h.nodup
  unfold keys at hnd
  rw [List.map_append, List.nodup_append] at hnd
  have hr : ∀ b o, (b, o) ∈ Hr → b < w.heap.size ∧ b ∉ keys Hc := fun b o hb => by
    refine ⟨lt_of_heap (h.heap b o (List.mem_append_right _ hb)), fun hk => ?_⟩
    exact hnd.2.2 b hk b (mem_keys hb) rfl
  refine ⟨c.os.trans h.os, c.tape.trans h.tape, c.output.trans h.output, Nat.le_trans h.size c.size, fun k hk hks => ?_, c.mem, fun b o hb => ?_, fun b o hb => ?_, ?_, fun b o hb => ?_, h.le.trans c.le, fun b hb => ?_⟩
  · have hkc : k ∉ keys Hc := fun hkc => by
      obtain ⟨o, ho⟩ := keys_mem hkc
      rcases h.own k o (List.mem_append_left _ ho) with h1 | h1
      · exact hks h1
      · omega
    exact (c.old k (Nat.lt_of_lt_of_le hk h.size) hkc).trans (h.old k hk hks)
  · rcases List.mem_append.1 hb with hb | hb
    · exact c.heap b o hb
    · rw [c.old b (hr b o hb).1 (hr b o hb).2]
      exact h.heap b o (List.mem_append_right _ hb)
  · rcases List.mem_append.1 hb with hb | hb
    · rcases c.own b o hb with h1 | h1
      · obtain ⟨o', ho'⟩ := keys_mem h1
        exact h.own b o' (List.mem_append_left _ ho')
      · exact .inr (Nat.le_trans h.size h1)
    · exact h.own b o (List.mem_append_right _ hb)
  · unfold keys
    rw [List.map_append, List.nodup_append]
    refine ⟨c.nodup, hnd.2.1, fun x hx y hy hxy => ?_⟩
    subst hxy
    obtain ⟨o, ho⟩ := keys_mem (H := Hc') hx
    obtain ⟨o', ho'⟩ := keys_mem (H := Hr) hy
    rcases c.own x o ho with h1 | h1
    · exact (hr x o' ho').2 h1
    · have h1' : w.heap.size ≤ x := h1
      have := (hr x o' ho').1
      omega
  · rcases List.mem_append.1 hb with hb | hb
    · exact c.apart b o hb
    · have hm := h.apart b o (List.mem_append_right _ hb)
      by_cases he : m' b = m b
      · rw [he]; exact hm
      · rcases c.grow b he with h1 | h1
        · exact absurd h1 (hr b o hb).2
        · have h1' : w.heap.size ≤ b := h1
          have := (hr b o hb).1
          omega
  · by_cases he : m' b = m b
    · exact h.grow b (by rw [← he]; exact hb)
    · rcases c.grow b he with h1 | h1
      · obtain ⟨o, ho⟩ := keys_mem h1
        exact h.own b o (List.mem_append_left _ ho)
      · exact .inr (Nat.le_trans h.size h1)

theorem St.alloc {K : Ctx} {m : Mem} {H : Hp} {w : World} (h : St K m H w) (o : Obj) : St K m ((w.heap.size, o) :: H) (w.alloc o) := by
  have hold : ∀ k, k < w.heap.size → (w.alloc o).heap[k]? = w.heap[k]? := fun k hk => by
    show (w.heap.push o)[k]? = _
    rw [Array.getElem?_push, if_neg (by omega)]
  refine ⟨h.os, h.tape, h.output, Nat.le_trans h.size (by simp), fun k hk hks => (hold k (Nat.lt_of_lt_of_le hk h.size)).trans (h.old k hk hks), fun b x hb => ?_, fun b x hb => ?_, fun b x hb => ?_, ?_, fun b x hb => ?_, h.le, h.grow⟩
  · rw [hold b (lt_of_heap (h.mem b x hb))]; exact h.mem b x hb
  · rcases List.mem_cons.1 hb with hb | hb
    · cases hb
      show (w.heap.push o)[w.heap.size]? = _
      simp
    · rw [hold b (lt_of_heap (h.heap b x hb))]; exact h.heap b x hb
  · rcases List.mem_cons.1 hb with hb | hb
    · cases hb; exact .inr h.size
    · exact h.own b x hb
  · unfold keys
    rw [List.map_cons, List.nodup_cons]
    refine ⟨fun hk => ?_, h.nodup⟩
    obtain ⟨x, hx⟩ := keys_mem (H := H) hk
    have := lt_of_heap (h.heap _ x hx)
    simp at this
  · rcases List.mem_cons.1 hb with hb | hb
    · cases hb
      cases hm : m w.heap.size with
      | none => rfl
      | some y => exact absurd (lt_of_heap (h.mem _ y hm)) (by simp)
    · exact h.apart b x hb

theorem St.write {K : Ctx} {m : Mem} {H : Hp} {w w' : World} {b : Nat} {o o' : Obj} (h : St K m ((b, o) :: H) w) (hos : w'.os = w.os) (htape : w'.tape = w.tape) (hout : w'.output = w.output) (hsz : w'.heap.size = w.heap.size)
    (hb : w'.heap[b]? = some o') (hold : ∀ k, k ≠ b → w'.heap[k]? = w.heap[k]?) : St K m ((b, o') :: H) w' := by
  have hnd := h.nodup
  unfold keys at hnd
  rw [List.map_cons, List.nodup_cons] at hnd
  have hown := h.own b o (.head _)
  have hap := h.apart b o (.head _)
  refine ⟨hos.trans h.os, htape.trans h.tape, hout.trans h.output, by rw [hsz]; exact h.size, fun k hk hks => ?_, fun k x hx => ?_, fun k x hx => ?_, fun k x hx => ?_, ?_, fun k x hx => ?_, h.le, h.grow⟩
  · have : k ≠ b := fun e => by
      subst e
      rcases hown with h1 | h1
      · exact hks h1
      · omega
    rw [hold k this]; exact h.old k hk hks
  · have : k ≠ b := fun e => by subst e; rw [hap] at hx; simp at hx
    rw [hold k this]; exact h.mem k x hx
  · rcases List.mem_cons.1 hx with hx | hx
    · cases hx; exact hb
    · have : k ≠ b := fun e => hnd.1 (e ▸ mem_keys hx)
      rw [hold k this]; exact h.heap k x (.tail _ hx)
  · rcases List.mem_cons.1 hx with hx | hx
    · cases hx; exact hown
    · exact h.own k x (.tail _ hx)
  · unfold keys; rw [List.map_cons, List.nodup_cons]; exact hnd
  · rcases List.mem_cons.1 hx with hx | hx
    · cases hx; exact hap
    · exact h.apart k x (.tail _ hx)

def Mem.add (m : Mem) (b : Nat) (o : Obj) : Mem := fun k => if k = b then some o else m k
theorem Mem.add_at (m : Mem) (b : Nat) (o : Obj) : m.add b o b = some o := by simp [Mem.add]
theorem Mem.le_add {m : Mem} {b : Nat} (o : Obj) (h : m b = none) : m.le (m.add b o) := fun k x hk => by
  unfold Mem.add
  rw [if_neg (fun e => by subst e; rw [h] at hk; simp at hk)]
  exact hk
theorem St.freeze {K : Ctx} {m : Mem} {H : Hp} {w : World} {b : Nat} {o : Obj} (h : St K m ((b, o) :: H) w) : St K (m.add b o) H w := by
  have hap := h.apart b o (.head _)
  have hnd := h.nodup
  unfold keys at hnd
  rw [List.map_cons, List.nodup_cons] at hnd
  have h2 := St.drop1 h
  refine { h2 with mem := fun k x hx => ?_, apart := fun k x hx => ?_, le := h.le.trans (Mem.le_add o hap), grow := fun k hk' => ?_ }
  · unfold Mem.add at hx
    split at hx
    · rename_i e; subst e; simp only [Option.some.injEq] at hx; subst hx; exact h.heap k o (.head _)
    · exact h.mem k x hx
  · have : k ≠ b := fun e => hnd.1 (e ▸ mem_keys hx)
    unfold Mem.add
    rw [if_neg this]; exact h2.apart k x hx
  · unfold Mem.add at hk'
    split at hk'
    · rename_i e; subst e; exact h.own k o (.head _)
    · exact h.grow k hk'

/-! ### The judgements -/
section
variable (P : Program) (n : Nat) (K : Ctx)
def At (Q : Exit → Act → World → Prop) (e : Exit) (env : Env) (m : Mem) (H : Hp) : Prop := ∀ a w, Fr n env a → St K m H w → Q e a w
def W (c : Code) (Q : Exit → Act → World → Prop) (env : Env) (m : Mem) (H : Hp) : Prop := ∀ a w, Fr n env a → St K m H w → c.wp P Q a w
def WL (ops : Array Oper) (Q : Exit → Act → World → Prop) (rest : List Oper) (env : Env) (m : Mem) (H : Hp) : Prop := ∀ a w, Fr n env a → St K m H w → wpList P ops Q rest a w
end

def RetP (R : Value → World → Prop) : Ending → World → Prop
  | .returned v, w => R v w
  | .outgrown, _ => False
  | .panicked _, _ => False

def Does (P : Program) (f : FuncId) (args : Array Value) (m : Mem) (H : Hp) (R : Value → Mem → Hp → Prop) : Prop :=
  ∀ w, Fits m w → Has H w → (keys H).Nodup → (∀ b o, (b, o) ∈ H → m b = none) → Calls P f args w (RetP fun v w' => ∃ m' H', St ⟨w, m, keys H⟩ m' H' w' ∧ R v m' H')

theorem Does.mono {P : Program} {f : FuncId} {args : Array Value} {m : Mem} {H : Hp} {R R' : Value → Mem → Hp → Prop} (h : Does P f args m H R) (hr : ∀ v m' H', m.le m' → R v m' H' → R' v m' H') : Does P f args m H R' :=
  fun w h1 h2 h3 h4 => Calls.mono (h w h1 h2 h3 h4) fun e w' he => by
    cases e with
    | returned v => obtain ⟨m', H', hs, hR⟩ := he; exact ⟨m', H', hs, hr _ _ _ hs.le hR⟩
    | panicked c => exact he
    | outgrown => exact he

def argsEnv : Nat → List Value → Env
  | _, [] => []
  | i, v :: vs => (i, v) :: argsEnv (i + 1) vs

theorem lk_argsEnv : ∀ (vs : List Value) (k i : Nat) (v : Value), lk (argsEnv k vs) i = some v → k ≤ i ∧ vs[i - k]? = some v
  | [], k, i, v, h => by simp [argsEnv, lk] at h
  | u :: vs, k, i, v, h => by
    simp only [argsEnv, lk] at h
    split at h
    · rename_i hb
      have : k = i := Nat.eq_of_beq_eq_true hb
      subst this
      simpa using h
    · have := lk_argsEnv vs (k + 1) i v h
      refine ⟨by omega, ?_⟩
      have h2 := this.2
      have h3 : i - k = (i - (k + 1)) + 1 := by omega
      rw [h3]; simpa using h2

def Ends (K : Ctx) (R : Value → Mem → Hp → Prop) : Value → World → Prop := fun v w' => ∃ m' H', St K m' H' w' ∧ R v m' H'

theorem enter {P : Program} {f : FuncId} {fn : Func} {c : Code} {args : List Value} {m : Mem} {H : Hp} {R : Value → Mem → Hp → Prop} (hf : P.funcs[f]? = some fn) (hb : fn.body = some c)
    (hn : Nat.ble args.length fn.ntmps = true) (h : ∀ K : Ctx, K.m0 = m → K.ks = keys H → W P fn.ntmps K c (bodyPost P fn (RetP (Ends K R))) (argsEnv 0 args) m H) : Does P f args.toArray m H R := by
  intro w h1 h2 h3 h4
  have hn' : args.length ≤ fn.ntmps := Nat.le_of_ble_eq_true hn
  refine calls_of_wp hf hb (h ⟨w, m, keys H⟩ rfl rfl _ w ⟨by simp; omega, fun i v hi => ?_, rfl⟩ (St.start h1 h2 h3 h4))
  have := lk_argsEnv args 0 i v hi
  have hlt : i < args.length := by
    have := (List.getElem?_eq_some_iff.1 this.2).1
    simpa using this
  have h2 : args[i]? = some v := by simpa using this.2
  simp [hlt, Array.getElem?_append] at h2 ⊢
  exact h2

section
variable {P : Program} {n : Nat} {K : Ctx} {Q : Exit → Act → World → Prop} {env : Env} {m : Mem} {H : Hp}

/-! ### Where a piece of code ends -/
theorem at_seq {y : Code} (h : W P n K y Q env m H) : At n K (Exit.then (fun a w => y.wp P Q a w) Q) .normal env m H := h
theorem at_then_exit {k : Act → World → Prop} {id : Nat} (h : At n K Q (.exit id) env m H) : At n K (Exit.then k Q) (.exit id) env m H := h
theorem at_then_ret {k : Act → World → Prop} (h : At n K Q .ret env m H) : At n K (Exit.then k Q) .ret env m H := h
theorem at_block_normal {id : Nat} (h : At n K Q .normal env m H) : At n K (Exit.inBlock id Q) .normal env m H := h
theorem at_block_ret {id : Nat} (h : At n K Q .ret env m H) : At n K (Exit.inBlock id Q) .ret env m H := h
theorem at_block_hit {id : Nat} (h : At n K Q .normal env m H) : At n K (Exit.inBlock id Q) (.exit id) env m H := by
  intro a w ha hs
  simp only [Exit.inBlock, if_true]
  exact h a w ha hs
theorem at_block_miss {id id' : Nat} (hne : Nat.beq id' id = false) (h : At n K Q (.exit id') env m H) : At n K (Exit.inBlock id Q) (.exit id') env m H := by
  intro a w ha hs
  simp only [Exit.inBlock, if_neg (Nat.ne_of_beq_eq_false hne)]
  exact h a w ha hs

def Again (K : Ctx) (I : Nat → Mem → Hp → Env → Prop) (n r : Nat) : Act → World → Prop := fun a w => ∃ r' m' H' env', r' < r ∧ I r' m' H' env' ∧ Fr n env' a ∧ St K m' H' w
theorem at_again {I : Nat → Mem → Hp → Env → Prop} {r : Nat} (r' : Nat) (env' : Env) (hr : r' < r) (hI : I r' m H env') (hs : Sub env env') : At n K (Exit.then (Again K I n r) Q) .normal env m H :=
  fun _ _ ha hst => ⟨r', m, H, env', hr, hI, ha.sub hs, hst⟩

/-! ### Control -/
theorem w_seq {x y : Code} (h : W P n K x (Exit.then (fun a w => y.wp P Q a w) Q) env m H) : W P n K (.seq x y) Q env m H := fun a w ha hs => wp_seq (h a w ha hs)

def Meets (K : Ctx) (M : Mem → Hp → Env → Prop) (n : Nat) : Act → World → Prop := fun a w => ∃ m' H' env', M m' H' env' ∧ Fr n env' a ∧ St K m' H' w
theorem at_meets {M : Mem → Hp → Env → Prop} (env' : Env) (hM : M m H env') (hs : Sub env env') : At n K (Exit.then (Meets K M n) Q) .normal env m H := fun _ _ ha hst => ⟨m, H, env', hM, ha.sub hs, hst⟩
theorem w_seq_mid {x y : Code} (M : Mem → Hp → Env → Prop) (h : W P n K x (Exit.then (Meets K M n) Q) env m H) (h2 : ∀ m' H' env', M m' H' env' → W P n K y Q env' m' H') : W P n K (.seq x y) Q env m H := by
  intro a w ha hs
  refine wp_seq (Code.wp_mono (fun e a w hq => ?_) (h a w ha hs))
  cases e with
  | normal => obtain ⟨m', H', env', hM, hf, hst⟩ := hq; exact h2 _ _ _ hM _ _ hf hst
  | _ => exact hq

theorem w_skip (h : At n K Q .normal env m H) : W P n K .skip Q env m H := fun a w ha hs => wp_skip (h a w ha hs)
theorem w_label {l : Nat} (h : At n K Q .normal env m H) : W P n K (.label l) Q env m H := fun a w ha hs => wp_label (h a w ha hs)
theorem w_ret (h : At n K Q .ret env m H) : W P n K .ret Q env m H := fun a w ha hs => wp_ret (h a w ha hs)
theorem w_exit {id : Nat} (h : At n K Q (.exit id) env m H) : W P n K (.exit id) Q env m H := fun a w ha hs => wp_exit (h a w ha hs)
theorem w_block {id : Nat} {c : Code} (h : W P n K c (Exit.inBlock id Q) env m H) : W P n K (.block id c) Q env m H := fun a w ha hs => wp_block (h a w ha hs)
theorem w_perm {c : Code} {H' : Hp} (hp : H.Perm H') (h : W P n K c Q env m H') : W P n K c Q env m H := fun a w ha hs => h a w ha (hs.perm hp)
theorem w_drop1 {c : Code} {e : Nat × Obj} (h : W P n K c Q env m H) : W P n K c Q env m (e :: H) := fun a w ha hs => h a w ha hs.drop1
theorem w_freeze {c : Code} {b : Nat} {o : Obj} (h : m.le (m.add b o) → W P n K c Q env (m.add b o) H) : W P n K c Q env m ((b, o) :: H) :=
  fun a w ha hs => h (Mem.le_add o (hs.apart b o (.head _))) a w ha hs.freeze

theorem w_cond {c : Operand} {x y : Code} {b : Bool} (hc : ev env c = some (.bool b)) (ht : b = true → W P n K x Q env m H) (hf : b = false → W P n K y Q env m H) : W P n K (.cond c x y) Q env m H :=
  fun a w ha hs => wp_cond_split (ha.ev hc) (fun h => ht h a w ha hs) (fun h => hf h a w ha hs)
theorem w_if {c : Operand} {x y : Code} {p : Prop} [Decidable p] (hc : ev env c = some (.bool (decide p))) (ht : p → W P n K x Q env m H) (hf : ¬ p → W P n K y Q env m H) : W P n K (.cond c x y) Q env m H :=
  w_cond hc (fun h => ht (of_decide_eq_true h)) (fun h => hf (of_decide_eq_false h))
theorem w_true {c : Operand} {x y : Code} (hc : ev env c = some (.bool true)) (h : W P n K x Q env m H) : W P n K (.cond c x y) Q env m H := w_cond hc (fun _ => h) (fun h => absurd h (by simp))
theorem w_false {c : Operand} {x y : Code} (hc : ev env c = some (.bool false)) (h : W P n K y Q env m H) : W P n K (.cond c x y) Q env m H := w_cond hc (fun h => absurd h (by simp)) (fun _ => h)

theorem w_loop {c : Code} (I : Nat → Mem → Hp → Env → Prop) (r0 : Nat) (env0 : Env) (h0 : I r0 m H env0) (hs : Sub env env0)
    (round : ∀ r m' H' env', I r m' H' env' → W P n K c (Exit.then (Again K I n r) Q) env' m' H') : W P n K (.loop c) Q env m H := by
  intro a w ha hst
  intro b k cs
  have key : ∀ r a w m' H' env', I r m' H' env' → Fr n env' a → St K m' H' w → ∃ e a' w', Q e a' w' ∧ Arrives P (lone (b.at a (.code c :: .inLoop c :: k)) cs w) b k cs e a' w' := by
    intro r
    induction r using Nat.strongRecOn with
    | _ r ih =>
      intro a w m' H' env' hI hf hst
      obtain ⟨e, a₁, w₁, hq, harr⟩ := round r m' H' env' hI a w hf hst b (.inLoop c :: k) cs
      cases e with
      | normal =>
        obtain ⟨r', m'', H'', env'', hlt, hI', hf', hst'⟩ := hq
        obtain ⟨e₂, a₂, w₂, hq₂, harr₂⟩ := ih r' hlt a₁ w₁ m'' H'' env'' hI' hf' hst'
        exact ⟨e₂, a₂, w₂, hq₂, .of_steps (Steps.trans harr (.one step_inLoop)) harr₂⟩
      | exit id => exact ⟨_, a₁, w₁, hq, fun k' hk => harr k' (by simpa [exitTo] using hk)⟩
      | goto l => exact ⟨_, a₁, w₁, hq, fun k' hk => harr k' (by simpa [gotoIn] using hk)⟩
      | ret => exact ⟨_, a₁, w₁, hq, harr⟩
      | panic ch => exact ⟨_, a₁, w₁, hq, harr⟩
      | outgrown => exact ⟨_, a₁, w₁, hq, harr⟩
  obtain ⟨e, a', w', hq, harr⟩ := key r0 a w m H env0 h0 (ha.sub hs) hst
  exact ⟨e, a', w', hq, .of_steps (.one step_loop) harr⟩

theorem w_region {id : Nat} {l : List Oper} (h : WL P n K l.toArray Q l env m H) : W P n K (.region id l.toArray false) Q env m H := fun a w ha hs => wp_region_lit (h a w ha hs)

/-! ### The end of a function -/
theorem at_end {fn : Func} {R : Value → Mem → Hp → Prop} {v : Value} (hv : ∀ a w, Fr n env a → St K m H w → (results fn a.tmps).run P w = .ok v w) (hR : R v m H) : At n K (bodyPost P fn (RetP (Ends K R))) .ret env m H :=
  fun a w ha hs => ⟨ha.defers, v, hv a w ha hs, m, H, hs, hR⟩
theorem at_end_normal {fn : Func} {R : Value → Mem → Hp → Prop} {v : Value} (hv : ∀ a w, Fr n env a → St K m H w → (results fn a.tmps).run P w = .ok v w) (hR : R v m H) : At n K (bodyPost P fn (RetP (Ends K R))) .normal env m H :=
  fun a w ha hs => ⟨ha.defers, v, hv a w ha hs, m, H, hs, hR⟩
theorem res0 {fn : Func} (hr : fn.results = #[]) : ∀ a w, Fr n env a → St K m H w → (results fn a.tmps).run P w = .ok (.tuple #[]) w := fun a w _ _ => results_none hr a.tmps P w
theorem res1 {fn : Func} {t : Tmp} {v : Value} (hr : fn.results = #[.tmp t]) (hv : lk env t = some v) : ∀ a w, Fr n env a → St K m H w → (results fn a.tmps).run P w = .ok v w := fun a w ha _ => by
  rw [results_tmp hr]; simp [ha.get t v hv]
theorem res2 {fn : Func} {t u : Tmp} {v v' : Value} (hr : fn.results = #[.tmp t, .tmp u]) (hv : lk env t = some v) (hv' : lk env u = some v') : ∀ a w, Fr n env a → St K m H w → (results fn a.tmps).run P w = .ok (.tuple #[v, v']) w := fun a w ha _ => by
  rw [results_tmp2 hr]; simp [ha.get t v hv, ha.get u v' hv']
theorem res3 {fn : Func} {t u s : Tmp} {v v' v'' : Value} (hr : fn.results = #[.tmp t, .tmp u, .tmp s]) (hv : lk env t = some v) (hv' : lk env u = some v') (hv'' : lk env s = some v'') : ∀ a w, Fr n env a → St K m H w → (results fn a.tmps).run P w = .ok (.tuple #[v, v', v'']) w := fun a w ha _ => by
  simp [results, hr, ha.get t v hv, ha.get u v' hv', ha.get s v'' hv'']

/-! ### Operations -/
def gd (ops : Array Oper) (env : Env) : Option (Nat × Bool) → Option Bool
  | none => some true
  | some (j, want) => match (ops[j]?).bind (·.dst) with
    | some t => match lk env t with
      | some (.bool b) => some (b == want)
      | some (.tuple _) => some false
      | _ => none
    | none => none

variable {ops : Array Oper} {rest : List Oper}

theorem Fr.wanted {a : Act} (ha : Fr n env a) {o : Oper} {b : Bool} (hg : gd ops env o.guard = some b) : Region.wanted o (yielded ops a.tmps) = b := by
  unfold Region.wanted
  cases hgd : o.guard with
  | none => rw [hgd] at hg; simpa [gd] using hg
  | some jw =>
    obtain ⟨j, want⟩ := jw
    rw [hgd] at hg
    simp only [gd] at hg
    split at hg
    · rename_i t ht
      split at hg
      · rename_i b' hb'
        have := ha.get t _ hb'
        simp [yielded, ht, this]
        cases b' <;> cases want <;> simp_all
      · rename_i cs hb'
        have := ha.get t _ hb'
        simp only [Option.some.injEq] at hg
        subst hg
        simp [yielded, ht, this]
      · simp at hg
    · simp at hg

theorem wl_off {o : Oper} {d : Nat} (hg : gd ops env o.guard = some false) (ho : o.dst = some d) (hd : Nat.blt d n = true) (h : WL P n K ops Q rest ((d, undef) :: env) m H) : WL P n K ops Q (o :: rest) env m H := by
  intro a w ha hs
  unfold wpList
  rw [if_neg (by rw [ha.wanted hg]; simp), ho]
  exact h _ w (ha.put undef hd) hs
theorem wl_nil (h : At n K Q .normal env m H) : WL P n K ops Q [] env m H := fun a w ha hs => h a w ha hs
theorem wl_perm {H' : Hp} (hp : H.Perm H') (h : WL P n K ops Q rest env m H') : WL P n K ops Q rest env m H := fun a w ha hs => h a w ha (hs.perm hp)
theorem wl_drop1 {e : Nat × Obj} (h : WL P n K ops Q rest env m H) : WL P n K ops Q rest env m (e :: H) := fun a w ha hs => h a w ha hs.drop1
theorem wl_freeze {b : Nat} {o : Obj} (h : m.le (m.add b o) → WL P n K ops Q rest env (m.add b o) H) : WL P n K ops Q rest env m ((b, o) :: H) :=
  fun a w ha hs => h (Mem.le_add o (hs.apart b o (.head _))) a w ha hs.freeze

def Ex (P : Program) (n : Nat) (o : Oper) (env : Env) (m : Mem) (H : Hp) (v : Value) : Prop := ∀ a w, Fr n env a → Fits m w → Has H w → (execOp a.eval o).run P w = .ok (.value v) w

theorem wl_val {o : Oper} {d : Nat} {v : Value} (hg : gd ops env o.guard = some true) (ho : o.dst = some d) (hd : Nat.blt d n = true) (hx : Ex P n o env m H v)
    (h : WL P n K ops Q rest ((d, v) :: env) m H) : WL P n K ops Q (o :: rest) env m H := by
  intro a w ha hs
  unfold wpList
  rw [if_pos (ha.wanted hg)]
  refine .inl ?_
  unfold Oper.wp
  rw [hx a w ha hs.mem hs.heap, Oper.upon_value, ho]
  exact h _ w (ha.put v hd) hs

theorem wl_split {t : Nat} {b : Bool} (hb : lk env t = some (.bool b)) (ht : b = true → WL P n K ops Q rest ((t, .bool true) :: env) m H) (hf : b = false → WL P n K ops Q rest ((t, .bool false) :: env) m H) : WL P n K ops Q rest env m H := by
  have key : ∀ c, b = c → WL P n K ops Q rest ((t, .bool c) :: env) m H → WL P n K ops Q rest env m H :=
    fun c hc h a w ha hs => h a w (ha.know (hc ▸ hb)) hs
  cases b
  · exact key false rfl (hf rfl)
  · exact key true rfl (ht rfl)
theorem wl_splitp {t : Nat} {p : Prop} [Decidable p] (hb : lk env t = some (.bool (decide p))) (ht : p → WL P n K ops Q rest ((t, .bool true) :: env) m H) (hf : ¬ p → WL P n K ops Q rest ((t, .bool false) :: env) m H) : WL P n K ops Q rest env m H :=
  wl_split hb (fun h => ht (of_decide_eq_true h)) (fun h => hf (of_decide_eq_false h))

/-! ### Calls -/
def Callable (P : Program) (f : FuncId) : Prop := ∀ args w, (callFunc f args).run P w = .ok (.enter f args) w
theorem callable {f : FuncId} {fn : Func} {c : Code} (hf : P.funcs[f]? = some fn) (hb : fn.body = some c) (hn : (fn.name == "runtime.NumGoroutine") = false) : Callable P f := by
  intro args w
  unfold callFunc
  have hn' : ¬ fn.name = "runtime.NumGoroutine" := fun e => by rw [e] at hn; simp at hn
  simp [hf, hb, hn']

theorem wp_enter {o : Oper} {a : Act} {w : World} {K' : Act → World → Prop} {f : FuncId} {vs : Array Value} {R : Value → World → Prop} (hx : (execOp a.eval o).run P w = .ok (.enter f vs) w)
    (hc : Calls P f vs w (RetP R)) (h : ∀ v w', R v w' → K' (a.put o.dst v) w') : o.wp P a w K' Q := by
  unfold Oper.wp
  rw [hx, Oper.upon_enter]
  refine Calls.mono hc fun e w' he => ?_
  cases e with
  | returned v => exact h v w' he
  | panicked c => exact he.elim
  | outgrown => exact he.elim

theorem wl_call {f : FuncId} {args : List Operand} {tys : Array TypeId} {vs : List Value} {d : Nat} {ty : TypeId} {pos : String} {aft : Array Edge} {g : Option (Nat × Bool)} {Hc Hr : Hp} {R : Value → Mem → Hp → Prop}
    (hg : gd ops env g = some true) (hd : Nat.blt d n = true) (ha : evs env args = some vs) (hc : Callable P f) (hH : H = Hc ++ Hr) (hf : Does P f vs.toArray m Hc R)
    (h : ∀ v m' H', m.le m' → R v m' H' → WL P n K ops Q rest ((d, v) :: env) m' (H' ++ Hr)) : WL P n K ops Q (⟨some d, .call ⟨.value (.func f), args.toArray, tys⟩, ty, pos, aft, g⟩ :: rest) env m H := by
  subst hH
  intro a w hfr hs
  unfold wpList
  rw [if_pos (hfr.wanted hg)]
  refine .inl ?_
  have hx : (execOp a.eval ⟨some d, .call ⟨.value (.func f), args.toArray, tys⟩, ty, pos, aft, g⟩).run P w = .ok (.enter f vs.toArray) w := by
    simp [execOp, resolve, Deferred.ofValue, Act.eval, invoke, hfr.evs ha, hc vs.toArray w]
  have hnd := hs.nodup
  unfold keys at hnd
  rw [List.map_append, List.nodup_append] at hnd
  refine wp_enter hx (hf w hs.mem (fun b o hb => hs.heap b o (List.mem_append_left _ hb)) hnd.1 (fun b o hb => hs.apart b o (List.mem_append_left _ hb))) fun v w' hv => ?_
  obtain ⟨m', H', hst, hR⟩ := hv
  exact h v m' H' hst.le hR _ w' (hfr.put v hd) (hs.call hst)

theorem wl_callv {f : FuncId} {t : Nat} {fst cap : List Value} {args : List Operand} {tys : Array TypeId} {vs : List Value} {d : Nat} {ty : TypeId} {pos : String} {aft : Array Edge} {g : Option (Nat × Bool)} {Hc Hr : Hp} {R : Value → Mem → Hp → Prop}
    (hg : gd ops env g = some true) (hd : Nat.blt d n = true) (ht : lk env t = some (.func (.func f) fst.toArray cap.toArray)) (ha : evs env args = some vs) (hc : Callable P f) (hH : H = Hc ++ Hr) (hf : Does P f (fst ++ vs ++ cap).toArray m Hc R)
    (h : ∀ v m' H', m.le m' → R v m' H' → WL P n K ops Q rest ((d, v) :: env) m' (H' ++ Hr)) : WL P n K ops Q (⟨some d, .call ⟨.value (.tmp t), args.toArray, tys⟩, ty, pos, aft, g⟩ :: rest) env m H := by
  subst hH
  intro a w hfr hs
  unfold wpList
  rw [if_pos (hfr.wanted hg)]
  refine .inl ?_
  have hx : (execOp a.eval ⟨some d, .call ⟨.value (.tmp t), args.toArray, tys⟩, ty, pos, aft, g⟩).run P w = .ok (.enter f (fst ++ vs ++ cap).toArray) w := by
    have h1 : a.eval (.tmp t) = .func (.func f) fst.toArray cap.toArray := hfr.ev (x := .tmp t) ht
    simp only [execOp, resolve, h1, Deferred.ofValue, invoke, Sem.run_bind, Sem.run_pure, Result.andThen_ok, List.map_toArray, hfr.evs ha]
    rw [show fst.toArray ++ vs.toArray ++ cap.toArray = (fst ++ vs ++ cap).toArray by simp]
    exact hc _ w
  have hnd := hs.nodup
  unfold keys at hnd
  rw [List.map_append, List.nodup_append] at hnd
  refine wp_enter hx (hf w hs.mem (fun b o hb => hs.heap b o (List.mem_append_left _ hb)) hnd.1 (fun b o hb => hs.apart b o (List.mem_append_left _ hb))) fun v w' hv => ?_
  obtain ⟨m', H', hst, hR⟩ := hv
  exact h v m' H' hst.le hR _ w' (hfr.put v hd) (hs.call hst)
end

/-! ### What each operation gives -/
section
variable {P : Program} {n : Nat} {K : Ctx} {env : Env} {m : Mem} {H : Hp}
variable {d : Option Nat} {ty : TypeId} {pos : String} {aft : Array Edge} {g : Option (Nat × Bool)} {x y z : Operand} {u v : Value}

theorem x_move (hx : ev env x = some v) : Ex P n ⟨d, .move x, ty, pos, aft, g⟩ env m H v := fun a w ha _ _ => by simp [execOp, ha.ev hx]
theorem x_assign (hx : ev env x = some v) : Ex P n ⟨d, .assign x, ty, pos, aft, g⟩ env m H v := fun a w ha _ _ => by simp [execOp, ha.ev hx]
theorem x_pick_t (hx : ev env x = some (.bool true)) (hy : ev env y = some v) : Ex P n ⟨d, .pick x y z, ty, pos, aft, g⟩ env m H v := fun a w ha _ _ => by simp [execOp, ha.ev hx, ha.ev hy, asBool]
theorem x_pick_f (hx : ev env x = some (.bool false)) (hz : ev env z = some v) : Ex P n ⟨d, .pick x y z, ty, pos, aft, g⟩ env m H v := fun a w ha _ _ => by simp [execOp, ha.ev hx, ha.ev hz, asBool]
theorem x_nilCheck {ad : Addr} (hx : ev env x = some (.pointer (some ad))) : Ex P n ⟨d, .nilCheck x, ty, pos, aft, g⟩ env m H (.pointer (some ad)) := fun a w ha _ _ => by simp [execOp, ha.ev hx]
theorem x_makeFunc {fn : Fn} {first captured : List Operand} {vs us : List Value} (h1 : evs env first = some vs) (h2 : evs env captured = some us) : Ex P n ⟨d, .makeFunc fn first.toArray captured.toArray, ty, pos, aft, g⟩ env m H (.func fn vs.toArray us.toArray) := fun a w ha _ _ => by simp [execOp, Instr.makeFunc, ha.evs h1, ha.evs h2]
theorem x_extract {vs : List Value} {i : Nat} (hx : ev env x = some (.tuple vs.toArray)) (hi : vs[i]? = some v) : Ex P n ⟨d, .extract x i, ty, pos, aft, g⟩ env m H v := fun a w ha _ _ => by simp [execOp, ha.ev hx, Instr.extract, hi]

/-! Integers -/
theorem wrap_i64 {r : Int} (h1 : -9223372036854775808 ≤ r) (h2 : r ≤ 9223372036854775807) : IntKind.i64.wrap r = r := by rw [IntKind.wrap_i64]; omega
theorem wrap_u32 (r : Int) : IntKind.u32.wrap r = r % 4294967296 := by simp [IntKind.wrap, IntKind.bits, IntKind.signed]
theorem wrap_u64 (r : Int) : IntKind.u64.wrap r = r % 18446744073709551616 := by simp [IntKind.wrap, IntKind.bits, IntKind.signed]
theorem wrap_u8 (r : Int) : IntKind.u8.wrap r = r % 256 := by simp [IntKind.wrap, IntKind.bits, IntKind.signed]
theorem wrap_u32_in {r : Int} (h1 : 0 ≤ r) (h2 : r ≤ 4294967295) : IntKind.u32.wrap r = r := by rw [wrap_u32]; omega
theorem wrap_u64_in {r : Int} (h1 : 0 ≤ r) (h2 : r ≤ 18446744073709551615) : IntKind.u64.wrap r = r := by rw [wrap_u64]; omega
theorem wrap_u8_in {r : Int} (h1 : 0 ≤ r) (h2 : r ≤ 255) : IntKind.u8.wrap r = r := by rw [wrap_u8]; omega

section
variable {T T' : TypeId} {k : IntKind} {p q r : Int}
theorem x_add (hx : ev env x = some (.int k p)) (hy : ev env y = some (.int k q)) (e : k.wrap (p + q) = r) : Ex P n ⟨d, .binOp .add T x y T', ty, pos, aft, g⟩ env m H (.int k r) := fun a w ha _ _ => by
  subst e; simp [execOp, ha.ev hx, ha.ev hy, eqGuard, binOp, Op.intArith]
theorem x_sub (hx : ev env x = some (.int k p)) (hy : ev env y = some (.int k q)) (e : k.wrap (p - q) = r) : Ex P n ⟨d, .binOp .sub T x y T', ty, pos, aft, g⟩ env m H (.int k r) := fun a w ha _ _ => by
  subst e; simp [execOp, ha.ev hx, ha.ev hy, eqGuard, binOp, Op.intArith]
theorem x_mul (hx : ev env x = some (.int k p)) (hy : ev env y = some (.int k q)) (e : k.wrap (p * q) = r) : Ex P n ⟨d, .binOp .mul T x y T', ty, pos, aft, g⟩ env m H (.int k r) := fun a w ha _ _ => by
  subst e; simp [execOp, ha.ev hx, ha.ev hy, eqGuard, binOp, Op.intArith]
theorem x_quo (hx : ev env x = some (.int k p)) (hy : ev env y = some (.int k q)) (h0 : q ≠ 0) (e : k.wrap (p.tdiv q) = r) : Ex P n ⟨d, .binOp .quo T x y T', ty, pos, aft, g⟩ env m H (.int k r) := fun a w ha _ _ => by
  subst e; simp [execOp, ha.ev hx, ha.ev hy, eqGuard, binOp, Op.intDiv, h0]
theorem x_rem (hx : ev env x = some (.int k p)) (hy : ev env y = some (.int k q)) (h0 : q ≠ 0) (e : p.tmod q = r) : Ex P n ⟨d, .binOp .rem T x y T', ty, pos, aft, g⟩ env m H (.int k r) := fun a w ha _ _ => by
  subst e; simp [execOp, ha.ev hx, ha.ev hy, eqGuard, binOp, Op.intDiv, h0]
theorem x_and (hx : ev env x = some (.int k p)) (hy : ev env y = some (.int k q)) (e : k.wrap ((BitVec.ofInt k.bits p &&& BitVec.ofInt k.bits q).toNat : Int) = r) : Ex P n ⟨d, .binOp .and T x y T', ty, pos, aft, g⟩ env m H (.int k r) := fun a w ha _ _ => by
  subst e; simp [execOp, ha.ev hx, ha.ev hy, eqGuard, binOp, Op.intBits]
theorem x_or (hx : ev env x = some (.int k p)) (hy : ev env y = some (.int k q)) (e : k.wrap ((BitVec.ofInt k.bits p ||| BitVec.ofInt k.bits q).toNat : Int) = r) : Ex P n ⟨d, .binOp .or T x y T', ty, pos, aft, g⟩ env m H (.int k r) := fun a w ha _ _ => by
  subst e; simp [execOp, ha.ev hx, ha.ev hy, eqGuard, binOp, Op.intBits]
theorem x_xor (hx : ev env x = some (.int k p)) (hy : ev env y = some (.int k q)) (e : k.wrap ((BitVec.ofInt k.bits p ^^^ BitVec.ofInt k.bits q).toNat : Int) = r) : Ex P n ⟨d, .binOp .xor T x y T', ty, pos, aft, g⟩ env m H (.int k r) := fun a w ha _ _ => by
  subst e; simp [execOp, ha.ev hx, ha.ev hy, eqGuard, binOp, Op.intBits]
theorem x_shl {k' : IntKind} (hx : ev env x = some (.int k p)) (hy : ev env y = some (.int k' q)) (h0 : 0 ≤ q) (e : k.wrap (p * 2 ^ (min q.toNat k.bits)) = r) : Ex P n ⟨d, .binOp .shl T x y T', ty, pos, aft, g⟩ env m H (.int k r) := fun a w ha _ _ => by
  subst e; have h1 : ¬ q < 0 := by omega
  simp [execOp, ha.ev hx, ha.ev hy, eqGuard, binOp, Op.shift, h1]
theorem x_shr {k' : IntKind} (hx : ev env x = some (.int k p)) (hy : ev env y = some (.int k' q)) (h0 : 0 ≤ q) (e : p.fdiv (2 ^ (min q.toNat k.bits)) = r) : Ex P n ⟨d, .binOp .shr T x y T', ty, pos, aft, g⟩ env m H (.int k r) := fun a w ha _ _ => by
  subst e; have h1 : ¬ q < 0 := by omega
  simp [execOp, ha.ev hx, ha.ev hy, eqGuard, binOp, Op.shift, h1]
theorem x_neg (hx : ev env x = some (.int k p)) (e : k.wrap (0 - p) = r) : Ex P n ⟨d, .unOp .neg T x, ty, pos, aft, g⟩ env m H (.int k r) := fun a w ha _ _ => by
  subst e; simp [execOp, ha.ev hx, Op.unary, Op.intArith]
theorem x_not {b c : Bool} (hx : ev env x = some (.bool b)) (e : (!b) = c) : Ex P n ⟨d, .unOp .not T x, ty, pos, aft, g⟩ env m H (.bool c) := fun a w ha _ _ => by
  subst e; simp [execOp, ha.ev hx, Op.unary]
theorem x_lss (hx : ev env x = some (.int k p)) (hy : ev env y = some (.int k q)) : Ex P n ⟨d, .binOp .lss T x y T', ty, pos, aft, g⟩ env m H (.bool (decide (p < q))) := fun a w ha _ _ => by
  simp [execOp, ha.ev hx, ha.ev hy, eqGuard, binOp, Op.intCmp]
theorem x_leq (hx : ev env x = some (.int k p)) (hy : ev env y = some (.int k q)) : Ex P n ⟨d, .binOp .leq T x y T', ty, pos, aft, g⟩ env m H (.bool (decide (p ≤ q))) := fun a w ha _ _ => by
  simp [execOp, ha.ev hx, ha.ev hy, eqGuard, binOp, Op.intCmp]
theorem x_gtr (hx : ev env x = some (.int k p)) (hy : ev env y = some (.int k q)) : Ex P n ⟨d, .binOp .gtr T x y T', ty, pos, aft, g⟩ env m H (.bool (decide (q < p))) := fun a w ha _ _ => by
  simp [execOp, ha.ev hx, ha.ev hy, eqGuard, binOp, Op.intCmp]
theorem x_geq (hx : ev env x = some (.int k p)) (hy : ev env y = some (.int k q)) : Ex P n ⟨d, .binOp .geq T x y T', ty, pos, aft, g⟩ env m H (.bool (decide (q ≤ p))) := fun a w ha _ _ => by
  simp [execOp, ha.ev hx, ha.ev hy, eqGuard, binOp, Op.intCmp]
theorem x_eql (hx : ev env x = some (.int k p)) (hy : ev env y = some (.int k q)) : Ex P n ⟨d, .binOp .eql T x y T', ty, pos, aft, g⟩ env m H (.bool (decide (p = q))) := fun a w ha _ _ => by
  simp [execOp, ha.ev hx, ha.ev hy, eqGuard, binOp, Op.intCmp]
  rfl
theorem x_neq (hx : ev env x = some (.int k p)) (hy : ev env y = some (.int k q)) : Ex P n ⟨d, .binOp .neq T x y T', ty, pos, aft, g⟩ env m H (.bool (decide (p ≠ q))) := fun a w ha _ _ => by
  simp [execOp, ha.ev hx, ha.ev hy, eqGuard, binOp, Op.intCmp]
  by_cases h : p = q <;> simp [h]
theorem x_conv {k' : IntKind} {t : TypeId} {D : TypeDesc} (ht : P.underlying T = some D) (ht' : P.underlying t = some (.int k')) (hx : ev env x = some (.int k p)) (e : k'.wrap p = r) : Ex P n ⟨d, .convert T t x, ty, pos, aft, g⟩ env m H (.int k' r) := fun a w ha _ _ => by
  subst e; simp [execOp, ha.ev hx, convert, underlying, ht, ht', Conv.intToInt]
end

/-! Addresses and cells -/
def sizeIs (P : Program) (T : TypeId) (s : Nat) : Prop := (P.info? T).map (·.size) = some s
theorem run_sizeOf {T : TypeId} {s : Nat} (h : sizeIs P T s) (w : World) : (sizeOf T).run P w = .ok s w := by
  unfold sizeIs at h
  cases hq : P.info? T with
  | none => simp [hq] at h
  | some i => simp [hq] at h; simp [sizeOf, typeInfo, hq, h]

theorem add_none (b o k : Nat) : (⟨b, o, none⟩ : Addr).add k = ⟨b, o + k, none⟩ := by
  unfold Addr.add; split <;> simp_all

def At? (arr : Array Value) (o : Nat) (vs : List Value) : Prop := ∀ i, i < vs.length → arr[o + i]? = vs[i]?
def Row (m : Mem) (H : Hp) (b o : Nat) (vs : List Value) : Prop := ∃ arr T fr, (m b = some (.cells arr T fr) ∨ (b, .cells arr T fr) ∈ H) ∧ At? arr o vs

theorem Row.cell {b o : Nat} {vs : List Value} {w : World} (h : Row m H b o vs) (hf : Fits m w) (hh : Has H w) {i : Nat} {v : Value} (hv : vs[i]? = some v) : w.cell? ⟨b, o + i, none⟩ = some v := by
  obtain ⟨arr, T, fr, hb, ha⟩ := h
  have hi : i < vs.length := (List.getElem?_eq_some_iff.1 hv).1
  have : w.heap[b]? = some (.cells arr T fr) := hb.elim (hf b _) (hh b _)
  simp only [World.cell?, this]
  simp [ha i hi, hv]
theorem Row.sub {b o o' : Nat} {vs us : List Value} (h : Row m H b o vs) (i : Nat) (ho : o' = o + i) (hu : ∀ j, j < us.length → vs[i + j]? = us[j]?) : Row m H b o' us := by
  obtain ⟨arr, T, fr, hb, ha⟩ := h
  refine ⟨arr, T, fr, hb, fun j hj => ?_⟩
  have h1 := hu j hj
  have h2 : us[j]? = some us[j] := List.getElem?_eq_getElem hj
  have h3 : i + j < vs.length := by
    rw [h2] at h1
    exact (List.getElem?_eq_some_iff.1 h1).1
  rw [← h1, ← ha (i + j) h3, ho, Nat.add_assoc]

theorem x_index {T E : TypeId} {s b o len cap j : Nat} {k : IntKind} {p : Int} (ht : P.underlying T = some (.slice E)) (hs : sizeIs P E s) (hx : ev env x = some (.slice (some ⟨b, o, none⟩) len cap)) (hy : ev env y = some (.int k p)) (hp : p = (j : Int)) (hj : j < len) :
    Ex P n ⟨d, .indexAddr T x y, ty, pos, aft, g⟩ env m H (.pointer (some ⟨b, o + j * s, none⟩)) := fun a w ha _ _ => by
  subst hp
  have h1 : (0 : Int) ≤ j ∧ (j : Int) < len := by omega
  simp [execOp, ha.ev hx, ha.ev hy, Instr.indexAt, asIntOf, underlying, ht, run_sizeOf hs, h1, add_none, hj]
theorem x_indexA {T E : TypeId} {s b o N j : Nat} {k : IntKind} {p : Int} (ht : P.underlying T = some (.array N E)) (hs : sizeIs P E s) (hx : ev env x = some (.pointer (some ⟨b, o, none⟩))) (hy : ev env y = some (.int k p)) (hp : p = (j : Int)) (hj : j < N) :
    Ex P n ⟨d, .indexAddr T x y, ty, pos, aft, g⟩ env m H (.pointer (some ⟨b, o + j * s, none⟩)) := fun a w ha _ _ => by
  subst hp
  have h1 : (0 : Int) ≤ j ∧ (j : Int) < N := by omega
  simp [execOp, ha.ev hx, ha.ev hy, Instr.indexAt, Instr.sureAddr, asIntOf, underlying, ht, run_sizeOf hs, h1, add_none, hj]
theorem x_fieldAddr {T : TypeId} {fs : Array Field} {f : Field} {b o i s : Nat} (ht : P.underlying T = some (.struct fs)) (hf : fs[i]? = some f) (hs : sizeIs P f.type (s + 1)) (hx : ev env x = some (.pointer (some ⟨b, o, none⟩))) :
    Ex P n ⟨d, .fieldAddr T x i, ty, pos, aft, g⟩ env m H (.pointer (some ⟨b, o + f.offset, none⟩)) := fun a w ha _ _ => by
  simp [execOp, ha.ev hx, Instr.fieldAt, Instr.sureAddr, underlying, ht, hf, fieldPlace, run_sizeOf hs, add_none]

def plainT (P : Program) (T : TypeId) : Prop := ∃ D, P.underlying T = some D ∧ (match D with | .struct _ | .array _ _ => false | _ => true) = true
theorem run_isAgg_plain {T : TypeId} (h : plainT P T) (w : World) : (isAgg T).run P w = .ok false w := by
  obtain ⟨D, hD, hc⟩ := h
  unfold isAgg
  rw [Sem.run_bind, run_underlying hD w]
  cases D <;> simp_all
def aggT (P : Program) (T : TypeId) : Prop := ∃ D, P.underlying T = some D ∧ (match D with | .struct _ | .array _ _ => true | _ => false) = true
theorem run_isAgg_agg {T : TypeId} (h : aggT P T) (w : World) : (isAgg T).run P w = .ok true w := by
  obtain ⟨D, hD, hc⟩ := h
  unfold isAgg
  rw [Sem.run_bind, run_underlying hD w]
  cases D <;> simp_all

theorem x_load {T : TypeId} {b o : Nat} (ht : plainT P T) (hx : ev env x = some (.pointer (some ⟨b, o, none⟩))) (hr : Row m H b o [v]) : Ex P n ⟨d, .load T x, ty, pos, aft, g⟩ env m H v := fun a w ha hf hh => by
  have hc : w.cell? ⟨b, o, none⟩ = some v := hr.cell hf hh (i := 0) (v := v) rfl
  simp [execOp, ha.ev hx, Instr.loadAt, Instr.sureAddr, loadVar, run_isAgg_plain ht, hc]
theorem x_loads {T : TypeId} {b o : Nat} {vs : List Value} (ht : aggT P T) (hs : sizeIs P T vs.length) (hx : ev env x = some (.pointer (some ⟨b, o, none⟩))) (hr : Row m H b o vs) : Ex P n ⟨d, .load T x, ty, pos, aft, g⟩ env m H (.agg vs.toArray) := fun a w ha hf hh => by
  have hc : (loadCells ⟨b, o, none⟩ vs.length).run P w = .ok vs.toArray w := run_loadCells_list (P := P) w ⟨b, o, none⟩ vs (fun j v hv => by rw [add_none]; exact hr.cell hf hh hv)
  simp [execOp, ha.ev hx, Instr.loadAt, Instr.sureAddr, loadVar, run_isAgg_agg ht, run_sizeOf hs, hc]

/-! Slices and strings -/
theorem x_len {T E : TypeId} {a0 : Option Addr} {len cap : Nat} {tys : Array TypeId} (ht : P.underlying T = some (.slice E)) (hT : tys = #[T]) (hx : ev env x = some (.slice a0 len cap)) : Ex P n ⟨d, .call ⟨.builtin .len, [x].toArray, tys⟩, ty, pos, aft, g⟩ env m H (.int .i64 len) := fun a w ha _ _ => by
  subst hT; simp [execOp, resolve, invoke, builtin, ha.ev hx, Builtin.len_, underlying, ht, goInt]
theorem x_lenS {T : TypeId} {s : ByteArray} {tys : Array TypeId} (ht : P.underlying T = some .string) (hT : tys = #[T]) (hx : ev env x = some (.string s)) : Ex P n ⟨d, .call ⟨.builtin .len, [x].toArray, tys⟩, ty, pos, aft, g⟩ env m H (.int .i64 s.size) := fun a w ha _ _ => by
  subst hT; simp [execOp, resolve, invoke, builtin, ha.ev hx, Builtin.len_, underlying, ht, goInt]
theorem x_max {k : IntKind} {p q : Int} {tys : Array TypeId} (hx : ev env x = some (.int k p)) (hy : ev env y = some (.int k q)) : Ex P n ⟨d, .call ⟨.builtin .max, [x, y].toArray, tys⟩, ty, pos, aft, g⟩ env m H (.int k (if q > p then q else p)) := fun a w ha _ _ => by
  simp [execOp, resolve, invoke, builtin, ha.ev hx, ha.ev hy, Builtin.max_, Builtin.max2]
theorem x_min {k : IntKind} {p q : Int} {tys : Array TypeId} (hx : ev env x = some (.int k p)) (hy : ev env y = some (.int k q)) : Ex P n ⟨d, .call ⟨.builtin .min, [x, y].toArray, tys⟩, ty, pos, aft, g⟩ env m H (.int k (if q < p then q else p)) := fun a w ha _ _ => by
  simp [execOp, resolve, invoke, builtin, ha.ev hx, ha.ev hy, Builtin.min_, Builtin.min2]

def offTo (a0 : Option Addr) (l s cap : Nat) : Option Addr := if cap = l then a0 else a0.map (·.add (l * s))
theorem x_slice {T E : TypeId} {s len cap lo hi : Nat} {a0 : Option Addr} {x1 x2 : Option Operand} (ht : P.underlying T = some (.slice E)) (hs : sizeIs P E s) (hx : ev env x = some (.slice a0 len cap))
    (hlo : match x1 with | none => lo = 0 | some y => ∃ k, ev env y = some (.int k lo)) (hhi : match x2 with | none => hi = len | some y => ∃ k, ev env y = some (.int k hi)) (h1 : lo ≤ hi) (h2 : hi ≤ cap) :
    Ex P n ⟨d, .slice T x x1 x2 none, ty, pos, aft, g⟩ env m H (.slice (offTo a0 lo s cap) (hi - lo) (cap - lo)) := fun a w ha _ _ => by
  have e1 : (0 : Int) ≤ hi ∧ (hi : Int) ≤ cap := by omega
  have e2 : (0 : Int) ≤ lo ∧ (lo : Int) ≤ hi := by omega
  cases x1 <;> cases x2 <;> simp only [] at hlo hhi
  · subst hlo; subst hhi
    simp [execOp, ha.ev hx, Instr.sliceAt, Instr.slice, Instr.sliceBounds, underlying, ht, run_sizeOf hs, offTo]
  · subst hlo
    obtain ⟨k, hk⟩ := hhi
    simp [execOp, ha.ev hx, ha.ev hk, Instr.sliceAt, Instr.slice, Instr.sliceBounds, Instr.sliceBound, asIntOf, underlying, ht, run_sizeOf hs, offTo, h2]
  · subst hhi
    obtain ⟨k, hk⟩ := hlo
    simp [execOp, ha.ev hx, ha.ev hk, Instr.sliceAt, Instr.slice, Instr.sliceBounds, Instr.sliceBound, asIntOf, underlying, ht, run_sizeOf hs, offTo, h1]
  · obtain ⟨k, hk⟩ := hlo
    obtain ⟨k', hk'⟩ := hhi
    simp [execOp, ha.ev hx, ha.ev hk, ha.ev hk', Instr.sliceAt, Instr.slice, Instr.sliceBounds, Instr.sliceBound, asIntOf, underlying, ht, run_sizeOf hs, offTo, h1, h2]

/-! ### Memory of the call's own -/
def reps (n : Nat) (zs : List Value) : List Value := (List.replicate n zs).flatten
theorem reps_length (n : Nat) (zs : List Value) : (reps n zs).length = n * zs.length := by simp [reps]
theorem reps_one (n : Nat) (z : Value) : reps n [z] = List.replicate n z := by
  induction n with
  | zero => rfl
  | succ n ih => simp [reps, List.replicate_succ] at ih ⊢
theorem range_reps (zs : List Value) : ∀ n, ((Array.range (n * zs.length)).map fun i => zs.toArray[i % zs.toArray.size]!) = (reps n zs).toArray := by
  intro n
  apply Array.ext
  · simp [reps_length]
  · intro i h1 h2
    simp at h1
    have hpos : 0 < zs.length := by
      rcases Nat.eq_zero_or_pos zs.length with h | h
      · rw [h] at h1; omega
      · exact h
    have hlt : i % zs.length < zs.length := Nat.mod_lt _ hpos
    have key : ∀ (n i : Nat), i < n * zs.length → (reps n zs)[i]? = zs[i % zs.length]? := by
      intro n
      induction n with
      | zero => intro i hi; omega
      | succ n ih =>
        intro i hi
        have e : reps (n + 1) zs = zs ++ reps n zs := by simp [reps, List.replicate_succ]
        rw [e]
        by_cases hlt : i < zs.length
        · rw [List.getElem?_append_left hlt, Nat.mod_eq_of_lt hlt]
        · rw [List.getElem?_append_right (by omega), ih (i - zs.length) (by rw [Nat.add_mul] at hi; omega)]
          congr 1
          rw [← Nat.mod_eq_sub_mod (by omega)]
    have hk := key n i h1
    simp [hlt] at hk ⊢
    rw [List.getElem?_eq_getElem (by rw [reps_length]; exact h1)] at hk
    exact (Option.some.inj hk).symm

def cl (T : TypeId) (xs : List Value) : Obj := .cells xs.toArray T (0, 0)
def zeroIs (P : Program) (T : TypeId) (xs : List Value) : Prop := ∃ z, (P.info? T).bind (·.zero) = some z ∧ z.cells.toList = xs
theorem run_zeroValue' {T : TypeId} {z : Value} (h : (P.info? T).bind (·.zero) = some z) (w : World) : (zeroValue T).run P w = .ok z w := by
  cases hq : P.info? T with
  | none => simp [hq] at h
  | some i => simp [hq] at h; simp [zeroValue, typeInfo, hq, h]

theorem rowH {b o : Nat} {T : TypeId} {xs vs : List Value} (hm : (b, cl T xs) ∈ H) (h : ∀ i, i < vs.length → xs[o + i]? = vs[i]?) : Row m H b o vs := ⟨xs.toArray, T, (0, 0), .inr hm, fun i hi => by simpa using h i hi⟩
theorem rowH0 {b : Nat} {T : TypeId} {xs : List Value} (hm : (b, cl T xs) ∈ H) : Row m H b 0 xs := rowH hm (fun i _ => by simp)
theorem rowH1 {b o : Nat} {T : TypeId} {xs : List Value} {v : Value} (hm : (b, cl T xs) ∈ H) (h : xs[o]? = some v) : Row m H b o [v] := rowH hm (fun i hi => by
  have : i = 0 := by simp at hi; omega
  subst this; simpa using h)
theorem rowM {b o : Nat} {arr : Array Value} {T : TypeId} {fr : Nat × Nat} {vs : List Value} (hm : m b = some (.cells arr T fr)) (h : At? arr o vs) : Row m H b o vs := ⟨arr, T, fr, .inl hm, h⟩
theorem Row.up {b o : Nat} {vs : List Value} {m' : Mem} (h : Row m H b o vs) (hm : m.le m') : Row m' H b o vs := by
  obtain ⟨arr, T, fr, hb, ha⟩ := h
  exact ⟨arr, T, fr, hb.imp (hm b _) id, ha⟩
theorem Row.heap {b o : Nat} {vs : List Value} {H' : Hp} (h : Row m [] b o vs) : Row m H' b o vs := by
  obtain ⟨arr, T, fr, hb, ha⟩ := h
  exact ⟨arr, T, fr, hb.imp id (fun h => by simp at h), ha⟩

section
variable {ops : Array Oper} {rest : List Oper} {Q : Exit → Act → World → Prop} {dd : Nat}

theorem wl_new {o : Oper} {v : Nat → Value} {ob : Obj} (hg : gd ops env o.guard = some true) (ho : o.dst = some dd) (hd : Nat.blt dd n = true)
    (hx : ∀ a w, Fr n env a → Fits m w → Has H w → (execOp a.eval o).run P w = .ok (.value (v w.heap.size)) (w.alloc ob))
    (h : ∀ b, WL P n K ops Q rest ((dd, v b) :: env) m ((b, ob) :: H)) : WL P n K ops Q (o :: rest) env m H := by
  intro a w ha hs
  unfold wpList
  rw [if_pos (ha.wanted hg)]
  refine .inl ?_
  unfold Oper.wp
  rw [hx a w ha hs.mem hs.heap, Oper.upon_value, ho]
  exact h w.heap.size _ _ (ha.put _ hd) (hs.alloc ob)

theorem wl_alloc {T : TypeId} {xs : List Value} (hg : gd ops env g = some true) (hd : Nat.blt dd n = true) (hz : zeroIs P T xs)
    (h : ∀ b, WL P n K ops Q rest ((dd, .pointer (some ⟨b, 0, none⟩)) :: env) m ((b, cl T xs) :: H)) : WL P n K ops Q (⟨some dd, .alloc T, ty, pos, aft, g⟩ :: rest) env m H := by
  obtain ⟨z, hz1, hz2⟩ := hz
  have e : z.cells = xs.toArray := by rw [← hz2]
  refine wl_new (v := fun b => .pointer (some ⟨b, 0, none⟩)) (ob := cl T xs) hg rfl hd (fun a w _ _ _ => ?_) h
  simp [execOp, Instr.alloc, run_zeroValue' hz1, newVar, newRow, cl, e]
theorem wl_box {T : TypeId} {xs : List Value} (hg : gd ops env g = some true) (hd : Nat.blt dd n = true) (hx : ev env x = some v) (hv : v.cells.toList = xs)
    (h : ∀ b, WL P n K ops Q rest ((dd, .pointer (some ⟨b, 0, none⟩)) :: env) m ((b, cl T xs) :: H)) : WL P n K ops Q (⟨some dd, .box T x, ty, pos, aft, g⟩ :: rest) env m H := by
  have e : v.cells = xs.toArray := by rw [← hv]
  refine wl_new (v := fun b => .pointer (some ⟨b, 0, none⟩)) (ob := cl T xs) hg rfl hd (fun a w ha _ _ => ?_) h
  simp [execOp, Instr.box, ha.ev hx, newVar, newRow, cl, e]

/-! Structs and arrays by value -/
def splice : List Value → Nat → List Value → List Value
  | xs, _, [] => xs
  | xs, o, v :: vs => splice (xs.set o v) (o + 1) vs
theorem splice_eq : ∀ (vs xs : List Value) (o : Nat), o + vs.length ≤ xs.length → splice xs o vs = xs.take o ++ vs ++ xs.drop (o + vs.length)
  | [], xs, o, _ => by simp [splice]
  | v :: vs, xs, o, h => by
    simp only [List.length_cons] at h
    rw [splice, splice_eq vs (xs.set o v) (o + 1) (by simp; omega)]
    have h1 : (xs.set o v).take (o + 1) = xs.take o ++ [v] := by
      rw [List.take_succ_eq_append_getElem (by simp; omega), List.take_set_of_le (Nat.le_refl o)]
      simp
    rw [h1, List.drop_set_of_lt (by omega)]
    simp [Nat.add_assoc, Nat.add_comm 1]
theorem splice_all (xs vs : List Value) (h : vs.length = xs.length) : splice xs 0 vs = vs := by rw [splice_eq vs xs 0 (by omega)]; simp [h]
theorem splice_one {xs : List Value} {o : Nat} (v : Value) : splice xs o [v] = xs.set o v := rfl
theorem splice_length : ∀ (vs xs : List Value) (o : Nat), (splice xs o vs).length = xs.length
  | [], _, _ => rfl
  | v :: vs, xs, o => by rw [splice, splice_length vs]; simp

def fillL (place : Nat → Option (Nat × Nat)) : List Value → List (Nat × Value) → Option (List Value)
  | cs, [] => some cs
  | cs, (i, v) :: rest => match place i with
    | none => none
    | some (off, size) => match Nat.beq v.cells.toList.length size && Nat.ble (off + size) cs.length with
      | true => fillL place (splice cs off v.cells.toList) rest
      | false => none
theorem fill_fold (off : Nat) : ∀ (vs : List Value) (k : Nat) (cs : Array Value), ((vs.zipIdx k).foldl (fun cs (c, j) => cs.setIfInBounds (off + j) c) cs) = (splice cs.toList (off + k) vs).toArray
  | [], k, cs => by simp [splice]
  | v :: vs, k, cs => by
    rw [List.zipIdx_cons, List.foldl_cons, fill_fold off vs (k + 1), splice]
    simp [Nat.add_assoc]
theorem fill_eq (place : Nat → Option (Nat × Nat)) : ∀ (vs : List (Nat × Value)) (cs cs' : List Value), fillL place cs vs = some cs' → Instr.fill place cs.toArray vs = some cs'.toArray
  | [], cs, cs', h => by simp only [fillL, Option.some.injEq] at h; simp [Instr.fill, h]
  | (i, v) :: rest, cs, cs', h => by
    simp only [fillL] at h
    split at h
    · simp at h
    · rename_i off size hp
      split at h
      · rename_i hb
        simp only [Bool.and_eq_true] at hb
        have h1 : v.cells.size = size := by have := Nat.eq_of_beq_eq_true hb.1; simpa using this
        have h2 : off + size ≤ cs.length := Nat.le_of_ble_eq_true hb.2
        have h3 := fill_eq place rest _ _ h
        have h4 : (v.cells.zipIdx.foldl (fun cs (c, j) => cs.setIfInBounds (off + j) c) cs.toArray) = (splice cs off v.cells.toList).toArray := by
          have := fill_fold off v.cells.toList 0 cs.toArray
          simp only [Nat.add_zero, List.toList_toArray] at this
          rw [← this, ← Array.foldl_toList]
          simp
        unfold Instr.fill
        rw [hp]
        dsimp only
        rw [if_neg (by simp [h1]; omega), h4]
        exact h3
      · simp at h
def evp (env : Env) : List (Nat × Operand) → Option (List (Nat × Value))
  | [] => some []
  | (i, x) :: xs => match ev env x, evp env xs with
    | some v, some vs => some ((i, v) :: vs)
    | _, _ => none
theorem Fr.evp {a : Act} (h : Fr n env a) : ∀ {ps : List (Nat × Operand)} {vs : List (Nat × Value)}, evp env ps = some vs → (ps.map fun (i, x) => (i, a.eval x)) = vs
  | [], vs, hx => by simp only [Cy.evp, Option.some.injEq] at hx; simp [← hx]
  | (i, x) :: ps, vs, hx => by
    simp only [Cy.evp] at hx
    split at hx
    · rename_i v vs' h1 h2
      simp only [Option.some.injEq] at hx
      rw [List.map_cons, Fr.evp h h2, ← hx, ← h.ev h1]
    · exact absurd hx (by simp)
def placesIs (P : Program) (fs : Array Field) (pl : List (Nat × Nat)) : Prop := ∀ w, (fs.mapM (m := Sem) fun f => Prod.mk f.offset <$> sizeOf f.type).run P w = .ok pl.toArray w
theorem x_build {T : TypeId} {fs : Array Field} {pl : List (Nat × Nat)} {zs cs : List Value} {ps : List (Nat × Operand)} {vs : List (Nat × Value)} (ht : P.underlying T = some (.struct fs)) (hp : placesIs P fs pl) (hz : zeroIs P T zs) (hv : evp env ps = some vs)
    (hc' : fillL (fun i => pl[i]?) zs vs = some cs) : Ex P n ⟨d, .build T ps.toArray, ty, pos, aft, g⟩ env m H (.agg cs.toArray) := fun a w ha _ _ => by
  obtain ⟨z, hz1, hz2⟩ := hz
  have e : z.cells = zs.toArray := by rw [← hz2]
  have hc1 := fill_eq _ _ _ _ hc'
  simp [execOp, Instr.build, run_zeroValue' hz1, underlying, ht, hp w, e, ha.evp hv, hc1]
theorem wl_buildSlice {T E : TypeId} {len s : Nat} {zs cs : List Value} {ps : List (Nat × Operand)} {vs : List (Nat × Value)} (hg : gd ops env g = some true) (hd : Nat.blt dd n = true) (ht : P.underlying T = some (.slice E)) (hs : sizeIs P E (s + 1)) (hz : zeroIs P E zs) (hzl : Nat.beq zs.length (s + 1) = true)
    (hlen : Nat.ble 1 (len * (s + 1)) = true) (hmax : Nat.ble (len * (s + 1)) 16777216 = true) (hv : evp env ps = some vs) (hc' : fillL (fun i => some (i * (s + 1), (s + 1))) (reps len zs) vs = some cs)
    (h : ∀ b, WL P n K ops Q rest ((dd, .slice (some ⟨b, 0, none⟩) len len) :: env) m ((b, cl E cs) :: H)) : WL P n K ops Q (⟨some dd, .buildSlice T len ps.toArray, ty, pos, aft, g⟩ :: rest) env m H := by
  obtain ⟨z, hz1, hz2⟩ := hz
  have e : z.cells = zs.toArray := by rw [← hz2]
  have hc1 := fill_eq _ _ _ _ hc'
  refine wl_new (v := fun b => .slice (some ⟨b, 0, none⟩) len len) (ob := cl E cs) hg rfl hd (fun a w ha _ _ => ?_) h
  have h1 : ¬ (16777216 < len * (s + 1)) := by have := Nat.le_of_ble_eq_true hmax; omega
  have h2 : ¬ (len * (s + 1) = 0) := by have := Nat.le_of_ble_eq_true hlen; omega
  simp [execOp, Instr.buildSlice, underlying, ht, run_sizeOf hs, h1, run_zeroValue' hz1, newRow, e, ha.evp hv]
  rw [if_neg h2]
  have hr := range_reps zs len
  rw [Nat.eq_of_beq_eq_true hzl] at hr
  have hr2 : ((Array.range (len * (s + 1))).map fun i => zs[i % zs.length]?.getD default) = (reps len zs).toArray := by
    rw [← hr]
    simp
  rw [hr2, hc1]
  simp [cl]

/-! Stores -/
theorem heap_setCell' {w : World} {b o : Nat} {T : TypeId} {xs : List Value} {v : Value} (hb : w.heap[b]? = some (cl T xs)) : (w.setCell ⟨b, o, none⟩ v).heap[b]? = some (cl T (xs.set o v)) := by
  simp only [World.setCell, Array.getElem?_modify, hb, cl]
  simp
theorem run_storeCells' {b : Nat} {T : TypeId} : ∀ (vs : List Value) (o i : Nat) (xs : List Value) (w : World), w.heap[b]? = some (cl T xs) → o + i + vs.length ≤ xs.length → (∀ v ∈ vs, v.oneCell' = true) →
    ∃ w', (storeCells ⟨b, o, none⟩ vs i).run P w = .ok () w' ∧ w'.os = w.os ∧ w'.tape = w.tape ∧ w'.output = w.output ∧ w'.heap.size = w.heap.size ∧ w'.heap[b]? = some (cl T (splice xs (o + i) vs)) ∧ ∀ k, k ≠ b → w'.heap[k]? = w.heap[k]?
  | [], o, i, xs, w, hb, hl, _ => ⟨w, by simp [storeCells], rfl, rfl, rfl, rfl, by simpa [splice] using hb, fun _ _ => rfl⟩
  | v :: vs, o, i, xs, w, hb, hl, h1 => by
    have hv : v.oneCell' = true := h1 v (.head _)
    have hlt : o + i < xs.length := by simp at hl; omega
    have hcell : w.cell? ⟨b, o + i, none⟩ = some xs[o + i] := by simp [World.cell?, hb, cl, hlt]
    have hfr : w.frozen? ⟨b, o + i, none⟩ = false := by simp [World.frozen?, hb, cl]
    have hb2 : (w.setCell ⟨b, o + i, none⟩ v).heap[b]? = some (cl T (xs.set (o + i) v)) := heap_setCell' hb
    obtain ⟨w', hr, e1, e2, e3, e4, e5, e6⟩ := run_storeCells' vs o (i + 1) (xs.set (o + i) v) (w.setCell ⟨b, o + i, none⟩ v) hb2 (by simp at hl ⊢; omega) (fun u hu => h1 u (.tail _ hu))
    refine ⟨w', ?_, e1, e2, e3, e4.trans (by simp), ?_, fun k hk => (e6 k hk).trans ?_⟩
    · simp only [storeCells, add_none, Sem.run_bind, run_store P w _ v _ hv, hcell, hfr]
      simpa using hr
    · rw [e5]; rfl
    · exact heap_setCell_other w _ k v hk

theorem wl_write {o : Oper} {b : Nat} {ob ob' : Obj} (hg : gd ops env o.guard = some true) (ho : o.dst = none)
    (hx : ∀ a w, Fr n env a → w.heap[b]? = some ob → ∃ w', (execOp a.eval o).run P w = .ok .skip w' ∧ w'.os = w.os ∧ w'.tape = w.tape ∧ w'.output = w.output ∧ w'.heap.size = w.heap.size ∧ w'.heap[b]? = some ob' ∧ ∀ k, k ≠ b → w'.heap[k]? = w.heap[k]?)
    (h : WL P n K ops Q rest env m ((b, ob') :: H)) : WL P n K ops Q (o :: rest) env m ((b, ob) :: H) := by
  intro a w ha hs
  obtain ⟨w', hr, e1, e2, e3, e4, e5, e6⟩ := hx a w ha (hs.heap b ob (.head _))
  unfold wpList
  rw [if_pos (ha.wanted hg)]
  refine .inl ?_
  unfold Oper.wp
  rw [hr, Oper.upon_skip, ho]
  exact h _ _ ha (hs.write e1 e2 e3 e4 e5 e6)

theorem wl_store {T E : TypeId} {b o : Nat} {xs : List Value} (hg : gd ops env g = some true) (hs : sizeIs P T 1) (hx : ev env x = some (.pointer (some ⟨b, o, none⟩))) (hy : ev env y = some v) (hv : v.oneCell' = true) (ho : o < xs.length)
    (h : WL P n K ops Q rest env m ((b, cl E (xs.set o v)) :: H)) : WL P n K ops Q (⟨none, .store T x y, ty, pos, aft, g⟩ :: rest) env m ((b, cl E xs) :: H) := by
  refine wl_write hg rfl (fun a w ha hb => ?_) h
  have hc : v.cells.toList = [v] := by cases v <;> first | rfl | (simp [Value.oneCell'] at hv)
  have hc2 : v.cells.size = 1 := by have := congrArg List.length hc; simpa using this
  obtain ⟨w', hr, e⟩ := run_storeCells' (P := P) (b := b) (T := E) [v] o 0 xs w hb (by simp; omega) (by simpa using hv)
  refine ⟨w', ?_, by simpa [splice_one] using e⟩
  simp [execOp, ha.ev hx, ha.ev hy, Instr.storeAt, Instr.sureAddr, storeVar, run_sizeOf hs, hc2, hc, hr]
theorem wl_stores {T E : TypeId} {b o : Nat} {xs vs : List Value} (hg : gd ops env g = some true) (hs : sizeIs P T vs.length) (hx : ev env x = some (.pointer (some ⟨b, o, none⟩))) (hy : ev env y = some (.agg vs.toArray)) (hv : ∀ u ∈ vs, u.oneCell' = true) (ho : o + vs.length ≤ xs.length)
    (h : WL P n K ops Q rest env m ((b, cl E (splice xs o vs)) :: H)) : WL P n K ops Q (⟨none, .store T x y, ty, pos, aft, g⟩ :: rest) env m ((b, cl E xs) :: H) := by
  refine wl_write hg rfl (fun a w ha hb => ?_) h
  obtain ⟨w', hr, e⟩ := run_storeCells' (P := P) (b := b) (T := E) vs o 0 xs w hb (by simpa using ho) hv
  refine ⟨w', ?_, by simpa using e⟩
  simp [execOp, ha.ev hx, ha.ev hy, Instr.storeAt, Instr.sureAddr, storeVar, run_sizeOf hs, Value.cells, hr]
theorem wl_storeAll {T E : TypeId} {b : Nat} {xs vs : List Value} (hg : gd ops env g = some true) (hs : sizeIs P T vs.length) (hx : ev env x = some (.pointer (some ⟨b, 0, none⟩))) (hy : ev env y = some (.agg vs.toArray)) (hv : ∀ u ∈ vs, u.oneCell' = true) (hl : vs.length = xs.length)
    (h : WL P n K ops Q rest env m ((b, cl E vs) :: H)) : WL P n K ops Q (⟨none, .store T x y, ty, pos, aft, g⟩ :: rest) env m ((b, cl E xs) :: H) :=
  wl_stores hg hs hx hy hv (by omega) (by rw [splice_all xs vs hl]; exact h)
end

/-! More slices -/
theorem offTo_zero (a0 : Option Addr) (s cap : Nat) : offTo a0 0 s cap = a0 := by
  unfold offTo
  split
  · rfl
  · cases a0 <;> simp [Addr.add]
theorem x_sliceTo {T E : TypeId} {s len cap hi : Nat} {a0 : Option Addr} {k : IntKind} (ht : P.underlying T = some (.slice E)) (hs : sizeIs P E s) (hx : ev env x = some (.slice a0 len cap)) (hy : ev env y = some (.int k hi)) (h2 : hi ≤ cap) :
    Ex P n ⟨d, .slice T x none (some y) none, ty, pos, aft, g⟩ env m H (.slice a0 hi cap) := by
  have h := x_slice (d := d) (ty := ty) (pos := pos) (aft := aft) (g := g) (n := n) (m := m) (H := H) (x1 := none) (x2 := some y) (lo := 0) ht hs hx rfl ⟨k, hy⟩ (Nat.zero_le _) h2
  rw [offTo_zero] at h
  exact h
theorem rowHs {b o : Nat} {T : TypeId} {xs vs : List Value} (hm : (b, cl T xs) ∈ H) (o' : Nat) (h : (xs.drop o').take vs.length = vs) (ho : o = o' := by rfl) : Row m H b o vs := rowH hm (fun i hi => by
  subst ho
  have := congrArg (fun l => l[i]?) h
  simpa [List.getElem?_take, hi] using this)

/-! Strings -/
theorem x_indexS {T : TypeId} {s : ByteArray} {j : Nat} {k : IntKind} {p : Int} (ht : P.underlying T = some .string) (hx : ev env x = some (.string s)) (hy : ev env y = some (.int k p)) (hp : p = (j : Int)) (hj : j < s.size) :
    Ex P n ⟨d, .index T x y, ty, pos, aft, g⟩ env m H (.int .u8 (s[j]'hj).toNat) := fun a w ha _ _ => by
  subst hp
  simp [execOp, ha.ev hx, ha.ev hy, Instr.index, asIntOf, underlying, ht, hj]
theorem x_concat {T T' : TypeId} {s t : ByteArray} (hx : ev env x = some (.string s)) (hy : ev env y = some (.string t)) (hb : s.size + t.size ≤ 9223372036854775807) : Ex P n ⟨d, .binOp .add T x y T', ty, pos, aft, g⟩ env m H (.string (s ++ t)) := fun a w ha _ _ => by
  have h : (s.size : Int) + t.size ≤ 9223372036854775807 := by omega
  simp [execOp, ha.ev hx, ha.ev hy, eqGuard, binOp, Op.stringOp, h]
theorem x_eqlS {T T' : TypeId} {s t : ByteArray} (hx : ev env x = some (.string s)) (hy : ev env y = some (.string t)) : Ex P n ⟨d, .binOp .eql T x y T', ty, pos, aft, g⟩ env m H (.bool (decide (s.toList = t.toList))) := fun a w ha _ _ => by
  simp [execOp, ha.ev hx, ha.ev hy, eqGuard, binOp, Op.stringOp]
  by_cases h : s.toList = t.toList <;> simp [h]
theorem x_neqS {T T' : TypeId} {s t : ByteArray} (hx : ev env x = some (.string s)) (hy : ev env y = some (.string t)) : Ex P n ⟨d, .binOp .neq T x y T', ty, pos, aft, g⟩ env m H (.bool (decide (s.toList ≠ t.toList))) := fun a w ha _ _ => by
  simp [execOp, ha.ev hx, ha.ev hy, eqGuard, binOp, Op.stringOp]
  by_cases h : s.toList = t.toList <;> simp [h]
end

/-! ### Contracts that hand out no blocks -/
def Pure (P : Program) (f : FuncId) (args : Array Value) (m : Mem) (R : Value → Mem → Prop) : Prop := Does P f args m [] fun v m' H' => H' = [] ∧ R v m'
theorem Pure.mono {P : Program} {f : FuncId} {args : Array Value} {m : Mem} {R R' : Value → Mem → Prop} (h : Pure P f args m R) (hr : ∀ v m', m.le m' → R v m' → R' v m') : Pure P f args m R' :=
  Does.mono h fun v m' _ hm hR => ⟨hR.1, hr v m' hm hR.2⟩

section
variable {P : Program} {n : Nat} {K : Ctx} {Q : Exit → Act → World → Prop} {env : Env} {m : Mem} {H : Hp} {ops : Array Oper} {rest : List Oper}

theorem enterp {f : FuncId} {fn : Func} {c : Code} {args : List Value} {R : Value → Mem → Prop} (hf : P.funcs[f]? = some fn) (hb : fn.body = some c)
    (hn : Nat.ble args.length fn.ntmps = true) (h : ∀ K : Ctx, K.m0 = m → K.ks = [] → W P fn.ntmps K c (bodyPost P fn (RetP (Ends K fun v m' H' => H' = [] ∧ R v m'))) (argsEnv 0 args) m []) : Pure P f args.toArray m R :=
  enter hf hb hn fun K h1 h2 => h K h1 (by simpa [keys] using h2)

theorem at_endp {fn : Func} {R : Value → Mem → Prop} {v : Value} (hv : ∀ a w, Fr n env a → St K m H w → (results fn a.tmps).run P w = .ok v w) (hR : R v m) : At n K (bodyPost P fn (RetP (Ends K fun v m' H' => H' = [] ∧ R v m'))) .ret env m H :=
  fun a w ha hs => ⟨ha.defers, v, hv a w ha hs, m, [], hs.sub (by simp) (by simp [keys]), rfl, hR⟩
theorem wl_callp {f : FuncId} {args : List Operand} {tys : Array TypeId} {vs : List Value} {d : Nat} {ty : TypeId} {pos : String} {aft : Array Edge} {g : Option (Nat × Bool)} {R : Value → Mem → Prop}
    (hg : gd ops env g = some true) (hd : Nat.blt d n = true) (ha : evs env args = some vs) (hc : Callable P f) (hf : Pure P f vs.toArray m R)
    (h : ∀ v m', m.le m' → R v m' → WL P n K ops Q rest ((d, v) :: env) m' H) : WL P n K ops Q (⟨some d, .call ⟨.value (.func f), args.toArray, tys⟩, ty, pos, aft, g⟩ :: rest) env m H :=
  wl_call hg hd ha hc (Hc := []) (Hr := H) rfl hf fun v m' H' hm hR => by
    obtain ⟨rfl, hR⟩ := hR
    exact h v m' hm hR
theorem wl_callvp {f : FuncId} {t : Nat} {fst cap : List Value} {args : List Operand} {tys : Array TypeId} {vs : List Value} {d : Nat} {ty : TypeId} {pos : String} {aft : Array Edge} {g : Option (Nat × Bool)} {R : Value → Mem → Prop}
    (hg : gd ops env g = some true) (hd : Nat.blt d n = true) (ht : lk env t = some (.func (.func f) fst.toArray cap.toArray)) (ha : evs env args = some vs) (hc : Callable P f) (hf : Pure P f (fst ++ vs ++ cap).toArray m R)
    (h : ∀ v m', m.le m' → R v m' → WL P n K ops Q rest ((d, v) :: env) m' H) : WL P n K ops Q (⟨some d, .call ⟨.value (.tmp t), args.toArray, tys⟩, ty, pos, aft, g⟩ :: rest) env m H :=
  wl_callv hg hd ht ha hc (Hc := []) (Hr := H) rfl hf fun v m' H' hm hR => by
    obtain ⟨rfl, hR⟩ := hR
    exact h v m' hm hR

/-! ### Results that lie in memory -/
def ResV (P : Program) (env : Env) (m : Mem) (H : Hp) : ResultVar → Value → Prop
  | .tmp t, v => lk env t = some v
  | .cell a T, v => ∃ b o vs, lk env a = some (.pointer (some ⟨b, o, none⟩)) ∧ Row m H b o vs ∧ ((plainT P T ∧ vs = [v]) ∨ (aggT P T ∧ sizeIs P T vs.length ∧ v = .agg vs.toArray))
def ResVs (P : Program) (env : Env) (m : Mem) (H : Hp) : List ResultVar → List Value → Prop
  | [], [] => True
  | r :: rs, v :: vs => ResV P env m H r v ∧ ResVs P env m H rs vs
  | _, _ => False

def resOne (tmps : Array Value) : ResultVar → Sem Value
  | .tmp t => pure (tmps.getD t undef)
  | .cell a t => do loadVar t (← asAddr (tmps.getD a undef))
theorem run_resOne {a : Act} {w : World} (ha : Fr n env a) (hs : St K m H w) {r : ResultVar} {v : Value} (h : ResV P env m H r v) : (resOne a.tmps r).run P w = .ok v w := by
  cases r with
  | tmp t => simp only [ResV] at h; simp [resOne, ha.get t v h]
  | cell t T =>
    obtain ⟨b, o, vs, h1, h2, h3⟩ := h
    have h4 := ha.get t _ h1
    rcases h3 with ⟨hp, rfl⟩ | ⟨hp, hz, rfl⟩
    · have hc : w.cell? ⟨b, o, none⟩ = some v := h2.cell hs.mem hs.heap (i := 0) rfl
      simp [resOne, h4, asAddr, loadVar, run_isAgg_plain hp, hc]
    · have hc : (loadCells ⟨b, o, none⟩ vs.length).run P w = .ok vs.toArray w := run_loadCells_list (P := P) w ⟨b, o, none⟩ vs (fun j v hv => by rw [add_none]; exact h2.cell hs.mem hs.heap hv)
      simp [resOne, h4, asAddr, loadVar, run_isAgg_agg hp, run_sizeOf hz, hc]
theorem run_resAll {a : Act} {w : World} (ha : Fr n env a) (hs : St K m H w) : ∀ (rs : List ResultVar) (vs : List Value), ResVs P env m H rs vs → (rs.mapM (resOne a.tmps)).run P w = .ok vs w
  | [], [], _ => by simp
  | r :: rs, v :: vs, h => by
    simp only [ResVs] at h
    simp [List.mapM_cons, run_resOne ha hs h.1, run_resAll ha hs rs vs h.2]
  | [], _ :: _, h => h.elim
  | _ :: _, [], h => h.elim
theorem resA {fn : Func} {rs : List ResultVar} {v : Value} (hr : fn.results = rs.toArray) (hv : ResVs P env m H rs [v]) : ∀ a w, Fr n env a → St K m H w → (results fn a.tmps).run P w = .ok v w := fun a w ha hs => by
  have h1 := run_resAll ha hs rs [v] hv
  have h2 : results fn a.tmps = (do let vs ← fn.results.mapM (resOne a.tmps); pure (if h : vs.size = 1 then vs[0] else .tuple vs)) := rfl
  rw [h2, hr]
  simp [h1]
theorem resAs {fn : Func} {rs : List ResultVar} {vs : List Value} (hr : fn.results = rs.toArray) (hl : Nat.beq vs.length 1 = false) (hv : ResVs P env m H rs vs) : ∀ a w, Fr n env a → St K m H w → (results fn a.tmps).run P w = .ok (.tuple vs.toArray) w := fun a w ha hs => by
  have h1 := run_resAll ha hs rs vs hv
  have h2 : results fn a.tmps = (do let vs ← fn.results.mapM (resOne a.tmps); pure (if h : vs.size = 1 then vs[0] else .tuple vs)) := rfl
  have h3 : ¬ vs.length = 1 := Nat.ne_of_beq_eq_false hl
  rw [h2, hr]
  simp [h1, h3]
end

theorem wl_front1 {P : Program} {n : Nat} {K : Ctx} {Q : Exit → Act → World → Prop} {env : Env} {m : Mem} {ops : Array Oper} {rest : List Oper} {e0 e1 : Nat × Obj} {H : Hp} (h : WL P n K ops Q rest env m (e1 :: e0 :: H)) : WL P n K ops Q rest env m (e0 :: e1 :: H) := wl_perm (List.Perm.swap _ _ _) h
theorem wl_front2 {P : Program} {n : Nat} {K : Ctx} {Q : Exit → Act → World → Prop} {env : Env} {m : Mem} {ops : Array Oper} {rest : List Oper} {e0 e1 e2 : Nat × Obj} {H : Hp} (h : WL P n K ops Q rest env m (e2 :: e0 :: e1 :: H)) : WL P n K ops Q rest env m (e0 :: e1 :: e2 :: H) :=
  wl_perm ((List.Perm.cons _ (List.Perm.swap _ _ _)).trans (List.Perm.swap _ _ _)) h
theorem wl_front3 {P : Program} {n : Nat} {K : Ctx} {Q : Exit → Act → World → Prop} {env : Env} {m : Mem} {ops : Array Oper} {rest : List Oper} {e0 e1 e2 e3 : Nat × Obj} {H : Hp} (h : WL P n K ops Q rest env m (e3 :: e0 :: e1 :: e2 :: H)) : WL P n K ops Q rest env m (e0 :: e1 :: e2 :: e3 :: H) :=
  wl_perm ((List.Perm.cons _ ((List.Perm.cons _ (List.Perm.swap _ _ _)).trans (List.Perm.swap _ _ _))).trans (List.Perm.swap _ _ _)) h

theorem Row.nth {m : Mem} {H : Hp} {b o o' : Nat} {vs : List Value} (h : Row m H b o vs) (i : Nat) {v : Value} (hv : vs[i]? = some v) (ho : o' = o + i) : Row m H b o' [v] := by
  refine h.sub i ho fun j hj => ?_
  have : j = 0 := by simp at hj; omega
  subst this
  simpa using hv

/-! ### A region that draws its order -/
def maskOf (acc : List Nat) (o : Oper) : Nat := o.after.toList.foldl (fun s e => if Region.binds .any e then s ||| 2 ^ e.on ||| acc.getD e.on 0 else s) 0
def masks : List Oper → List Nat → List Nat
  | [], acc => acc
  | o :: l, acc => masks l (acc ++ [maskOf acc o])

theorem maskOf_bit {acc : List Nat} {o : Oper} {j : Nat} (h : (maskOf acc o).testBit j = true) : ∃ e ∈ o.after, Region.binds .any e = true ∧ (e.on = j ∨ (acc.getD e.on 0).testBit j = true) := by
  have key : ∀ (es : List Edge) (s : Nat), (es.foldl (fun s e => if Region.binds .any e then s ||| 2 ^ e.on ||| acc.getD e.on 0 else s) s).testBit j = true →
      s.testBit j = true ∨ ∃ e ∈ es, Region.binds .any e = true ∧ (e.on = j ∨ (acc.getD e.on 0).testBit j = true) := by
    intro es
    induction es with
    | nil => intro s hs; exact .inl hs
    | cons e es ih =>
      intro s hs
      rw [List.foldl_cons] at hs
      rcases ih _ hs with h1 | ⟨e', he', h2⟩
      · by_cases hb : Region.binds .any e = true
        · rw [if_pos hb] at h1
          simp only [Nat.testBit_or, Bool.or_eq_true] at h1
          rcases h1 with (h1 | h1) | h1
          · exact .inl h1
          · rw [Nat.testBit_two_pow] at h1
            exact .inr ⟨e, .head _, hb, .inl (by simpa using h1)⟩
          · exact .inr ⟨e, .head _, hb, .inr h1⟩
        · rw [if_neg hb] at h1; exact .inl h1
      · exact .inr ⟨e', .tail _ he', h2⟩
  rcases key _ _ h with h1 | ⟨e, he, h2⟩
  · simp at h1
  · exact ⟨e, Array.mem_toList_iff.1 he, h2⟩

theorem masks_spec : ∀ (l l0 : List Oper) (acc : List Nat), acc.length = l0.length → (∀ i o, l0[i]? = some o → acc.getD i 0 = maskOf (acc.take i) o) →
    ∀ i o, (l0 ++ l)[i]? = some o → (masks l acc).getD i 0 = maskOf ((masks l acc).take i) o
  | [], l0, acc, _, h, i, o, ho => by simp only [List.append_nil] at ho; exact h i o ho
  | x :: l, l0, acc, hl, h, i, o, ho => by
    have := masks_spec l (l0 ++ [x]) (acc ++ [maskOf acc x]) (by simp [hl]) (fun i o ho => ?_) i o (by simpa using ho)
    · exact this
    · by_cases hi : i < l0.length
      · rw [List.getElem?_append_left hi] at ho
        have h1 := h i o ho
        rw [List.getD_eq_getElem?_getD, List.getElem?_append_left (by omega), ← List.getD_eq_getElem?_getD, h1, List.take_append_of_le_length (by omega)]
      · have hi2 : i = l0.length := by
          have := (List.getElem?_eq_some_iff.1 ho).1
          simp at this; omega
        subst hi2
        simp at ho
        subst ho
        rw [← hl]
        simp

def Closed (l : List Oper) (listed : Array Bool) : Prop := ∀ (i : Nat) (o : Oper), l[i]? = some o → listed.getD i false = true → ∀ e ∈ o.after, Region.binds .any e = true → listed.getD e.on false = true
theorem mask_listed {l : List Oper} {listed : Array Bool} (hc : Closed l listed) : ∀ (i : Nat) (o : Oper) (j : Nat), l[i]? = some o → (∀ e ∈ o.after, Region.binds .any e = true → listed.getD e.on false = true) → ((masks l []).getD i 0).testBit j = true → listed.getD j false = true := by
  intro i
  induction i using Nat.strongRecOn with
  | _ i ih =>
    intro o j ho hready hb
    rw [masks_spec l [] [] rfl (by simp) i o (by simpa using ho)] at hb
    obtain ⟨e, he, hbind, h1⟩ := maskOf_bit hb
    rcases h1 with rfl | h1
    · exact hready e he hbind
    · have hlt : e.on < i := by
        by_cases hx : e.on < i
        · exact hx
        · rw [List.getD_eq_getElem?_getD, List.getElem?_eq_none (by simp; omega)] at h1
          simp at h1
      rw [List.getD_eq_getElem?_getD, List.getElem?_take, if_pos hlt, ← List.getD_eq_getElem?_getD] at h1
      have hlist := hready e he hbind
      cases hle : l[e.on]? with
      | none =>
        have : (masks l []).getD e.on 0 = 0 := by
          have hlen : ∀ (l : List Oper) (acc : List Nat), (masks l acc).length = acc.length + l.length := by
            intro l
            induction l with
            | nil => intro acc; simp [masks]
            | cons x l ih => intro acc; simp [masks, ih]; omega
          have h2 : l.length ≤ e.on := by simpa using hle
          rw [List.getD_eq_getElem?_getD, List.getElem?_eq_none (by rw [hlen]; simp; omega)]
          rfl
        rw [this] at h1; simp at h1
      | some o' => exact ih e.on hlt o' j hle (fun e' he' hb' => hc e.on o' hle hlist e' he' hb') h1

def dstAt (l : List Oper) (j : Nat) : Option Nat := (l[j]?).bind (·.dst)
def penv (l : List Oper) (vs : Nat → Value) : List Nat → Env
  | [] => []
  | j :: js => match dstAt l j with
    | some t => (t, vs j) :: penv l vs js
    | none => penv l vs js
def drawOk (l : List Oper) (k : Nat) (pr : Nat → List Nat) : Bool :=
  let ms := masks l []
  Nat.ble k l.length &&
  (List.range l.length).all (fun i => match l[i]? with
    | some o => o.after.toList.all fun e => !Region.binds .any e || Nat.blt e.on i
    | none => true) &&
  (List.range l.length).all (fun i =>
    if Nat.blt i k then
      (match dstAt l i with
      | some t => (List.range k).all fun j => Nat.beq i j || dstAt l j != some t
      | none => false) &&
      ((pr i).all fun j => Nat.blt j k && (ms.getD i 0).testBit j) &&
      (match l[i]? with
      | some o => !(o.op matches .select ..)
      | none => false)
    else (List.range i).all fun j => (ms.getD i 0).testBit j)

def DStep (P : Program) (n : Nat) (ops : Array Oper) (Q : Exit → Act → World → Prop) (o : Oper) (env : Env) (m : Mem) (H : Hp) (φ : Value → Mem → Hp → Prop) : Prop :=
  ∀ a w, Fr n env a → Fits m w → Has H w →
    if Region.wanted o (yielded ops a.tmps) then o.wp P a w (fun a' w' => ∃ v m' h', a' = a.put o.dst v ∧ St ⟨w, m, []⟩ m' h' w' ∧ φ v m' h') Q
    else φ undef m []

def flat (Hs : Nat → Hp) (listed : Array Bool) : Nat → Hp
  | 0 => []
  | k + 1 => (if listed.getD k false then Hs k else []) ++ flat Hs listed k
def flatAll (Hs : Nat → Hp) : Nat → Hp
  | 0 => []
  | k + 1 => Hs k ++ flatAll Hs k

theorem flat_all {Hs : Nat → Hp} {listed : Array Bool} : ∀ (k : Nat), (∀ i, i < k → listed.getD i false = true) → flat Hs listed k = flatAll Hs k
  | 0, _ => rfl
  | k + 1, h => by rw [flat, flatAll, if_pos (h k (by omega)), flat_all k (fun i hi => h i (by omega))]
theorem flat_none {Hs : Nat → Hp} {listed : Array Bool} : ∀ (k : Nat), (∀ i, i < k → listed.getD i false = false) → flat Hs listed k = []
  | 0, _ => rfl
  | k + 1, h => by rw [flat, if_neg (by rw [h k (by omega)]; simp), flat_none k (fun i hi => h i (by omega))]; rfl
theorem flat_add {Hs : Nat → Hp} {listed : Array Bool} {i : Nat} {h : Hp} (hsz : i < listed.size) (hi : listed.getD i false = false) : ∀ (k : Nat), i < k → (h ++ flat Hs listed k).Perm (flat (fun j => if j = i then h else Hs j) (listed.setIfInBounds i true) k)
  | 0, hk => by omega
  | k + 1, hk => by
    by_cases hik : k = i
    · subst hik
      have h1 : (listed.setIfInBounds k true).getD k false = true := by simp [hsz]
      have h2 : ∀ k', k' ≤ k → flat Hs listed k' = flat (fun j => if j = k then h else Hs j) (listed.setIfInBounds k true) k' := by
        intro k'
        induction k' with
        | zero => intro _; rfl
        | succ k' ih =>
          intro hle
          have hne : k' ≠ k := by omega
          have h3 : (listed.setIfInBounds k true).getD k' false = listed.getD k' false := by
            simp [Array.getElem?_setIfInBounds_ne (Ne.symm hne)]
          rw [flat, flat, ih (by omega), h3, if_neg hne]
      rw [flat, flat, if_neg (by rw [hi]; simp), h1, if_pos rfl, if_pos rfl, ← h2 k (Nat.le_refl k)]
      exact List.Perm.refl _
    · have h3 : (listed.setIfInBounds i true).getD k false = listed.getD k false := by
        simp [Array.getElem?_setIfInBounds_ne (Ne.symm hik)]
      rw [flat, flat, h3, if_neg hik]
      refine List.Perm.trans ?_ (List.Perm.append_left _ (flat_add hsz hi k (by omega)))
      rw [← List.append_assoc, ← List.append_assoc]
      exact List.Perm.append_right _ List.perm_append_comm

def without (t : Nat) : Env → Env
  | [] => []
  | (s, v) :: e => match Nat.beq s t with
    | true => without t e
    | false => (s, v) :: without t e
theorem lk_without_self (t : Nat) : ∀ e : Env, lk (without t e) t = none
  | [] => rfl
  | (s, v) :: e => by
    unfold without
    cases hb : Nat.beq s t with
    | true => exact lk_without_self t e
    | false =>
      show (match Nat.beq s t with | true => some v | false => lk (without t e) t) = none
      rw [hb]
      exact lk_without_self t e
theorem lk_without (t : Nat) : ∀ (e : Env) (s : Nat) (v : Value), lk (without t e) s = some v → lk e s = some v
  | [], _, _, h => h
  | (s', v') :: e, s, v, h => by
    unfold without at h
    cases hb : Nat.beq s' t with
    | true =>
      rw [hb] at h
      have ih := lk_without t e s v h
      show (match Nat.beq s' s with | true => some v' | false => lk e s) = some v
      cases hc : Nat.beq s' s with
      | true =>
        have e1 := Nat.eq_of_beq_eq_true hb
        have e2 := Nat.eq_of_beq_eq_true hc
        rw [← e2, e1, lk_without_self] at h
        cases h
      | false => exact ih
    | false =>
      rw [hb] at h
      change (match Nat.beq s' s with | true => some v' | false => lk (without t e) s) = some v at h
      show (match Nat.beq s' s with | true => some v' | false => lk e s) = some v
      cases hc : Nat.beq s' s with
      | true => rw [hc] at h; exact h
      | false => rw [hc] at h; exact lk_without t e s v h

def nmem (i : Nat) : List Nat → Bool
  | [] => false
  | j :: js => match Nat.beq i j with
    | true => true
    | false => nmem i js
theorem nmem_mem {i : Nat} : ∀ {js : List Nat}, nmem i js = true → i ∈ js
  | [], h => by cases h
  | j :: js, h => by
    unfold nmem at h
    cases hb : Nat.beq i j with
    | true => rw [Nat.eq_of_beq_eq_true hb]; exact .head _
    | false => rw [hb] at h; exact .tail _ (nmem_mem h)
def wo : List (Nat × List Nat) → Env → Env
  | [], e => e
  | (t, _) :: ts, e => wo ts (without t e)
theorem wo_get : ∀ {ts : List (Nat × List Nat)} {e : Env} {t : Nat} {v : Value}, lk (wo ts e) t = some v → lk e t = some v
  | [], _, _, _, h => h
  | (_, _) :: _, _, _, _, h => lk_without _ _ _ _ (wo_get h)
def exOf (env : Env) (i : Nat) : List (Nat × List Nat) → Env
  | [] => []
  | (t, is) :: ts => match nmem i is, lk env t with
    | true, some v => (t, v) :: exOf env i ts
    | _, _ => exOf env i ts
theorem exOf_get {env : Env} {i : Nat} : ∀ {ts : List (Nat × List Nat)} {t : Nat} {v : Value}, lk (exOf env i ts) t = some v → ∃ is, (t, is) ∈ ts ∧ i ∈ is ∧ lk env t = some v
  | [], _, _, h => by cases h
  | (t', is) :: ts, t, v, h => by
    unfold exOf at h
    split at h
    · rename_i u h1 h2
      change (match Nat.beq t' t with | true => some u | false => lk (exOf env i ts) t) = some v at h
      cases hb : Nat.beq t' t with
      | true =>
        rw [hb] at h
        have e1 := Nat.eq_of_beq_eq_true hb
        subst e1
        cases h
        exact ⟨is, .head _, nmem_mem h1, h2⟩
      | false =>
        rw [hb] at h
        obtain ⟨is', h3, h4⟩ := exOf_get h
        exact ⟨is', .tail _ h3, h4⟩
    · obtain ⟨is', h3, h4⟩ := exOf_get h
      exact ⟨is', .tail _ h3, h4⟩
def envAt (ts : List (Nat × List Nat)) (i : Nat) (env : Env) : Env := match ts with
  | [] => env
  | ts => exOf env i ts ++ wo ts env
theorem lk_app {e1 e2 : Env} {t : Nat} {v : Value} (h : lk (e1 ++ e2) t = some v) : lk e1 t = some v ∨ lk e2 t = some v := by
  induction e1 with
  | nil => exact .inr h
  | cons p e1 ih =>
    obtain ⟨j, u⟩ := p
    change (match Nat.beq j t with | true => some u | false => lk (e1 ++ e2) t) = some v at h
    show (match Nat.beq j t with | true => some u | false => lk e1 t) = some v ∨ _
    cases hb : Nat.beq j t with
    | true => rw [hb] at h; exact .inl h
    | false => rw [hb] at h; exact ih h
theorem envAt_get {ts : List (Nat × List Nat)} {i : Nat} {env : Env} {t : Nat} {v : Value} (h : lk (envAt ts i env) t = some v) : (∃ is, (t, is) ∈ ts ∧ i ∈ is ∧ lk env t = some v) ∨ lk (wo ts env) t = some v := by
  cases ts with
  | nil => exact .inr h
  | cons p ts =>
    rcases lk_app h with h | h
    · exact .inl (exOf_get h)
    · exact .inr h
def exOk (l : List Oper) (k : Nat) (pr : Nat → List Nat) (ts : List (Nat × List Nat)) : Bool := ts.all fun p => p.2.all fun i => ((List.range k).all fun j => dstAt l j != some p.1 || (Nat.beq i j || ((masks l []).getD j 0).testBit i)) && ((pr i).all fun j => dstAt l j != some p.1)
theorem exOk_spec {l : List Oper} {k : Nat} {pr : Nat → List Nat} {ts : List (Nat × List Nat)} (h : exOk l k pr ts = true) {t : Nat} {is : List Nat} (h1 : (t, is) ∈ ts) {i : Nat} (h2 : i ∈ is) : (∀ j, j < k → dstAt l j = some t → i = j ∨ ((masks l []).getD j 0).testBit i = true) ∧ ∀ j ∈ pr i, dstAt l j ≠ some t := by
  simp only [exOk, List.all_eq_true, Bool.and_eq_true, List.mem_range, Bool.or_eq_true, bne_iff_ne, ne_eq] at h
  obtain ⟨h3, h4⟩ := h _ h1 _ h2
  refine ⟨fun j hj hd => ?_, h4⟩
  rcases h3 j hj with h5 | h5 | h5
  · exact absurd hd h5
  · exact .inl (Nat.eq_of_beq_eq_true h5)
  · exact .inr h5

section
variable {P : Program} {n : Nat} {K : Ctx} {Q : Exit → Act → World → Prop} {env : Env} {m : Mem} {H : Hp}

theorem penv_get {l : List Oper} {vs : Nat → Value} : ∀ {js : List Nat} {t : Nat} {v : Value}, lk (penv l vs js ++ env) t = some v → (∃ j ∈ js, dstAt l j = some t ∧ v = vs j) ∨ lk env t = some v
  | [], t, v, h => .inr h
  | j :: js, t, v, h => by
    unfold penv at h
    split at h
    · rename_i u hu
      simp only [List.cons_append, lk] at h
      split at h
      · rename_i hb
        have : u = t := Nat.eq_of_beq_eq_true hb
        subst this
        simp only [Option.some.injEq] at h
        exact .inl ⟨j, .head _, hu, h.symm⟩
      · rcases penv_get h with ⟨j', h1, h2⟩ | h1
        · exact .inl ⟨j', .tail _ h1, h2⟩
        · exact .inr h1
    · rcases penv_get h with ⟨j', h1, h2⟩ | h1
      · exact .inl ⟨j', .tail _ h1, h2⟩
      · exact .inr h1

theorem drawOk_spec {l : List Oper} {k : Nat} {pr : Nat → List Nat} (hok : drawOk l k pr = true) : k ≤ l.length ∧
    (∀ i, i < k → (∃ t, dstAt l i = some t ∧ ∀ j, j < k → j ≠ i → dstAt l j ≠ some t) ∧ (∀ j ∈ pr i, j < k ∧ ((masks l []).getD i 0).testBit j = true) ∧ ∃ o, l[i]? = some o) ∧
    (∀ i, k ≤ i → i < l.length → ∀ j, j < i → ((masks l []).getD i 0).testBit j = true) ∧
    (∀ i o e, l[i]? = some o → e ∈ o.after → Region.binds .any e = true → e.on < i) := by
  simp only [drawOk, Bool.and_eq_true, List.all_eq_true, List.mem_range] at hok
  obtain ⟨⟨hk, hedge⟩, hall⟩ := hok
  have hk' : k ≤ l.length := Nat.le_of_ble_eq_true hk
  refine ⟨hk', fun i hi => ?_, fun i hki hi j hj => ?_, fun i o e ho he hb => ?_⟩
  · have h := hall i (by omega)
    rw [if_pos (by simpa [Nat.blt_eq] using hi)] at h
    simp only [Bool.and_eq_true, List.all_eq_true] at h
    obtain ⟨⟨h1, h2⟩, h3⟩ := h
    refine ⟨?_, fun j hj => ?_, ?_⟩
    · split at h1
      · rename_i t ht
        refine ⟨t, ht, fun j hj hji hjt => ?_⟩
        simp only [List.all_eq_true, List.mem_range, Bool.or_eq_true] at h1
        rcases h1 j hj with h4 | h4
        · exact hji (Nat.eq_of_beq_eq_true h4).symm
        · rw [hjt] at h4; simp at h4
      · simp at h1
    · have h4 := h2 j hj
      exact ⟨by simpa [Nat.blt_eq] using h4.1, h4.2⟩
    · exact ⟨l[i]'(by omega), List.getElem?_eq_getElem (by omega)⟩
  · have h := hall i hi
    rw [if_neg (by simp [Nat.blt_eq]; omega)] at h
    simp only [List.all_eq_true, List.mem_range] at h
    exact h j hj
  · have h := hedge i (List.getElem?_eq_some_iff.1 ho).1
    rw [ho] at h
    simp only [List.all_eq_true] at h
    have h1 := h e (Array.mem_toList_iff.2 he)
    simpa [hb, Nat.blt_eq] using h1

theorem getD_true {listed : Array Bool} {j : Nat} (h : j < listed.size) : listed.getD j true = listed.getD j false := by simp [Array.getD_eq_getD_getElem?, h]
theorem getD_set_same {listed : Array Bool} {i : Nat} (h : i < listed.size) : (listed.setIfInBounds i true).getD i false = true := by simp [h]
theorem getD_set_ne {listed : Array Bool} {i j : Nat} (h : j ≠ i) : (listed.setIfInBounds i true).getD j false = listed.getD j false := by simp [Array.getElem?_setIfInBounds_ne (Ne.symm h)]

theorem Closed.list {l : List Oper} {listed : Array Bool} (hc : Closed l listed) {i : Nat} (hsz : i < listed.size) {o : Oper} (ho : l[i]? = some o) (hr : ∀ e ∈ o.after, Region.binds .any e = true → listed.getD e.on false = true) : Closed l (listed.setIfInBounds i true) := by
  have up : ∀ x, listed.getD x false = true → (listed.setIfInBounds i true).getD x false = true := fun x hx => by
    by_cases h : x = i
    · subst h; exact getD_set_same hsz
    · rw [getD_set_ne h]; exact hx
  intro x ox hox hlx e he hb
  by_cases h : x = i
  · subst h
    rw [ho] at hox
    simp only [Option.some.injEq] at hox
    subst hox
    exact up _ (hr e he hb)
  · rw [getD_set_ne h] at hlx
    exact up _ (hc x ox hox hlx e he hb)

theorem wpAny_tail {l : List Oper} {k : Nat} {pr : Nat → List Nat} (hok : drawOk l k pr = true) : ∀ (fuel i : Nat) (listed : Array Bool) (a : Act) (w : World), k ≤ i → i + fuel = l.length → listed.size = l.length → (∀ j, j < l.length → listed.getD j false = decide (j < i)) → Closed l listed →
    wpList P l.toArray Q (l.drop i) a w → wpAny P .any l.toArray Q fuel listed a w := by
  obtain ⟨hk, _, htail, hedge⟩ := drawOk_spec hok
  have only : ∀ (i : Nat) (listed : Array Bool), k ≤ i → listed.size = l.length → (∀ j, j < l.length → listed.getD j false = decide (j < i)) → Closed l listed → ∀ j, j ∈ Region.ready .any l.toArray listed → j = i := by
    intro i listed hki hsz hl hc j hj
    obtain ⟨h1, o, ho, h2⟩ := mem_ready.1 hj
    have ho' : l[j]? = some o := by simpa using ho
    have hjl : j < l.length := (List.getElem?_eq_some_iff.1 ho').1
    rw [getD_true (by omega), hl j hjl] at h1
    have hji : ¬ j < i := by simpa using h1
    by_cases hij : j = i
    · exact hij
    · exfalso
      have h5 := mask_listed hc j o i ho' h2 (htail j (by omega) hjl i (by omega))
      rw [hl i (by omega)] at h5
      simp at h5
  intro fuel
  induction fuel with
  | zero =>
    intro i listed a w hki hlen hsz hl hc h
    have hi : i = l.length := by omega
    subst hi
    have hr : Region.ready .any l.toArray listed = [] := by
      rw [List.eq_nil_iff_forall_not_mem]
      intro j hj
      have := only _ listed hki hsz hl hc j hj
      obtain ⟨_, o, ho, _⟩ := mem_ready.1 hj
      have := (Array.getElem?_eq_some_iff.1 ho).1
      simp at this
      omega
    refine ⟨hr, ?_⟩
    simpa [wpList] using h
  | succ fuel ih =>
    intro i listed a w hki hlen hsz hl hc h
    have hil : i < l.length := by omega
    have hdrop : l.drop i = l[i] :: l.drop (i + 1) := List.drop_eq_getElem_cons hil
    have hoi : l[i]? = some l[i] := List.getElem?_eq_getElem hil
    have hrdy : i ∈ Region.ready .any l.toArray listed ∨ Region.ready .any l.toArray listed = [] := by
      cases hr : Region.ready .any l.toArray listed with
      | nil => exact .inr rfl
      | cons x xs =>
        have := only i listed hki hsz hl hc x (by rw [hr]; exact .head _)
        subst this
        exact .inl (.head _)
    refine ⟨fun hnil => ?_, fun j hj => ?_⟩
    · -- op i is ready: all its edges go to what has been listed
      exfalso
      have hmem : i ∈ Region.ready .any l.toArray listed := by
        refine mem_ready.2 ⟨?_, l[i], by simp [hil], fun e he hb => ?_⟩
        · rw [getD_true (by omega), hl i hil]; simp
        · have hlt := hedge i l[i] e hoi he hb
          rw [hl e.on (by omega)]; simpa using hlt
      rw [hnil] at hmem; simp at hmem
    · have hji := only i listed hki hsz hl hc j hj
      subst hji
      obtain ⟨_, o, ho, h2⟩ := mem_ready.1 hj
      have ho' : l[j]? = some o := by simpa using ho
      have hoe : o = l[j] := by rw [hoi] at ho'; exact (Option.some.inj ho').symm
      subst hoe
      rw [hdrop] at h
      unfold wpList at h
      unfold wpOp
      rw [ho]
      have hnext : ∀ a w, wpList P l.toArray Q (l.drop (j + 1)) a w → wpAny P .any l.toArray Q fuel (listed.setIfInBounds j true) a w := by
        intro a w hw
        refine ih (j + 1) _ a w (by omega) (by omega) (by simp [hsz]) (fun x hx => ?_) (hc.list (by omega) hoi h2) hw
        by_cases hxj : x = j
        · subst hxj; rw [getD_set_same (by omega)]; simp
        · rw [getD_set_ne hxj, hl x hx]
          have : (x < j) = (x < j + 1) := by apply propext; omega
          simp [this]
      dsimp only
      split
      · rename_i hw
        rw [if_pos hw] at h
        exact h.imp (Oper.wp_mono hnext) id
      · rename_i hw
        rw [if_neg hw] at h
        exact hnext _ _ h

def cnt (listed : Array Bool) : Nat → Nat
  | 0 => 0
  | k + 1 => (if listed.getD k false then 1 else 0) + cnt listed k
theorem cnt_le (listed : Array Bool) : ∀ k, cnt listed k ≤ k
  | 0 => Nat.le_refl _
  | k + 1 => by rw [cnt]; have := cnt_le listed k; split <;> omega
theorem cnt_all {listed : Array Bool} : ∀ {k : Nat}, cnt listed k = k → ∀ i, i < k → listed.getD i false = true
  | 0, _, i, hi => by omega
  | k + 1, h, i, hi => by
    rw [cnt] at h
    have h1 := cnt_le listed k
    by_cases hb : listed.getD k false = true
    · rw [if_pos hb] at h
      by_cases hik : i = k
      · subst hik; exact hb
      · exact cnt_all (k := k) (by omega) i (by omega)
    · rw [if_neg hb] at h; omega
theorem cnt_some {listed : Array Bool} : ∀ {k : Nat}, cnt listed k ≠ k → ∃ i, i < k ∧ listed.getD i false = false ∧ ∀ j, j < i → listed.getD j false = true
  | 0, h => by simp [cnt] at h
  | k + 1, h => by
    by_cases hc : cnt listed k = k
    · refine ⟨k, by omega, ?_, cnt_all hc⟩
      rw [cnt, hc] at h
      cases hb : listed.getD k false with
      | false => rfl
      | true => rw [hb] at h; simp at h; omega
    · obtain ⟨i, h1, h2⟩ := cnt_some hc
      exact ⟨i, by omega, h2⟩
theorem cnt_set {listed : Array Bool} {i : Nat} (hs : i < listed.size) (hi : listed.getD i false = false) : ∀ k, i < k → cnt (listed.setIfInBounds i true) k = cnt listed k + 1
  | 0, h => by omega
  | k + 1, h => by
    by_cases hik : k = i
    · subst hik
      have h2 : ∀ k', k' ≤ k → cnt (listed.setIfInBounds k true) k' = cnt listed k' := by
        intro k'
        induction k' with
        | zero => intro _; rfl
        | succ k' ih => intro hle; rw [cnt, cnt, ih (by omega), getD_set_ne (by omega)]
      rw [cnt, cnt, getD_set_same hs, hi, h2 k (Nat.le_refl k)]
      simp; omega
    · rw [cnt, cnt, getD_set_ne hik, cnt_set hs hi k (by omega)]; omega
theorem cnt_zero {listed : Array Bool} : ∀ k, (∀ i, i < k → listed.getD i false = false) → cnt listed k = 0
  | 0, _ => rfl
  | k + 1, h => by rw [cnt, h k (by omega), cnt_zero k (fun i hi => h i (by omega))]; rfl

theorem w_draw {id : Nat} {l : List Oper} (k : Nat) (pr : Nat → List Nat) (φ : Nat → Value → Mem → Hp → Prop) (hm : P.follows .mixedOrders = true) (hok : drawOk l k pr = true) (ts : List (Nat × List Nat)) (hex : exOk l k pr ts = true)
    (henv : ((List.range k).all fun i => match dstAt l i with | some t => (lk (wo ts env) t).isNone && Nat.blt t n | none => true) = true)
    (hst : ∀ i, i < k → ∀ v m1 m2 h, m.le m1 → m1.le m2 → φ i v m1 h → φ i v m2 h)
    (hob : ∀ i o, i < k → l[i]? = some o → ∀ m', m.le m' → ∀ (vs : Nat → Value) (Hs : Nat → Hp), (∀ j ∈ pr i, φ j (vs j) m' (Hs j)) → DStep P n l.toArray Q o (penv l vs (pr i) ++ envAt ts i env) m' H (φ i))
    (hend : ∀ m', m.le m' → ∀ vs Hs, (∀ i, i < k → φ i (vs i) m' (Hs i)) → WL P n K l.toArray Q (l.drop k) (penv l vs (List.range k) ++ wo ts env) m' (flatAll Hs k ++ H)) :
    W P n K (.region id l.toArray true) Q env m H := by
  obtain ⟨hk, hpre, htail, hedge⟩ := drawOk_spec hok
  simp only [List.all_eq_true, List.mem_range] at henv
  have henv' : ∀ i, i < k → ∀ t, dstAt l i = some t → lk (wo ts env) t = none := fun i hi t ht => by
    have := henv i hi
    rw [ht] at this
    simp only [Bool.and_eq_true] at this
    simpa using this.1
  have hfit : ∀ i, i < k → ∀ t, dstAt l i = some t → t < n := fun i hi t ht => by
    have := henv i hi
    rw [ht] at this
    simp only [Bool.and_eq_true] at this
    simpa [Nat.blt_eq] using this.2
  intro a0 w0 ha0 hs0
  refine wp_region_any hm ?_
  have key : ∀ (fuel : Nat) (listed : Array Bool) (a : Act) (w : World) (m' : Mem) (vs : Nat → Value) (Hs : Nat → Hp), listed.size = l.length → cnt listed k + fuel = l.length → (∀ j, k ≤ j → listed.getD j false = false) → Closed l listed →
      m.le m' → St K m' (flat Hs listed k ++ H) w → a.tmps.size = n → a.defers = [] → (∀ t v, lk (wo ts env) t = some v → a.tmps[t]? = some v) → (∀ t is v, (t, is) ∈ ts → lk env t = some v → (∀ j, j < k → dstAt l j = some t → listed.getD j false = false) → a.tmps[t]? = some v) →
      (∀ j, j < k → listed.getD j false = true → φ j (vs j) m' (Hs j) ∧ ∀ t, dstAt l j = some t → a.tmps[t]? = some (vs j)) → wpAny P .any l.toArray Q fuel listed a w := by
    intro fuel
    induction fuel with
    | zero =>
      intro listed a w m' vs Hs hsz hcnt hge hc hle hst' hts hdf hfr hfx hφ
      have h1 := cnt_le listed k
      have hck : cnt listed k = k := by omega
      have hkl : k = l.length := by omega
      have hall := cnt_all hck
      refine wpAny_tail hok 0 k listed a w (Nat.le_refl k) (by omega) hsz (fun j hj => by rw [hall j (by omega)]; simp; omega) hc ?_
      have hend' := hend m' hle vs Hs (fun i hi => (hφ i hi (hall i hi)).1)
      refine hend' a w ⟨hts, fun t v ht => ?_, hdf⟩ (by rw [← flat_all k hall]; exact hst')
      rcases penv_get ht with ⟨j, hj, hd, rfl⟩ | h2
      · exact (hφ j (by simpa using hj) (hall j (by simpa using hj))).2 t hd
      · exact hfr t v h2
    | succ fuel ih =>
      intro listed a w m' vs Hs hsz hcnt hge hc hle hst' hts hdf hfr hfx hφ
      by_cases hck : cnt listed k = k
      · have hall := cnt_all hck
        refine wpAny_tail hok (fuel + 1) k listed a w (Nat.le_refl k) (by omega) hsz (fun j hj => ?_) hc ?_
        · by_cases hjk : j < k
          · rw [hall j hjk]; simp [hjk]
          · rw [hge j (by omega)]; simp [hjk]
        · have hend' := hend m' hle vs Hs (fun i hi => (hφ i hi (hall i hi)).1)
          refine hend' a w ⟨hts, fun t v ht => ?_, hdf⟩ (by rw [← flat_all k hall]; exact hst')
          rcases penv_get ht with ⟨j, hj, hd, rfl⟩ | h2
          · exact (hφ j (by simpa using hj) (hall j (by simpa using hj))).2 t hd
          · exact hfr t v h2
      · obtain ⟨i0, hi0k, hi0f, hi0m⟩ := cnt_some hck
        refine ⟨fun hnil => ?_, fun i hi => ?_⟩
        · exfalso
          have hil : i0 < l.length := by omega
          have hmem : i0 ∈ Region.ready .any l.toArray listed := by
            refine mem_ready.2 ⟨by rw [getD_true (by omega)]; exact hi0f, l[i0], by simp [hil], fun e he hb => hi0m e.on (hedge i0 l[i0] e (List.getElem?_eq_getElem hil) he hb)⟩
          rw [hnil] at hmem; simp at hmem
        · obtain ⟨h1, o, ho, h2⟩ := mem_ready.1 hi
          have ho' : l[i]? = some o := by simpa using ho
          have hil : i < l.length := (List.getElem?_eq_some_iff.1 ho').1
          rw [getD_true (by omega)] at h1
          have hik : i < k := by
            by_cases hik : i < k
            · exact hik
            · exfalso
              have h5 := mask_listed hc i o i0 ho' h2 (htail i (by omega) hil i0 (by omega))
              rw [hi0f] at h5; simp at h5
          obtain ⟨⟨t, ht, huniq⟩, hpr, _⟩ := hpre i hik
          have hprl : ∀ j ∈ pr i, listed.getD j false = true := fun j hj => mask_listed hc i o j ho' h2 (hpr j hj).2
          have hod : o.dst = some t := by simpa [dstAt, ho'] using ht
          have hstep := hob i o hik ho' m' hle vs Hs (fun j hj => (hφ j (hpr j hj).1 (hprl j hj)).1) a w ⟨hts, fun t v hv => ?_, hdf⟩ hst'.mem (fun b ob hb => hst'.heap b ob (List.mem_append_right _ hb))
          · -- the next state
            have hnext : ∀ v m'' h' w', St ⟨w, m', []⟩ m'' h' w' → φ i v m'' h' → wpAny P .any l.toArray Q fuel (listed.setIfInBounds i true) (a.put o.dst v) w' := by
              intro v m'' h' w' hst2 hφv
              have hle2 : m'.le m'' := hst2.le
              refine ih _ _ _ m'' (fun j => if j = i then v else vs j) (fun j => if j = i then h' else Hs j) (by simp [hsz]) (by rw [cnt_set (by omega) h1 k hik]; omega)
                (fun j hj => by rw [getD_set_ne (by omega)]; exact hge j hj) (hc.list (by omega) ho' h2) (hle.trans hle2) ?_ (by rw [hod]; simp [Act.put, hts]) (by rw [hod]; simp [Act.put, hdf]) (fun t' v' hv' => ?_) (fun t' is' v' hm' hv' hun => ?_) (fun j hj hlj => ?_)
              · have := St.call (Hc := []) (Hr := flat Hs listed k ++ H) hst' hst2
                rw [← List.append_assoc] at this
                exact this.perm (List.Perm.append_right _ (flat_add (by omega) h1 k hik))
              · have hne : t ≠ t' := fun e => by
                  subst e
                  rw [henv' i hik t ht] at hv'; simp at hv'
                rw [hod]; simp only [Act.put]
                rw [Array.getElem?_setIfInBounds_ne hne]; exact hfr t' v' hv'
              · have hne : t ≠ t' := fun e => by
                  subst e
                  have := hun i hik ht
                  rw [getD_set_same (by omega)] at this; cases this
                rw [hod]; simp only [Act.put]
                rw [Array.getElem?_setIfInBounds_ne hne]
                refine hfx t' is' v' hm' hv' fun j hj hd => ?_
                have := hun j hj hd
                by_cases hji : j = i
                · subst hji; exact h1
                · rw [getD_set_ne hji] at this; exact this
              · by_cases hji : j = i
                · subst hji
                  simp only [if_true]
                  refine ⟨hφv, fun t' ht' => ?_⟩
                  have : t' = t := by rw [ht] at ht'; exact (Option.some.inj ht').symm
                  subst this
                  have hlt : t' < n := hfit j hik t' ht
                  rw [hod]; simp [Act.put, hts, hlt]
                · rw [getD_set_ne hji] at hlj
                  obtain ⟨g1, g2⟩ := hφ j hj hlj
                  simp only [if_neg hji]
                  refine ⟨hst j hj (vs j) m' m'' (Hs j) hle hle2 g1, fun t' ht' => ?_⟩
                  have hne : t ≠ t' := fun e => huniq j hj hji (e ▸ ht')
                  rw [hod]; simp only [Act.put]
                  rw [Array.getElem?_setIfInBounds_ne hne]; exact g2 t' ht'
            unfold wpOp
            rw [ho]
            dsimp only
            split
            · rename_i hw
              rw [if_pos hw] at hstep
              refine .inl (Oper.wp_mono ?_ hstep)
              rintro a' w' ⟨v, m'', h', rfl, h8, h9⟩
              exact hnext v m'' h' w' h8 h9
            · rename_i hw
              rw [if_neg hw] at hstep
              refine hnext undef m' [] w ?_ hstep
              exact St.start (H := []) hst'.mem (fun _ _ h => absurd h (List.not_mem_nil)) List.nodup_nil (fun _ _ h => absurd h (List.not_mem_nil))
          · rcases penv_get hv with ⟨j, hj, hd, rfl⟩ | h4
            · exact (hφ j (hpr j hj).1 (hprl j hj)).2 t hd
            · rcases envAt_get h4 with ⟨is, h5, h6, h7⟩ | h5
              · refine hfx t is v h5 h7 fun j hj hd => ?_
                cases hlj : listed.getD j false with
                | false => rfl
                | true =>
                  exfalso
                  rcases (exOk_spec hex h5 h6).1 j hj hd with e | hbit
                  · subst e; rw [hlj] at h1; cases h1
                  · have hjl : j < l.length := by omega
                    have := mask_listed hc j _ i (List.getElem?_eq_getElem hjl) (fun e he hb => hc j _ (List.getElem?_eq_getElem hjl) hlj e he hb) hbit
                    rw [this] at h1; cases h1
              · exact hfr t v h5
  refine key l.length _ a0 _ m (fun _ => undef) (fun _ => []) (by simp) (by rw [cnt_zero k (fun i _ => by simp [Array.getD_eq_getD_getElem?, Array.getElem?_replicate]; split <;> rfl)]; simp) (fun j _ => by simp [Array.getD_eq_getD_getElem?, Array.getElem?_replicate]; split <;> rfl)
    (fun i o _ hi => by simp [Array.getD_eq_getD_getElem?, Array.getElem?_replicate] at hi; split at hi <;> simp at hi) (Mem.le.refl m) ?_ ha0.size ha0.defers (fun t v h => ha0.get t v (wo_get h)) (fun t _ v _ h _ => ha0.get t v h) (fun j _ hj => by simp [Array.getD_eq_getD_getElem?, Array.getElem?_replicate] at hj; split at hj <;> simp at hj)
  rw [flat_none k (fun i _ => by simp [Array.getD_eq_getD_getElem?, Array.getElem?_replicate]; split <;> rfl)]
  exact { hs0 with }
end

/-! ### The same, one operation behind the other in the text's order -/
theorem nbeq {a b : Nat} (h : a ≠ b) : Nat.beq a b = false := by
  cases h' : Nat.beq a b
  · rfl
  · exact absurd (Nat.eq_of_beq_eq_true h') h
inductive Phi where
  | val (c : Value)
  | ret (R : Value → Mem → Prop) (up : ∀ v m m', m.le m' → R v m → R v m')
  | box (T : TypeId) (zs : List Value)
def Phi.p : Phi → Value → Mem → Hp → Prop
  | .val c, v, _, h => v = c ∧ h = []
  | .ret R _, v, m, h => R v m ∧ h = []
  | .box T zs, v, _, h => ∃ b, v = .pointer (some ⟨b, 0, none⟩) ∧ h = [(b, cl T zs)]
theorem Phi.up (φ : Phi) {v : Value} {m m' : Mem} {h : Hp} (hm : m.le m') (hp : φ.p v m h) : φ.p v m' h := by
  cases φ with
  | val c => exact hp
  | ret R up => exact ⟨up v m m' hm hp.1, hp.2⟩
  | box T zs => exact hp

abbrev Phis := List (Nat × Phi)
def lkp : Phis → Nat → Option Phi
  | [], _ => none
  | (j, φ) :: L, i => match Nat.beq j i with
    | true => some φ
    | false => lkp L i

def Preds (l : List Oper) (L : Phis) (m : Mem) : List Nat → Env → (Env → Prop) → Prop
  | [], env, G => G env
  | j :: js, env, G => match lkp L j, dstAt l j with
    | some (.val c), some t => Preds l L m js ((t, c) :: env) G
    | some (.ret R _), some t => ∀ v, R v m → Preds l L m js ((t, v) :: env) G
    | some (.box _ _), some t => ∀ b, Preds l L m js ((t, .pointer (some ⟨b, 0, none⟩)) :: env) G
    | _, _ => False
def Fin' (l : List Oper) (L : Phis) (m : Mem) : Nat → Env → Hp → (Env → Hp → Prop) → Prop
  | 0, env, H, G => G env H
  | k + 1, env, H, G => match lkp L k, dstAt l k with
    | some (.val c), some t => Fin' l L m k ((t, c) :: env) H G
    | some (.ret R _), some t => ∀ v, R v m → Fin' l L m k ((t, v) :: env) H G
    | some (.box T zs), some t => ∀ b, Fin' l L m k ((t, .pointer (some ⟨b, 0, none⟩)) :: env) ((b, cl T zs) :: H) G
    | _, _ => False

section
variable {P : Program} {n : Nat} {K : Ctx} {Q : Exit → Act → World → Prop} {env : Env} {m : Mem} {H : Hp}

def phiAt (L : Phis) (i : Nat) (v : Value) (m : Mem) (h : Hp) : Prop := match lkp L i with
  | some φ => φ.p v m h
  | none => False

theorem preds_use {l : List Oper} {L : Phis} {m : Mem} {vs : Nat → Value} {Hs : Nat → Hp} : ∀ (js : List Nat) (env : Env) (G : Env → Prop), (∀ j ∈ js, phiAt L j (vs j) m (Hs j)) → Preds l L m js env G → ∃ env', G env' ∧ ∀ t v, lk env' t = some v → (∃ j ∈ js, dstAt l j = some t ∧ v = vs j) ∨ lk env t = some v
  | [], env, G, _, h => ⟨env, h, fun _ _ h => .inr h⟩
  | j :: js, env, G, hp, h => by
    have hj := hp j (.head _)
    unfold phiAt at hj
    unfold Preds at h
    have step : ∀ t, dstAt l j = some t → Preds l L m js ((t, vs j) :: env) G → ∃ env', G env' ∧ ∀ t v, lk env' t = some v → (∃ i ∈ j :: js, dstAt l i = some t ∧ v = vs i) ∨ lk env t = some v := by
      intro t ht h2
      obtain ⟨env', h3, h4⟩ := preds_use js ((t, vs j) :: env) G (fun i hi => hp i (.tail _ hi)) h2
      refine ⟨env', h3, fun t' v hv => ?_⟩
      rcases h4 t' v hv with ⟨i, hi, h5⟩ | h5
      · exact .inl ⟨i, .tail _ hi, h5⟩
      · simp only [lk] at h5
        split at h5
        · rename_i hb
          have : t = t' := Nat.eq_of_beq_eq_true hb
          subst this
          exact .inl ⟨j, .head _, ht, (Option.some.inj h5).symm⟩
        · exact .inr h5
    split at h
    · rename_i c t h1 h2
      rw [h1] at hj
      exact step t h2 (hj.1 ▸ h)
    · rename_i R up t h1 h2
      rw [h1] at hj
      exact step t h2 (h _ hj.1)
    · rename_i T zs t h1 h2
      rw [h1] at hj
      obtain ⟨b, hb, _⟩ := hj
      exact step t h2 (hb ▸ h b)
    · exact h.elim

theorem fin_use {l : List Oper} {L : Phis} {m : Mem} {vs : Nat → Value} {Hs : Nat → Hp} : ∀ (k : Nat) (env : Env) (H : Hp) (G : Env → Hp → Prop), (∀ j, j < k → phiAt L j (vs j) m (Hs j)) → Fin' l L m k env H G → ∃ env' H', G env' H' ∧ (∀ t v, lk env' t = some v → (∃ j, j < k ∧ dstAt l j = some t ∧ v = vs j) ∨ lk env t = some v) ∧ (flatAll Hs k ++ H).Perm H'
  | 0, env, H, G, _, h => ⟨env, H, h, fun _ _ h => .inr h, List.Perm.refl _⟩
  | k + 1, env, H, G, hp, h => by
    have hj := hp k (by omega)
    unfold phiAt at hj
    unfold Fin' at h
    have step : ∀ t, dstAt l k = some t → Fin' l L m k ((t, vs k) :: env) (Hs k ++ H) G → ∃ env' H', G env' H' ∧ (∀ t v, lk env' t = some v → (∃ j, j < k + 1 ∧ dstAt l j = some t ∧ v = vs j) ∨ lk env t = some v) ∧ (flatAll Hs (k + 1) ++ H).Perm H' := by
      intro t ht h2
      obtain ⟨env', H', h3, h4, h5⟩ := fin_use k ((t, vs k) :: env) (Hs k ++ H) G (fun i hi => hp i (by omega)) h2
      refine ⟨env', H', h3, fun t' v hv => ?_, ?_⟩
      · rcases h4 t' v hv with ⟨i, hi, h6⟩ | h6
        · exact .inl ⟨i, by omega, h6⟩
        · simp only [lk] at h6
          split at h6
          · rename_i hb
            have : t = t' := Nat.eq_of_beq_eq_true hb
            subst this
            exact .inl ⟨k, by omega, ht, (Option.some.inj h6).symm⟩
          · exact .inr h6
      · refine List.Perm.trans ?_ h5
        rw [flatAll, ← List.append_assoc]
        exact List.Perm.append_right _ List.perm_append_comm
    split at h
    · rename_i c t h1 h2
      rw [h1] at hj
      refine step t h2 ?_
      rw [hj.2, hj.1]; exact h
    · rename_i R up t h1 h2
      rw [h1] at hj
      refine step t h2 ?_
      rw [hj.2]; exact h _ hj.1
    · rename_i T zs t h1 h2
      rw [h1] at hj
      obtain ⟨b, hb, hh⟩ := hj
      refine step t h2 ?_
      rw [hh, hb]; exact h b
    · exact h.elim


theorem lk_append {e1 e2 : Env} {t : Nat} : lk (e1 ++ e2) t = match lk e1 t with | some v => some v | none => lk e2 t := by
  induction e1 with
  | nil => simp [lk]
  | cons p e1 ih =>
    obtain ⟨j, v⟩ := p
    simp only [List.cons_append, lk]
    cases Nat.beq j t <;> simp [ih]
theorem env_mem {l : List Oper} {vs : Nat → Value} {js : List Nat} {env : Env} {a : Act} (hcov : ∀ t v, lk (penv l vs js ++ env) t = some v → a.tmps[t]? = some v) {t : Nat} {v : Value} (hv : lk env t = some v) (hno : ∀ j ∈ js, ∀ t', dstAt l j = some t' → lk env t' = none) : a.tmps[t]? = some v := by
  refine hcov t v ?_
  have : lk (penv l vs js) t = none := by
    cases hl : lk (penv l vs js) t with
    | none => rfl
    | some u =>
      rcases penv_get (l := l) (vs := vs) (js := js) (env := []) (by rw [List.append_nil]; exact hl) with ⟨j, hj, hd, _⟩ | h
      · rw [hno j hj t hd] at hv; simp at hv
      · simp [lk] at h
  rw [lk_append, this]
  exact hv
theorem penv_in {l : List Oper} {vs : Nat → Value} {k : Nat} (huniq : ∀ i, i < k → ∀ t, dstAt l i = some t → ∀ j, j < k → j ≠ i → dstAt l j ≠ some t) : ∀ {js : List Nat} {j t : Nat}, (∀ x ∈ js, x < k) → j ∈ js → dstAt l j = some t → lk (penv l vs js) t = some (vs j)
  | [], j, t, _, hj, _ => by simp at hj
  | x :: js, j, t, hk, hj, hd => by
    unfold penv
    by_cases hxj : x = j
    · subst hxj
      rw [hd]
      simp [lk]
    · have hjs : j ∈ js := by
        rcases List.mem_cons.1 hj with h | h
        · exact absurd h.symm hxj
        · exact h
      split
      · rename_i u hu
        have hne : u ≠ t := fun e => by
          subst e
          exact huniq j (hk j hj) u hd x (hk x (.head _)) hxj hu
        simp only [lk, nbeq hne]
        exact penv_in huniq (fun y hy => hk y (.tail _ hy)) hjs hd
      · exact penv_in huniq (fun y hy => hk y (.tail _ hy)) hjs hd

def Ob (P : Program) (n : Nat) (Q : Exit → Act → World → Prop) (ts : List (Nat × List Nat)) (env : Env) (m : Mem) (H : Hp) (l : List Oper) (prs : List (List Nat)) (L : Phis) (i : Nat) (φ : Phi) : Prop :=
  ∃ o, l[i]? = some o ∧ ∀ m', m.le m' → Preds l L m' (prs.getD i []) (envAt ts i env) fun env' => DStep P n l.toArray Q o env' m' H φ.p
def Paid (P : Program) (n : Nat) (Q : Exit → Act → World → Prop) (ts : List (Nat × List Nat)) (env : Env) (m : Mem) (H : Hp) (l : List Oper) (prs : List (List Nat)) (L : Phis) (i : Nat) : Prop :=
  ∀ j, j < i → ∃ φ, lkp L j = some φ ∧ Ob P n Q ts env m H l prs L j φ
def DR (P : Program) (n : Nat) (K : Ctx) (Q : Exit → Act → World → Prop) (ts : List (Nat × List Nat)) (env : Env) (m : Mem) (H : Hp) (id : Nat) (l : List Oper) (prs : List (List Nat)) (i : Nat) (L : Phis) : Prop :=
  Paid P n Q ts env m H l prs L i → W P n K (.region id l.toArray true) Q env m H

theorem preds_ext {l : List Oper} {L : Phis} {i : Nat} {φ : Phi} {m : Mem} : ∀ (js : List Nat) (env : Env) (G : Env → Prop), (∀ j ∈ js, j ≠ i) → Preds l L m js env G → Preds l ((i, φ) :: L) m js env G
  | [], _, _, _, h => h
  | j :: js, env, G, hne, h => by
    have hji : Nat.beq i j = false := nbeq (Ne.symm (hne j (.head _)))
    have hl : lkp ((i, φ) :: L) j = lkp L j := by simp [lkp, hji]
    unfold Preds at h ⊢
    rw [hl]
    split at h
    · exact preds_ext js _ G (fun x hx => hne x (.tail _ hx)) h
    · exact fun v hv => preds_ext js _ G (fun x hx => hne x (.tail _ hx)) (h v hv)
    · exact fun b => preds_ext js _ G (fun x hx => hne x (.tail _ hx)) (h b)
    · exact h

def prsOk (prs : List (List Nat)) : Bool := (List.range prs.length).all fun i => (prs.getD i []).all fun j => Nat.blt j i

theorem dr_step {ts : List (Nat × List Nat)} {id : Nat} {l : List Oper} {prs : List (List Nat)} {i : Nat} {L : Phis} (φ : Phi) (hok : prsOk prs = true) (hob : Ob P n Q ts env m H l prs L i φ) (h : DR P n K Q ts env m H id l prs (i + 1) ((i, φ) :: L)) : DR P n K Q ts env m H id l prs i L := by
  intro hp
  have hlt : ∀ i, ∀ j ∈ prs.getD i [], j < i := by
    intro i j hj
    simp only [prsOk, List.all_eq_true, List.mem_range] at hok
    by_cases hi : i < prs.length
    · have := hok i hi j hj
      simpa [Nat.blt_eq] using this
    · rw [List.getD_eq_getElem?_getD, List.getElem?_eq_none (by omega)] at hj
      simp at hj
  refine h fun j hj => ?_
  by_cases hji : j = i
  · subst hji
    obtain ⟨o, ho, h1⟩ := hob
    exact ⟨φ, by simp [lkp], o, ho, fun m' hm => preds_ext _ _ _ (fun x hx => by have := hlt j x hx; omega) (h1 m' hm)⟩
  · obtain ⟨ψ, h1, o, ho, h2⟩ := hp j (by omega)
    exact ⟨ψ, by simp [lkp, nbeq (Ne.symm hji), h1], o, ho, fun m' hm => preds_ext _ _ _ (fun x hx => by have := hlt j x hx; omega) (h2 m' hm)⟩

theorem dr_start {id : Nat} {l : List Oper} (ts : List (Nat × List Nat)) (prs : List (List Nat)) (h : DR P n K Q ts env m H id l prs 0 []) : W P n K (.region id l.toArray true) Q env m H := h fun j hj => by omega

theorem dr_done {ts : List (Nat × List Nat)} {id : Nat} {l : List Oper} {prs : List (List Nat)} {k : Nat} {L : Phis} (hm : P.follows .mixedOrders = true) (hok : drawOk l k (fun i => prs.getD i []) = true) (hex : exOk l k (fun i => prs.getD i []) ts = true)
    (henv : ((List.range k).all fun i => match dstAt l i with | some t => (lk (wo ts env) t).isNone && Nat.blt t n | none => true) = true)
    (h : ∀ m', m.le m' → Fin' l L m' k (wo ts env) H fun env' H' => WL P n K l.toArray Q (l.drop k) env' m' H') : DR P n K Q ts env m H id l prs k L := by
  intro hp
  refine w_draw k (fun i => prs.getD i []) (phiAt L) hm hok ts hex henv (fun i hi v m1 m2 hh h1 h2 h3 => ?_) (fun i o hi ho m' hle vs Hs hpr => ?_) (fun m' hle vs Hs hφ => ?_)
  · unfold phiAt at h3 ⊢
    cases hl : lkp L i with
    | none => rw [hl] at h3; exact h3.elim
    | some φ => rw [hl] at h3; exact φ.up h2 h3
  · obtain ⟨φ, h1, o', ho', h2⟩ := hp i hi
    rw [ho] at ho'
    cases ho'
    obtain ⟨env', h3, h4⟩ := preds_use _ (envAt ts i env) _ hpr (h2 m' hle)
    intro a w ha hf hh
    have h5 := h3 a w ⟨ha.size, fun t v hv => ?_, ha.defers⟩ hf hh
    · have e : phiAt L i = φ.p := by funext v m h; simp [phiAt, h1]
      rw [e]; exact h5
    · have hcov : ∀ t v, lk (penv l vs (prs.getD i []) ++ envAt ts i env) t = some v → a.tmps[t]? = some v := ha.get
      rcases h4 t v hv with ⟨j, hj, hd, rfl⟩ | h6
      · obtain ⟨_, hpre, _, _⟩ := drawOk_spec hok
        refine hcov t _ ?_
        rw [lk_append, penv_in (k := k) (fun i' hi' t' ht' => by
          obtain ⟨⟨t'', h7, h8⟩, _⟩ := hpre i' hi'
          rw [ht'] at h7; cases h7; exact h8) (fun x hx => ((hpre i hi).2.1 x hx).1) hj hd]
      · exact env_mem hcov h6 (fun j hj t' ht' => by
          obtain ⟨_, hpre, _, _⟩ := drawOk_spec hok
          have hjk := ((hpre i hi).2.1 j hj).1
          simp only [List.all_eq_true, List.mem_range] at henv
          have := henv j hjk
          rw [ht'] at this
          simp only [Bool.and_eq_true] at this
          cases hx : lk (envAt ts i env) t' with
          | none => rfl
          | some u =>
            exfalso
            rcases envAt_get hx with ⟨is, h7, h8, _⟩ | h7
            · exact (exOk_spec hex h7 h8).2 j hj ht'
            · rw [h7] at this; simp at this)
  · obtain ⟨env', H', h1, h2, h3⟩ := fin_use k (wo ts env) H _ hφ (h m' hle)
    intro a w ha hs
    refine h1 a w ⟨ha.size, fun t v hv => ?_, ha.defers⟩ (hs.perm h3)
    rcases h2 t v hv with ⟨j, hj, hd, rfl⟩ | h6
    · obtain ⟨_, hpre, _, _⟩ := drawOk_spec hok
      refine ha.get t _ ?_
      rw [lk_append, penv_in (k := k) (fun i' hi' t' ht' => by
        obtain ⟨⟨t'', h7, h8⟩, _⟩ := hpre i' hi'
        rw [ht'] at h7; cases h7; exact h8) (fun x hx => by simpa using hx) (by simpa using hj) hd]
    · exact env_mem ha.get h6 (fun j hj t' ht' => by
        simp only [List.all_eq_true, List.mem_range] at henv
        have := henv j (by simpa using hj)
        rw [ht'] at this
        simp only [Bool.and_eq_true] at this
        simpa using this.1)
end

section
variable {P : Program} {n : Nat} {K : Ctx} {Q : Exit → Act → World → Prop} {env : Env} {m : Mem} {H : Hp}
variable {id : Nat} {l : List Oper} {prs : List (List Nat)} {i : Nat} {L : Phis} {o : Oper}

theorem ds_val {c : Value} (hg : gd l.toArray env o.guard = some true) (hx : Ex P n o env m H c) : DStep P n l.toArray Q o env m H (Phi.val c).p := by
  intro a w ha hf hh
  rw [if_pos (ha.wanted hg)]
  unfold Oper.wp
  rw [hx a w ha hf hh, Oper.upon_value]
  exact ⟨c, m, [], rfl, St.start (H := []) hf (fun _ _ h => absurd h List.not_mem_nil) List.nodup_nil (fun _ _ h => absurd h List.not_mem_nil), rfl, rfl⟩
theorem ds_off (hg : gd l.toArray env o.guard = some false) : DStep P n l.toArray Q o env m H (Phi.val undef).p := by
  intro a w ha hf hh
  rw [if_neg (by rw [ha.wanted hg]; simp)]
  exact ⟨rfl, rfl⟩
theorem ds_ex {c : Value} {R : Value → Mem → Prop} {up : ∀ v m m', m.le m' → R v m → R v m'} (hg : gd l.toArray env o.guard = some true) (hx : Ex P n o env m H c) (hR : R c m) : DStep P n l.toArray Q o env m H (Phi.ret R up).p := by
  intro a w ha hf hh
  rw [if_pos (ha.wanted hg)]
  unfold Oper.wp
  rw [hx a w ha hf hh, Oper.upon_value]
  exact ⟨c, m, [], rfl, St.start (H := []) hf (fun _ _ h => absurd h List.not_mem_nil) List.nodup_nil (fun _ _ h => absurd h List.not_mem_nil), hR, rfl⟩
theorem ds_call' {φ : Phi} {f : FuncId} {vs : Array Value} {R' : Value → Mem → Prop} (hg : gd l.toArray env o.guard = some true) (hx : ∀ a w, Fr n env a → (execOp a.eval o).run P w = .ok (.enter f vs) w) (hf : Pure P f vs m R') (hR : ∀ v m', m.le m' → R' v m' → φ.p v m' []) :
    DStep P n l.toArray Q o env m H φ.p := by
  intro a w ha hfit hh
  rw [if_pos (ha.wanted hg)]
  refine wp_enter (hx a w ha) (hf w hfit (fun _ _ h => absurd h List.not_mem_nil) List.nodup_nil (fun _ _ h => absurd h List.not_mem_nil)) fun v w' hv => ?_
  obtain ⟨m', H', hst, rfl, hR'⟩ := hv
  exact ⟨v, m', [], rfl, hst, hR v m' hst.le hR'⟩
section
variable {d : Option Nat} {ty : TypeId} {pos : String} {aft : Array Edge} {g : Option (Nat × Bool)} {f : FuncId} {args : List Operand} {tys : Array TypeId} {vs : List Value}
theorem call_run (ha : evs env args = some vs) (hc : Callable P f) : ∀ a w, Fr n env a → (execOp a.eval ⟨d, .call ⟨.value (.func f), args.toArray, tys⟩, ty, pos, aft, g⟩).run P w = .ok (.enter f vs.toArray) w := fun a w hfr => by
  simp [execOp, resolve, Deferred.ofValue, Act.eval, invoke, hfr.evs ha, hc vs.toArray w]
theorem ds_call {R : Value → Mem → Prop} {up : ∀ v m m', m.le m' → R v m → R v m'} (hg : gd l.toArray env g = some true) (ha : evs env args = some vs) (hc : Callable P f) (hf : Pure P f vs.toArray m R) :
    DStep P n l.toArray Q ⟨d, .call ⟨.value (.func f), args.toArray, tys⟩, ty, pos, aft, g⟩ env m H (Phi.ret R up).p :=
  ds_call' (φ := .ret R up) hg (call_run ha hc) hf fun _ _ _ h => ⟨h, rfl⟩
theorem ds_callc {c : Value} (hg : gd l.toArray env g = some true) (ha : evs env args = some vs) (hc : Callable P f) (hf : Pure P f vs.toArray m fun v _ => v = c) :
    DStep P n l.toArray Q ⟨d, .call ⟨.value (.func f), args.toArray, tys⟩, ty, pos, aft, g⟩ env m H (Phi.val c).p :=
  ds_call' (φ := .val c) hg (call_run ha hc) hf fun _ _ _ h => ⟨h, rfl⟩
theorem ds_alloc {T : TypeId} {zs : List Value} (hg : gd l.toArray env g = some true) (hz : zeroIs P T zs) : DStep P n l.toArray Q ⟨d, .alloc T, ty, pos, aft, g⟩ env m H (Phi.box T zs).p := by
  obtain ⟨z, hz1, hz2⟩ := hz
  have e : z.cells = zs.toArray := by rw [← hz2]
  intro a w ha hf hh
  rw [if_pos (ha.wanted hg)]
  have hx : (execOp a.eval ⟨d, .alloc T, ty, pos, aft, g⟩).run P w = .ok (.value (.pointer (some ⟨w.heap.size, 0, none⟩))) (w.alloc (cl T zs)) := by
    simp [execOp, Instr.alloc, run_zeroValue' hz1, newVar, newRow, cl, e]
  unfold Oper.wp
  rw [hx, Oper.upon_value]
  have h0 : St ⟨w, m, []⟩ m [] w := St.start (H := []) hf (fun _ _ h => absurd h List.not_mem_nil) List.nodup_nil (fun _ _ h => absurd h List.not_mem_nil)
  exact ⟨_, m, [(w.heap.size, cl T zs)], rfl, h0.alloc _, w.heap.size, rfl, rfl⟩
end

theorem dr_op {ts : List (Nat × List Nat)} (φ : Phi) (hok : prsOk prs = true) (ho : l[i]? = some o) (hob : ∀ m', m.le m' → Preds l L m' (prs.getD i []) (envAt ts i env) fun env' => DStep P n l.toArray Q o env' m' H φ.p) (h : DR P n K Q ts env m H id l prs (i + 1) ((i, φ) :: L)) : DR P n K Q ts env m H id l prs i L :=
  dr_step φ hok ⟨o, ho, hob⟩ h
theorem dr_val {ts : List (Nat × List Nat)} {c : Value} (hok : prsOk prs = true) (ho : l[i]? = some o) (hob : ∀ m', m.le m' → Preds l L m' (prs.getD i []) (envAt ts i env) fun env' => DStep P n l.toArray Q o env' m' H (Phi.val c).p) (h : DR P n K Q ts env m H id l prs (i + 1) ((i, .val c) :: L)) : DR P n K Q ts env m H id l prs i L :=
  dr_step _ hok ⟨o, ho, hob⟩ h
end

/-! ### make, append, copy -/
def bytesIs (P : Program) (T : TypeId) (k : Nat) : Prop := (P.info? T).map (·.bytes) = some k
theorem info_of {P : Program} {T : TypeId} {s k : Nat} {zs : List Value} (hs : sizeIs P T s) (hb : bytesIs P T k) (hz : zeroIs P T zs) : ∃ i z, P.info? T = some i ∧ i.size = s ∧ i.bytes = k ∧ i.zero = some z ∧ z.cells = zs.toArray := by
  obtain ⟨z, hz1, hz2⟩ := hz
  subst hz2
  unfold sizeIs at hs
  unfold bytesIs at hb
  cases hq : P.info? T with
  | none => simp [hq] at hs
  | some i =>
    simp [hq] at hs hb hz1
    exact ⟨i, z, rfl, hs, hb, hz1, rfl⟩

section
variable {P : Program} {n : Nat} {K : Ctx} {Q : Exit → Act → World → Prop} {env : Env} {m : Mem} {H : Hp} {ops : Array Oper} {rest : List Oper}
variable {dd : Nat} {ty : TypeId} {pos : String} {aft : Array Edge} {g : Option (Nat × Bool)} {x y : Operand}

theorem wl_make {T E : TypeId} {s k N : Nat} {zs : List Value} {p q : Int} (hg : gd ops env g = some true) (hd : Nat.blt dd n = true) (ht : P.underlying T = some (.slice E)) (hs : sizeIs P E s) (hb : bytesIs P E k) (hz : zeroIs P E zs) (hzs : zs.length = s)
    (hx : ev env x = some (.int .i64 p)) (hy : ev env y = some (.int .i64 q)) (hp : p = (N : Int)) (hq : q = (N : Int)) (hN : N ≤ 9223372036854775807) (hbd : k * N ≤ 281474976710656)
    (h : ∀ b, WL P n K ops Q rest ((dd, .slice (some ⟨b, 0, none⟩) N N) :: env) m ((b, cl E (reps N zs)) :: H)) : WL P n K ops Q (⟨some dd, .makeSlice T x y, ty, pos, aft, g⟩ :: rest) env m H := by
  subst hp; subst hq
  obtain ⟨i, z, hi, hi1, hi2, hi3, hi4⟩ := info_of hs hb hz
  refine wl_new (v := fun b => .slice (some ⟨b, 0, none⟩) N N) (ob := cl E (reps N zs)) hg rfl hd (fun a w ha _ _ => ?_) h
  have w1 : IntKind.i64.wrap (N : Int) = N := wrap_i64 (by omega) (by omega)
  have n1 : ¬ ((N : Int) < 0) := by omega
  have n2 : ¬ (281474976710656 < (i.bytes : Int) * N) := by rw [hi2]; omega
  have e1 : ((Array.range (N * i.size)).map fun j => z.cells[j % z.cells.size]!) = (reps N zs).toArray := by
    rw [hi1, hi4, ← hzs]; exact range_reps zs N
  by_cases h0 : N * i.size = 0
  · have e2 : reps N zs = [] := by
      have := reps_length N zs
      rw [hzs, ← hi1, h0] at this
      exact List.length_eq_zero_iff.1 this
    simp [execOp, ha.ev hx, ha.ev hy, Instr.makeSlice, underlying, ht, typeInfo, hi, asInt, asIntOf, w1, n1, n2, sizeOf, newRow, cl, e2]
    rw [if_pos (by simpa using h0)]
    simp [h0]
    have e3 : (Array.range 0).map (fun _ => (default : Value)) = #[] := by apply Array.ext <;> simp
    rw [e3]
  · simp [execOp, ha.ev hx, ha.ev hy, Instr.makeSlice, underlying, ht, typeInfo, hi, asInt, asIntOf, w1, n1, n2, sizeOf, newRow, cl]
    rw [if_neg (by simpa using h0)]
    simp [zeroValue, typeInfo, hi, hi3, ← e1]

def Own (v : Value) (s : Nat) (E : TypeId) (cells : List Value) (Hs : Hp) : Prop :=
  (v = .slice none 0 0 ∧ cells = [] ∧ Hs = []) ∨
  ∃ b len cap xs, v = .slice (some ⟨b, 0, none⟩) len cap ∧ len ≤ cap ∧ cells.length = len * s ∧ xs.length = cap * s ∧ xs.take (len * s) = cells ∧ Hs = [(b, cl E xs)]

theorem Own.nil (s : Nat) (E : TypeId) : Own (.slice none 0 0) s E [] [] := .inl ⟨rfl, rfl, rfl⟩

theorem firstCells_row {w : World} {b o k s cap : Nat} {vs : List Value} (hr : Row m H b o vs) (hf : Fits m w) (hh : Has H w) (hl : vs.length = k * s) : (Builtin.firstCells s k (.slice (some ⟨b, o, none⟩) k cap)).run P w = .ok vs.toArray w := by
  have := run_loadCells_list (P := P) w ⟨b, o, none⟩ vs (fun j v hv => by rw [add_none]; exact hr.cell hf hh hv)
  simp only [Builtin.firstCells]
  rw [← hl]; exact this

theorem nextcap_le {need cap : Nat} (h : cap < need) : Builtin.nextslicecap need cap ≤ 2 * need := by
  have grow : ∀ (r c : Nat), c ≤ 2 * need → Builtin.growBy need r c ≤ 2 * need + need ∨ True := fun _ _ _ => .inr trivial
  unfold Builtin.nextslicecap
  split
  · omega
  · rename_i h1
    split
    · omega
    · rename_i h2
      have key : ∀ (r c : Nat), c ≤ 2 * need → 256 ≤ c → Builtin.growBy need r c ≤ 2 * need := by
        intro r
        induction r with
        | zero => intro c hc _; exact hc
        | succ r ih =>
          intro c hc h3
          unfold Builtin.growBy
          split
          · exact hc
          · exact ih _ (by omega) (by omega)
      exact key _ _ (by omega) (by omega)

theorem wl_append {T T' E D : TypeId} {s k len' : Nat} {zs cells news : List Value} {v : Value} {Hs H0 : Hp} {ay : Option Addr} {capy : Nat} {tys : Array TypeId}
    (hg : gd ops env g = some true) (hd : Nat.blt dd n = true) (hT : tys = #[T, T']) (ht : P.underlying T = some (.slice E)) (ht' : P.underlying T' = some (.slice D)) (hs : sizeIs P E s) (hb : bytesIs P E k) (hz : zeroIs P E zs) (hzs : zs.length = s) (hs0 : 0 < s)
    (hx : ev env x = some v) (hown : Own v s E cells Hs) (hH : H.Perm (Hs ++ H0)) (hy : ev env y = some (.slice ay len' capy)) (hl : news.length = len' * s) (hr : len' = 0 ∨ ∃ b o, ay = some ⟨b, o, none⟩ ∧ Row m H b o news) (h1 : ∀ u ∈ news, u.oneCell' = true)
    (hbd : (cells.length + news.length) * k ≤ 140737488355328 * s) (hcl : (cells.length + news.length) ≤ 4611686018427387904 * s)
    (h : ∀ v' Hs', Own v' s E (cells ++ news) Hs' → WL P n K ops Q rest ((dd, v') :: env) m (Hs' ++ H0)) : WL P n K ops Q (⟨some dd, .call ⟨.builtin .append, [x, y].toArray, tys⟩, ty, pos, aft, g⟩ :: rest) env m H := by
  subst hT
  obtain ⟨i, z, hi, hi1, hi2, hi3, hi4⟩ := info_of hs hb hz
  intro a w ha hst
  have hst2 : St K m (Hs ++ H0) w := hst.perm hH
  unfold wpList
  rw [if_pos (ha.wanted hg)]
  refine .inl ?_
  -- the new cells can be read
  have hnews : (Builtin.firstCells i.size len' (.slice ay len' capy)).run P w = .ok news.toArray w := by
    rw [hi1]
    rcases hr with h0 | ⟨b, o, rfl, hrow⟩
    · subst h0
      have : news = [] := List.length_eq_zero_iff.1 (by simpa using hl)
      subst this
      cases ay <;> simp [Builtin.firstCells, loadCells, loadCellsFrom]
    · exact firstCells_row hrow hst.mem hst.heap hl
  have hnews' : (Builtin.firstCells i.size len' (.slice ay len' capy)).run P w.drew = .ok news.toArray w.drew := by
    rw [hi1]
    rcases hr with h0 | ⟨b, o, rfl, hrow⟩
    · subst h0
      have : news = [] := List.length_eq_zero_iff.1 (by simpa using hl)
      subst this
      cases ay <;> simp [Builtin.firstCells, loadCells, loadCellsFrom]
    · exact firstCells_row hrow hst.mem hst.heap hl
  have drawSt : ∀ (H : Hp), St K m H w → St K m H w.drew := fun H h => { h with }
  -- what the operation gives
  have main : ∀ (base : Option Addr) (len cap : Nat) (xs : List Value), v = .slice base len cap → len ≤ cap → cells.length = len * s → xs.take (len * s) = cells → xs.length = cap * s →
      ((base = none ∧ cap = 0 ∧ Hs = []) ∨ ∃ b, base = some ⟨b, 0, none⟩ ∧ Hs = [(b, cl E xs)]) →
      ∃ v' w', (execOp a.eval ⟨some dd, .call ⟨.builtin .append, [x, y].toArray, #[T, T']⟩, ty, pos, aft, g⟩).run P w = .ok (.value v') w' ∧ ∃ Hs', Own v' s E (cells ++ news) Hs' ∧ St K m (Hs' ++ H0) w' := by
    intro base len cap xs hv hlc hcl1 htake hxl hbase
    subst hv
    have hlen63 : len + len' ≤ 4611686018427387904 := by
      have e : cells.length + news.length = (len + len') * s := by rw [hcl1, hl, Nat.add_mul]
      rw [e] at hcl
      exact Nat.le_of_mul_le_mul_right hcl hs0
    have hbytes : (len + len') * i.bytes ≤ 140737488355328 := by
      have e : cells.length + news.length = (len + len') * s := by rw [hcl1, hl, Nat.add_mul]
      rw [e] at hbd
      rw [hi2]
      have : ((len + len') * k) * s ≤ 140737488355328 * s := by rw [Nat.mul_right_comm]; exact hbd
      exact Nat.le_of_mul_le_mul_right this hs0
    have hex : (execOp a.eval ⟨some dd, .call ⟨.builtin .append, [x, y].toArray, #[T, T']⟩, ty, pos, aft, g⟩).run P w = ((Builtin.append_ #[T, T'] ty #[.slice base len cap, .slice ay len' capy]).run P w).andThen fun r w' => .ok (.value r) w' := by
      simp [execOp, resolve, invoke, builtin, ha.ev hx, ha.ev hy]
    by_cases hfit : len + len' ≤ cap
    · -- there is room
      rcases hbase with ⟨rfl, rfl, rfl⟩ | ⟨b, rfl, rfl⟩
      · have h0 : len = 0 ∧ len' = 0 := by omega
        obtain ⟨rfl, rfl⟩ := h0
        have hn : news = [] := List.length_eq_zero_iff.1 (by simpa using hl)
        have hc : cells = [] := List.length_eq_zero_iff.1 (by simpa using hcl1)
        subst hn; subst hc
        refine ⟨.slice none 0 0, w, ?_, [], Own.nil s E, hst2⟩
        rw [hex]
        simp [Builtin.append_, underlying, ht, ht', typeInfo, hi, sizeOf, Builtin.lenOf, hnews]
      · have hbk : w.heap[b]? = some (cl E xs) := hst2.heap b _ (.head _)
        obtain ⟨w', hrun, e1, e2, e3, e4, e5, e6⟩ := run_storeCells' (P := P) (b := b) (T := E) news (len * s) 0 xs w hbk (by rw [hxl, hl, Nat.add_zero, ← Nat.add_mul]; exact Nat.mul_le_mul_right _ hfit) h1
        have hst3 : St K m ((b, cl E (splice xs (len * s) news)) :: H0) w' := St.write hst2 e1 e2 e3 e4 (by simpa using e5) e6
        refine ⟨.slice (some ⟨b, 0, none⟩) (len + len') cap, w', ?_, _, .inr ⟨b, len + len', cap, splice xs (len * s) news, rfl, hfit, by simp [hcl1, hl, Nat.add_mul], by rw [splice_length, hxl], ?_, rfl⟩, hst3⟩
        · rw [hex]
          have hadd : (⟨b, 0, none⟩ : Addr).add (len * i.size) = ⟨b, len * s, none⟩ := by rw [add_none, hi1, Nat.zero_add]
          simp [Builtin.append_, underlying, ht, ht', typeInfo, hi, sizeOf, Builtin.lenOf, hnews, hfit, hadd, hrun]
        · have hle : len * s + news.length ≤ xs.length := by rw [hxl, hl, ← Nat.add_mul]; exact Nat.mul_le_mul_right _ hfit
          have hle2 : len * s ≤ xs.length := by omega
          rw [splice_eq news xs (len * s) hle, htake, Nat.add_mul, ← hl, ← hcl1]
          rw [show cells.length + news.length = (cells ++ news).length by simp, List.take_left']
          simp
    · -- a new row
      have hnp : Builtin.nextslicecap (len + len') cap * i.bytes ≤ 281474976710656 := by
        have := nextcap_le (need := len + len') (cap := cap) (by omega)
        have h2 := Nat.mul_le_mul_right i.bytes this
        rw [Nat.mul_assoc] at h2
        omega
      have hold : (Builtin.firstCells i.size len (.slice base len cap)).run P w.drew = .ok cells.toArray w.drew := by
        rw [hi1]
        rcases hbase with ⟨rfl, rfl, rfl⟩ | ⟨b, rfl, rfl⟩
        · have : len = 0 := by omega
          subst this
          have hc : cells = [] := List.length_eq_zero_iff.1 (by simpa using hcl1)
          subst hc
          simp [Builtin.firstCells]
        · refine firstCells_row (m := m) (H := [(b, cl E xs)]) (rowH (.head _) fun j hj => ?_) hst2.mem (fun b' o' hb' => hst2.heap b' o' (List.mem_append_left _ hb')) hcl1
          rw [Nat.zero_add, ← htake, List.getElem?_take, if_pos (by omega)]
      have hq : (Question.appendCap (len + len') cap E).forced = false := rfl
      refine ⟨.slice (some ⟨w.heap.size, 0, none⟩) (len + len') ((Question.appendCap (len + len') cap E).cut (w.tape w.drawn (Question.appendCap (len + len') cap E))),
        World.alloc w.drew (cl E (cells ++ news ++ reps ((Question.appendCap (len + len') cap E).cut (w.tape w.drawn (Question.appendCap (len + len') cap E)) - (len + len')) zs)), ?_, _,
        .inr ⟨w.heap.size, len + len', _, cells ++ news ++ reps ((Question.appendCap (len + len') cap E).cut (w.tape w.drawn (Question.appendCap (len + len') cap E)) - (len + len')) zs, rfl, ?_, by simp [hcl1, hl, Nat.add_mul], ?_, ?_, rfl⟩, ?_⟩
      · rw [hex]
        have hnp' : ¬ (281474976710656 < Builtin.nextslicecap (len + len') cap * i.bytes) := by omega
        have h63 : ¬ (9223372036854775807 < (len : Int) + (len' : Int)) := by omega
        have hz' : (zeroValue E).run P w.drew = .ok z w.drew := by simp [zeroValue, typeInfo, hi, hi3]
        have hzc : ∀ q, Builtin.zeroCells z.cells q = (reps q zs).toArray := fun q => by
          unfold Builtin.zeroCells
          rw [hi4]
          have := range_reps zs q
          simpa using this
        simp [Builtin.append_, underlying, ht, ht', typeInfo, hi, sizeOf, Builtin.lenOf, hfit, hnp', h63, choose, Sem.run, hq, hold, hnews', hz', hzc, newRow, cl, askRoom]
      · simp only [Question.cut]; omega
      · have hge : len + len' ≤ (Question.appendCap (len + len') cap E).cut (w.tape w.drawn (Question.appendCap (len + len') cap E)) := by simp only [Question.cut]; omega
        simp only [List.length_append, reps_length, hzs, hcl1, hl]
        rw [← Nat.add_mul, ← Nat.add_mul]
        congr 1
        omega
      · rw [Nat.add_mul, ← hl, ← hcl1, show cells.length + news.length = (cells ++ news).length by simp, List.take_left']
        rfl
      · have hst4 := (drawSt (Hs ++ H0) hst2).alloc (cl E (cells ++ news ++ reps ((Question.appendCap (len + len') cap E).cut (w.tape w.drawn (Question.appendCap (len + len') cap E)) - (len + len')) zs))
        refine hst4.sub (fun b' o' hb' => ?_) ?_
        · rcases List.mem_cons.1 hb' with hb' | hb'
          · rw [hb']; exact .head _
          · exact .tail _ (List.mem_append_right _ hb')
        · have hnd := hst4.nodup
          unfold keys at hnd ⊢
          rw [List.map_cons, List.map_append, List.nodup_cons, List.nodup_append] at hnd
          rw [List.cons_append, List.nil_append, List.map_cons, List.nodup_cons]
          exact ⟨fun hmem => hnd.1 (List.mem_append_right _ hmem), hnd.2.2.1⟩
  have fin : ∃ v' w', (execOp a.eval ⟨some dd, .call ⟨.builtin .append, [x, y].toArray, #[T, T']⟩, ty, pos, aft, g⟩).run P w = .ok (.value v') w' ∧ ∃ Hs', Own v' s E (cells ++ news) Hs' ∧ St K m (Hs' ++ H0) w' := by
    rcases hown with ⟨rfl, rfl, rfl⟩ | ⟨b, len, cap, xs, rfl, h2, h3, h4, h5, rfl⟩
    · exact main none 0 0 [] rfl (Nat.le_refl _) (by simp) (by simp) (by simp) (.inl ⟨rfl, rfl, rfl⟩)
    · exact main _ len cap xs rfl h2 h3 h5 h4 (.inr ⟨b, rfl, rfl⟩)
  obtain ⟨v', w', hrun, Hs', ho, hst'⟩ := fin
  unfold Oper.wp
  rw [hrun, Oper.upon_value]
  exact h v' Hs' ho _ w' (ha.put v' hd) hst'

theorem wl_copy {T T' E : TypeId} {s k dl dc c b o : Nat} {xs news : List Value} {a1 : Option Addr} {H0 : Hp} {tys : Array TypeId}
    (hg : gd ops env g = some true) (hd : Nat.blt dd n = true) (hT : tys = #[T, T']) (ht : P.underlying T = some (.slice E)) (hs : sizeIs P E s)
    (hx : ev env x = some (.slice (some ⟨b, o, none⟩) dl dc)) (hy : ev env y = some (.slice a1 k c)) (hH : H = (b, cl E xs) :: H0) (hkd : k ≤ dl) (hl : news.length = k * s) (hr : k = 0 ∨ ∃ b' o', a1 = some ⟨b', o', none⟩ ∧ Row m H b' o' news) (h1 : ∀ u ∈ news, u.oneCell' = true) (ho : o + news.length ≤ xs.length)
    (h : WL P n K ops Q rest ((dd, .int .i64 k) :: env) m ((b, cl E (splice xs o news)) :: H0)) : WL P n K ops Q (⟨some dd, .call ⟨.builtin .copy, [x, y].toArray, tys⟩, ty, pos, aft, g⟩ :: rest) env m H := by
  subst hT; subst hH
  intro a w ha hst
  unfold wpList
  rw [if_pos (ha.wanted hg)]
  refine .inl ?_
  have hnews : (Builtin.firstCells s k (.slice a1 k c)).run P w = .ok news.toArray w := by
    rcases hr with h0 | ⟨b', o', rfl, hrow⟩
    · subst h0
      have : news = [] := List.length_eq_zero_iff.1 (by simpa using hl)
      subst this
      cases a1 <;> simp [Builtin.firstCells, loadCells, loadCellsFrom]
    · exact firstCells_row hrow hst.mem hst.heap hl
  obtain ⟨w', hrun, e1, e2, e3, e4, e5, e6⟩ := run_storeCells' (P := P) (b := b) (T := E) news o 0 xs w (hst.heap b _ (.head _)) (by simpa using ho) h1
  have hmin : Nat.min k dl = k := Nat.min_eq_left hkd
  have hx' : (execOp a.eval ⟨some dd, .call ⟨.builtin .copy, [x, y].toArray, #[T, T']⟩, ty, pos, aft, g⟩).run P w = .ok (.value (.int .i64 k)) w' := by
    simp [execOp, resolve, invoke, builtin, ha.ev hx, ha.ev hy, Builtin.copy_, underlying, ht, Builtin.lenOf, run_sizeOf hs, hmin, hnews, hrun, goInt]
  unfold Oper.wp
  rw [hx', Oper.upon_value]
  exact h _ w' (ha.put _ hd) (St.write hst e1 e2 e3 e4 (by simpa using e5) e6)

theorem run_equalIn_bool (w : World) (dp : Nat) {T : TypeId} (ht : P.underlying T = some .bool) (b c : Bool) : (Op.equalIn (dp + 1) T (.bool b) (.bool c)).run P w = .ok (b == c) w := by
  simp [Op.equalIn, run_underlying ht]
theorem run_equal_bool (w : World) {T : TypeId} (ht : P.underlying T = some .bool) (b c : Bool) : (Op.equal T (.bool b) (.bool c)).run P w = .ok (b == c) w := run_equalIn_bool w 9999 ht b c
theorem x_eqlB {T T' : TypeId} {d : Option Nat} {b c : Bool} (ht : P.underlying T = some .bool) (hx : ev env x = some (.bool b)) (hy : ev env y = some (.bool c)) : Ex P n ⟨d, .binOp .eql T x y T', ty, pos, aft, g⟩ env m H (.bool (b == c)) := fun a w ha _ _ => by
  have h1 : binOp .eql T (.bool b) (.bool c) = (do pure (.bool (← Op.equal T (.bool b) (.bool c)))) := rfl
  simp only [execOp, ha.ev hx, ha.ev hy, eqGuard, h1]
  simp [run_equal_bool w ht]
theorem x_neqB {T T' : TypeId} {d : Option Nat} {b c : Bool} (ht : P.underlying T = some .bool) (hx : ev env x = some (.bool b)) (hy : ev env y = some (.bool c)) : Ex P n ⟨d, .binOp .neq T x y T', ty, pos, aft, g⟩ env m H (.bool (b != c)) := fun a w ha _ _ => by
  have h1 : binOp .neq T (.bool b) (.bool c) = (do pure (.bool (!(← Op.equal T (.bool b) (.bool c))))) := rfl
  simp only [execOp, ha.ev hx, ha.ev hy, eqGuard, h1]
  simp [run_equal_bool w ht]
  cases b <;> cases c <;> rfl
end

/-! ### Bits -/
theorem ofInt_nat (k a : Nat) : BitVec.ofInt k (a : Int) = BitVec.ofNat k a := by
  apply BitVec.eq_of_toNat_eq
  simp
theorem and_u32 {a b : Nat} (ha : a < 4294967296) : IntKind.u32.wrap ((BitVec.ofInt (IntKind.bits .u32) (a : Int) &&& BitVec.ofInt (IntKind.bits .u32) (b : Int)).toNat : Int) = ((a &&& b : Nat) : Int) := by
  have h : (BitVec.ofInt (IntKind.bits .u32) (a : Int) &&& BitVec.ofInt (IntKind.bits .u32) (b : Int)).toNat = a &&& b := by
    rw [ofInt_nat, ofInt_nat]
    simp only [BitVec.toNat_and, BitVec.toNat_ofNat]
    rw [show (2 : Nat) ^ IntKind.bits .u32 = 2 ^ 32 from rfl, ← Nat.and_mod_two_pow, Nat.mod_eq_of_lt]
    exact Nat.lt_of_le_of_lt Nat.and_le_left ha
  have h2 : a &&& b ≤ a := Nat.and_le_left
  rw [h, wrap_u32_in (by omega) (by omega)]
theorem or_u32 {a b : Nat} (ha : a < 4294967296) (hb : b < 4294967296) : IntKind.u32.wrap ((BitVec.ofInt (IntKind.bits .u32) (a : Int) ||| BitVec.ofInt (IntKind.bits .u32) (b : Int)).toNat : Int) = ((a ||| b : Nat) : Int) := by
  have hlt : a ||| b < 2 ^ 32 := Nat.or_lt_two_pow ha hb
  have h : (BitVec.ofInt (IntKind.bits .u32) (a : Int) ||| BitVec.ofInt (IntKind.bits .u32) (b : Int)).toNat = a ||| b := by
    rw [ofInt_nat, ofInt_nat]
    simp only [BitVec.toNat_or, BitVec.toNat_ofNat]
    rw [show (2 : Nat) ^ IntKind.bits .u32 = 2 ^ 32 from rfl, Nat.mod_eq_of_lt ha, Nat.mod_eq_of_lt hb]
  rw [h, wrap_u32_in (by omega) (by omega)]
theorem xor_u32 {a b : Nat} (ha : a < 4294967296) (hb : b < 4294967296) : IntKind.u32.wrap ((BitVec.ofInt (IntKind.bits .u32) (a : Int) ^^^ BitVec.ofInt (IntKind.bits .u32) (b : Int)).toNat : Int) = ((a ^^^ b : Nat) : Int) := by
  have hlt : a ^^^ b < 2 ^ 32 := Nat.xor_lt_two_pow ha hb
  have h : (BitVec.ofInt (IntKind.bits .u32) (a : Int) ^^^ BitVec.ofInt (IntKind.bits .u32) (b : Int)).toNat = a ^^^ b := by
    rw [ofInt_nat, ofInt_nat]
    simp only [BitVec.toNat_xor, BitVec.toNat_ofNat]
    rw [show (2 : Nat) ^ IntKind.bits .u32 = 2 ^ 32 from rfl, Nat.mod_eq_of_lt ha, Nat.mod_eq_of_lt hb]
  rw [h, wrap_u32_in (by omega) (by omega)]
section
variable {P : Program} {n : Nat} {env : Env} {m : Mem} {H : Hp} {d : Option Nat} {ty : TypeId} {pos : String} {aft : Array Edge} {g : Option (Nat × Bool)} {x : Operand}
theorem x_bnot32 {T : TypeId} {a : Nat} (ha : a < 4294967296) (hx : ev env x = some (.int .u32 a)) : Ex P n ⟨d, .unOp .xor T x, ty, pos, aft, g⟩ env m H (.int .u32 ((4294967295 ^^^ a : Nat) : Int)) := fun b w hb _ _ => by
  have h := xor_u32 (a := 4294967295) (b := a) (by omega) ha
  have e : (execOp b.eval ⟨d, .unOp .xor T x, ty, pos, aft, g⟩).run P w = .ok (.value (.int .u32 (IntKind.u32.wrap ((BitVec.ofInt (IntKind.bits .u32) ((4294967295 : Nat) : Int) ^^^ BitVec.ofInt (IntKind.bits .u32) (a : Int)).toNat : Int)))) w := by
    simp only [execOp, hb.ev hx]
    rfl
  rw [e, h]
end
theorem borrow32 {x y b : Nat} (hx : x < 4294967296) (hy : y < 4294967296) (hb : b ≤ 1) : (((4294967295 ^^^ x) &&& y) ||| ((4294967295 ^^^ (x ^^^ y)) &&& ((x + 8589934592 - y - b) % 4294967296))) / 2147483648 = if x < y + b then 1 else 0 := by
  have sh : ∀ a : Nat, a / 2147483648 = a >>> 31 := fun a => by rw [Nat.shiftRight_eq_div_pow]
  rw [sh, Nat.shiftRight_or_distrib, Nat.shiftRight_and_distrib, Nat.shiftRight_and_distrib, Nat.shiftRight_xor_distrib, Nat.shiftRight_xor_distrib, Nat.shiftRight_xor_distrib]
  simp only [← sh]
  have hx1 : x / 2147483648 = 0 ∨ x / 2147483648 = 1 := by omega
  have hy1 : y / 2147483648 = 0 ∨ y / 2147483648 = 1 := by omega
  generalize hD : (x + 8589934592 - y - b) % 4294967296 = D
  have hD1 : D / 2147483648 = 0 ∨ D / 2147483648 = 1 := by omega
  rcases hx1 with h1 | h1 <;> rcases hy1 with h2 | h2 <;> rcases hD1 with h3 | h3 <;> rw [h1, h2, h3] <;> simp <;> omega

section
variable {P : Program} {n : Nat} {K : Ctx} {Q : Exit → Act → World → Prop} {env : Env} {m : Mem} {H : Hp} {ops : Array Oper} {rest : List Oper}
variable {ty : TypeId} {pos : String} {aft : Array Edge} {g : Option (Nat × Bool)} {x y : Operand} {v : Value}
theorem wl_storeAs {T E : TypeId} {b o : Nat} {xs xs' : List Value} (hg : gd ops env g = some true) (hs : sizeIs P T 1) (hx : ev env x = some (.pointer (some ⟨b, o, none⟩))) (hy : ev env y = some v) (hv : v.oneCell' = true) (ho : o < xs.length) (he : xs.set o v = xs')
    (h : WL P n K ops Q rest env m ((b, cl E xs') :: H)) : WL P n K ops Q (⟨none, .store T x y, ty, pos, aft, g⟩ :: rest) env m ((b, cl E xs) :: H) :=
  wl_store hg hs hx hy hv ho (by rw [he]; exact h)
end
theorem or_hi64 {a b : Nat} (ha : a < 4294967296) (hb : b < 4294967296) : IntKind.u64.wrap ((BitVec.ofInt (IntKind.bits .u64) ((a * 4294967296 : Nat) : Int) ||| BitVec.ofInt (IntKind.bits .u64) (b : Int)).toNat : Int) = ((a * 4294967296 + b : Nat) : Int) := by
  have h : (BitVec.ofInt (IntKind.bits .u64) ((a * 4294967296 : Nat) : Int) ||| BitVec.ofInt (IntKind.bits .u64) (b : Int)).toNat = a * 4294967296 + b := by
    rw [ofInt_nat, ofInt_nat]
    simp only [BitVec.toNat_or, BitVec.toNat_ofNat]
    rw [show (2 : Nat) ^ IntKind.bits .u64 = 18446744073709551616 from rfl, Nat.mod_eq_of_lt (by omega), Nat.mod_eq_of_lt (by omega)]
    have := Nat.shiftLeft_add_eq_or_of_lt (i := 32) (b := b) (by omega) a
    rw [Nat.shiftLeft_eq, show (2 : Nat) ^ 32 = 4294967296 from rfl] at this
    exact this.symm
  rw [h, wrap_u64_in (by omega) (by omega)]
theorem shl_32_64 {a : Nat} (ha : a < 4294967296) : IntKind.u64.wrap ((a : Int) * 2 ^ (min ((32 : Int).toNat) (IntKind.bits .u64))) = ((a * 4294967296 : Nat) : Int) := by
  rw [show (2 : Int) ^ (min ((32 : Int).toNat) (IntKind.bits .u64)) = 4294967296 from rfl, wrap_u64_in (by omega) (by omega)]
  omega
theorem offTo_lt {b o lo s cap : Nat} (h : lo < cap) : offTo (some ⟨b, o, none⟩) lo s cap = some ⟨b, o + lo * s, none⟩ := by
  unfold offTo
  rw [if_neg (by omega)]
  simp [add_none]
theorem x_sliceAs {P : Program} {n : Nat} {env : Env} {m : Mem} {H : Hp} {d : Option Nat} {ty : TypeId} {pos : String} {aft : Array Edge} {g : Option (Nat × Bool)} {x : Operand} {T E : TypeId} {s len cap lo hi L C : Nat} {a0 p : Option Addr} {x1 x2 : Option Operand} (ht : P.underlying T = some (.slice E)) (hs : sizeIs P E s) (hx : ev env x = some (.slice a0 len cap))
    (hlo : match x1 with | none => lo = 0 | some y => ∃ k, ev env y = some (.int k lo)) (hhi : match x2 with | none => hi = len | some y => ∃ k, ev env y = some (.int k hi)) (h1 : lo ≤ hi) (h2 : hi ≤ cap) (hp : offTo a0 lo s cap = p) (hL : hi - lo = L) (hC : cap - lo = C) :
    Ex P n ⟨d, .slice T x x1 x2 none, ty, pos, aft, g⟩ env m H (.slice p L C) := by
  subst hp; subst hL; subst hC; exact x_slice ht hs hx hlo hhi h1 h2
def blen (n : Nat) : Nat := if n = 0 then 0 else Nat.log2 n + 1
theorem blen_le {n k : Nat} : blen n ≤ k ↔ n < 2 ^ k := by
  unfold blen
  split
  · rename_i h; subst h; simp [Nat.pow_pos]
  · rename_i h
    rw [← Nat.log2_lt h]; omega
theorem blen_eq {n k : Nat} (h1 : 2 ^ k ≤ n) (h2 : n < 2 ^ (k + 1)) : blen n = k + 1 := by
  have a := blen_le.2 h2
  have b : ¬ blen n ≤ k := fun h => by have := blen_le.1 h; omega
  omega
theorem blen_lt (n : Nat) : n < 2 ^ blen n := blen_le.1 (Nat.le_refl _)
theorem blen_ge {n : Nat} (h : n ≠ 0) : 2 ^ (blen n - 1) ≤ n := by
  unfold blen
  rw [if_neg h, Nat.add_sub_cancel]
  exact Nat.log2_self_le h
theorem blen_shr {n k : Nat} (h : 2 ^ k ≤ n) : blen n = blen (n / 2 ^ k) + k := by
  have hp : 0 < 2 ^ k := Nat.pow_pos (by omega)
  have h0 : n / 2 ^ k ≠ 0 := by rw [Nat.div_ne_zero_iff]; omega
  have h1 := blen_ge h0
  have h2 := blen_lt (n / 2 ^ k)
  have h3 : blen (n / 2 ^ k) ≠ 0 := fun e => by rw [e, Nat.pow_zero] at h2; exact h0 (Nat.lt_one_iff.1 h2)
  obtain ⟨j, hj⟩ : ∃ j, blen (n / 2 ^ k) = j + 1 := ⟨blen (n / 2 ^ k) - 1, by omega⟩
  rw [hj] at h1 h2 ⊢
  rw [show j + 1 + k = (j + k) + 1 by omega]
  refine blen_eq ?_ ?_
  · rw [Nat.pow_add]
    exact Nat.le_trans (Nat.mul_le_mul_right _ h1) (Nat.div_mul_le_self _ _)
  · rw [show j + k + 1 = (j + 1) + k by omega, Nat.pow_add]
    exact (Nat.div_lt_iff_lt_mul hp).1 h2
def lenTab (s : ByteArray) : Bool := s.size == 256 && (List.range 256).all fun i => (s.get! i).toNat == blen i
theorem x_indexLen {P : Program} {n : Nat} {env : Env} {m : Mem} {H : Hp} {d : Option Nat} {ty : TypeId} {pos : String} {aft : Array Edge} {g : Option (Nat × Bool)} {x y : Operand} {T : TypeId} {s : ByteArray} {j : Nat} {k : IntKind} {p : Int} (ht : P.underlying T = some .string) (hx : ev env x = some (.string s)) (hy : ev env y = some (.int k p)) (hp : p = (j : Int)) (hj : j < 256) (hs : lenTab s = true) :
    Ex P n ⟨d, .index T x y, ty, pos, aft, g⟩ env m H (.int .u8 (blen j)) := by
  simp only [lenTab, Bool.and_eq_true, beq_iff_eq, List.all_eq_true, List.mem_range] at hs
  have h1 : j < s.size := by omega
  have h2 := x_indexS (d := d) (ty := ty) (pos := pos) (aft := aft) (g := g) (n := n) (m := m) (H := H) ht hx hy hp h1
  have h3 : s[j].toNat = blen j := by
    rw [← hs.2 j hj]
    simp [ByteArray.get!, ByteArray.getElem_eq_getElem_data, h1]
  rw [h3] at h2
  exact h2
theorem w_scope {P : Program} {n : Nat} {K : Ctx} {Q : Exit → Act → World → Prop} {env : Env} {m : Mem} {H : Hp} {c : Code} (h : W P n K c (Exit.noGoto Q) env m H) : W P n K (.scope c) Q env m H := fun a w ha hs => wp_scope_straight (h a w ha hs)
theorem at_scope_ret {n : Nat} {K : Ctx} {Q : Exit → Act → World → Prop} {env : Env} {m : Mem} {H : Hp} (h : At n K Q .ret env m H) : At n K (Exit.noGoto Q) .ret env m H := h
/-! Short forms of the frequent steps. -/
section
variable {P : Program} {n : Nat} {K : Ctx} {Q : Exit → Act → World → Prop} {ops : Array Oper} {rest : List Oper} {env : Env} {m : Mem} {H : Hp} {d : Nat} {v : Value} {x : Operand} {ty : TypeId} {pos : String} {aft : Array Edge} {g : Option (Nat × Bool)}
theorem wv {o : Oper} (hx : Ex P n o env m H v) (h : WL P n K ops Q rest ((d, v) :: env) m H) (hg : gd ops env o.guard = some true := by exact rfl) (ho : o.dst = some d := by exact rfl) (hd : Nat.blt d n = true := by exact rfl) : WL P n K ops Q (o :: rest) env m H := wl_val hg ho hd hx h
theorem wmv (h : WL P n K ops Q rest ((d, v) :: env) m H) (hx : ev env x = some v := by exact rfl) (hg : gd ops env g = some true := by exact rfl) (hd : Nat.blt d n = true := by exact rfl) : WL P n K ops Q (⟨some d, .move x, ty, pos, aft, g⟩ :: rest) env m H := wl_val hg rfl hd (x_move hx) h
theorem was (h : WL P n K ops Q rest ((d, v) :: env) m H) (hx : ev env x = some v := by exact rfl) (hg : gd ops env g = some true := by exact rfl) (hd : Nat.blt d n = true := by exact rfl) : WL P n K ops Q (⟨some d, .assign x, ty, pos, aft, g⟩ :: rest) env m H := wl_val hg rfl hd (x_assign hx) h
theorem wex {vs : List Value} {i : Nat} (h : WL P n K ops Q rest ((d, v) :: env) m H) (hx : ev env x = some (.tuple vs.toArray) := by exact rfl) (hi : vs[i]? = some v := by exact rfl) (hg : gd ops env g = some true := by exact rfl) (hd : Nat.blt d n = true := by exact rfl) : WL P n K ops Q (⟨some d, .extract x i, ty, pos, aft, g⟩ :: rest) env m H := wl_val hg rfl hd (x_extract hx hi) h
theorem wns {y : Code} (h : W P n K y Q env m H) : WL P n K ops (Exit.then (fun a w => y.wp P Q a w) Q) [] env m H := wl_nil (at_seq h)
theorem wsr {id : Nat} {l : List Oper} {y : Code} (h : WL P n K l.toArray (Exit.then (fun a w => y.wp P Q a w) Q) l env m H) : W P n K (.seq (.region id l.toArray false) y) Q env m H := w_seq (w_region h)
theorem wnr {id : Nat} {l : List Oper} {y : Code} (h : WL P n K l.toArray (Exit.then (fun a w => y.wp P Q a w) Q) l env m H) : WL P n K ops (Exit.then (fun a w => (Code.seq (.region id l.toArray false) y).wp P Q a w) Q) [] env m H := wl_nil (at_seq (w_seq (w_region h)))
end
end Go.Cy
