/- The calculus, further: strings. -/
import Derived.Test.YtmamkgbldaehgaaGreatDoorCyCal2
import Derived.Laws.BytesString
import Derived.Laws.BytesArg
import Derived.Laws.Strings
namespace Go.Cy
open Go

/-- A string of these bytes. -/
def B (l : List UInt8) : ByteArray := ⟨l.toArray⟩
theorem B_size (l : List UInt8) : (B l).size = l.length := by simp [B, ByteArray.size]
theorem B_append (x y : List UInt8) : B x ++ B y = B (x ++ y) := by
  apply ByteArray.ext
  simp [B, ByteArray.data_append]
theorem B_toList (l : List UInt8) : (B l).toList = l := by
  rw [ByteArray.toList_eq]
  simp [B]
theorem B_inj {x y : List UInt8} (h : B x = B y) : x = y := by
  have := congrArg (fun s => s.data.toList) h
  simpa [B] using this
def bsv (l : List UInt8) : List Value := l.map fun b => Value.int .u8 (b.toNat : Int)
def ssv (s : ByteArray) : List Value := s.data.toList.map fun b => Value.int .u8 (b.toNat : Int)
theorem ssv_B (l : List UInt8) : ssv (B l) = bsv l := by simp [ssv, bsv, B]
theorem bsv_length (l : List UInt8) : (bsv l).length = l.length := by simp [bsv]
theorem bsv_append (x y : List UInt8) : bsv (x ++ y) = bsv x ++ bsv y := by simp [bsv]
theorem bsv_one (l : List UInt8) : ∀ u ∈ bsv l, u.oneCell' = true := by
  intro u hu
  simp only [bsv, List.mem_map] at hu
  obtain ⟨d, _, rfl⟩ := hu
  rfl
theorem bsv_at {l : List UInt8} {junk : List Value} {o k : Nat} (h : k < l.length) (e : o = k) : (bsv l ++ junk)[o]? = some (.int .u8 (l[k].toNat : Int)) := by
  subst e
  rw [List.getElem?_append_left (by simpa [bsv] using h)]
  simp [bsv, h]
theorem bsv_setAs {l : List UInt8} {junk : List Value} {o k : Nat} {y : UInt8} (h : k < l.length) (e : o = k) : (bsv l ++ junk).set o (.int .u8 (y.toNat : Int)) = bsv (l.set k y) ++ junk := by
  subst e
  rw [List.set_append_left _ _ (by simpa [bsv] using h)]
  simp [bsv, List.map_set]
theorem bsv_snoc (x : List UInt8) (b : UInt8) : bsv (x ++ [b]) = bsv x ++ [.int .u8 (b.toNat : Int)] := by simp [bsv]
theorem extract_all (s : ByteArray) : s.extract 0 s.size = s := by
  simp
theorem foldl_bytes : ∀ (l acc : List UInt8), (l.map fun b => (b.toNat : Int)).foldl (fun (r : ByteArray) n => r.push (UInt8.ofNat n.toNat)) (B acc) = B (acc ++ l)
  | [], acc => by simp
  | b :: l, acc => by
    have e : (B acc).push (UInt8.ofNat ((b.toNat : Int)).toNat) = B (acc ++ [b]) := by
      apply ByteArray.ext
      simp [B, ByteArray.push]
    rw [List.map_cons, List.foldl_cons, e, foldl_bytes l (acc ++ [b])]
    simp

/-- The ten digits. -/
def symTab (s : ByteArray) : Bool := Nat.ble 10 s.size && (List.range 10).all fun i => s.get! i == UInt8.ofNat (48 + i)
theorem x_indexSym {P : Program} {n : Nat} {env : Env} {m : Mem} {H : Hp} {d : Option Nat} {ty : TypeId} {pos : String} {aft : Array Edge} {g : Option (Nat × Bool)} {x y : Operand} {T : TypeId} {s : ByteArray} {j : Nat} {k : IntKind} {p : Int} (ht : P.underlying T = some .string) (hx : ev env x = some (.string s)) (hy : ev env y = some (.int k p)) (hp : p = (j : Int)) (hj : j < 10) (hs : symTab s = true) :
    Ex P n ⟨d, .index T x y, ty, pos, aft, g⟩ env m H (.int .u8 ((UInt8.ofNat (48 + j)).toNat : Int)) := by
  simp only [symTab, Bool.and_eq_true, beq_iff_eq, List.all_eq_true, List.mem_range] at hs
  have h0 := Nat.le_of_ble_eq_true hs.1
  have h1 : j < s.size := by omega
  have h2 := x_indexS (d := d) (ty := ty) (pos := pos) (aft := aft) (g := g) (n := n) (m := m) (H := H) ht hx hy hp h1
  have h3 : s[j] = UInt8.ofNat (48 + j) := by
    rw [← hs.2 j hj]
    simp [ByteArray.get!, ByteArray.getElem_eq_getElem_data, h1]
  rw [h3] at h2
  exact h2

section
variable {P : Program} {n : Nat} {K : Ctx} {Q : Exit → Act → World → Prop} {env : Env} {m : Mem} {H : Hp} {ops : Array Oper} {rest : List Oper}
variable {dd : Nat} {d : Option Nat} {ty : TypeId} {pos : String} {aft : Array Edge} {g : Option (Nat × Bool)} {x y : Operand}
/-- The string of bytes. -/
theorem x_strOf {T t E : TypeId} {a0 : Option Addr} {len cap : Nat} {l : List UInt8} (ht : P.underlying T = some (.slice E)) (he : P.underlying E = some (.int .u8)) (ht' : P.underlying t = some .string)
    (hx : ev env x = some (.slice a0 len cap)) (hl : l.length = len) (hr : len = 0 ∨ ∃ b o, a0 = some ⟨b, o, none⟩ ∧ Row m H b o (bsv l)) : Ex P n ⟨d, .convert T t x, ty, pos, aft, g⟩ env m H (.string (B l)) := fun a w ha hf hh => by
  have h1 : (convert T t (.slice a0 len cap)).run P w = .ok (.string (B l)) w := by
    rw [run_convert_bytes_string w T t E _ len cap ht he ht']
    rcases hr with h0 | ⟨b, o, rfl, hrow⟩
    · subst h0
      have : l = [] := List.length_eq_zero_iff.1 hl
      subst this
      cases a0 <;> simp [Conv.bytesToString, loadCells, loadCellsFrom] <;> rfl
    · have hL : (loadCells ⟨b, o, none⟩ len).run P w = .ok ((l.map fun b => (b.toNat : Int)).map (Value.int .u8)).toArray w := by
        have := run_loadCells_list (P := P) w ⟨b, o, none⟩ (bsv l) (fun j v hv => by rw [add_none]; exact hrow.cell hf hh hv)
        rw [bsv_length, hl] at this
        rw [this]
        simp [bsv]
      rw [run_bytesToString w _ len cap _ hL]
      have := foldl_bytes l []
      rw [List.nil_append] at this
      rw [← this]
      rfl
  simp [execOp, ha.ev hx, h1]

theorem wl_appendS {T T' E : TypeId} {k : Nat} {zs cells : List Value} {v : Value} {Hs H0 : Hp} {tys : Array TypeId} {st : ByteArray}
    (hg : gd ops env g = some true) (hd : Nat.blt dd n = true) (hT : tys = #[T, T']) (ht : P.underlying T = some (.slice E)) (ht' : P.underlying T' = some .string) (hs : sizeIs P E 1) (hb : bytesIs P E k) (hz : zeroIs P E zs) (hzs : zs.length = 1)
    (hx : ev env x = some v) (hown : Own v 1 E cells Hs) (hH : H.Perm (Hs ++ H0)) (hy : ev env y = some (.string st))
    (hbd : (cells.length + st.size) * k ≤ 140737488355328) (hcl : cells.length + st.size ≤ 4611686018427387904)
    (h : ∀ v' Hs', Own v' 1 E (cells ++ ssv st) Hs' → WL P n K ops Q rest ((dd, v') :: env) m (Hs' ++ H0)) : WL P n K ops Q (⟨some dd, .call ⟨.builtin .append, [x, y].toArray, tys⟩, ty, pos, aft, g⟩ :: rest) env m H := by
  subst hT
  obtain ⟨i, z, hi, hi1, hi2, hi3, hi4⟩ := info_of hs hb hz
  intro a w ha hst
  have hst2 : St K m (Hs ++ H0) w := hst.perm hH
  unfold wpList
  rw [if_pos (ha.wanted hg)]
  refine .inl ?_
  obtain ⟨news, hne⟩ : ∃ news, news = ssv st := ⟨_, rfl⟩
  rw [← hne] at h
  obtain ⟨s, hs1⟩ : ∃ s, s = 1 := ⟨_, rfl⟩
  rw [← hs1] at hs hzs hown h
  obtain ⟨len', hlen'⟩ : ∃ len', len' = st.size := ⟨_, rfl⟩
  have hs0 : 0 < s := by omega
  have hl : news.length = len' * s := by rw [hne, hs1, hlen']; simp [ssv]
  have h1 : ∀ u ∈ news, u.oneCell' = true := by
    intro u hu
    rw [hne, ssv, List.mem_map] at hu
    obtain ⟨b, _, rfl⟩ := hu
    rfl
  have hbd : (cells.length + news.length) * k ≤ 140737488355328 * s := by rw [hl, hlen', hs1, Nat.mul_one, Nat.mul_one]; exact hbd
  have hcl : cells.length + news.length ≤ 4611686018427387904 * s := by rw [hl, hlen', hs1, Nat.mul_one, Nat.mul_one]; exact hcl
  have hi1 : i.size = s := by rw [hi1, hs1]
  have hnews : ∀ w, (Builtin.firstCells i.size len' (.string st)).run P w = .ok news.toArray w := by
    intro w
    rw [hne, hlen']
    simp only [Builtin.firstCells, Sem.run_pure]
    congr 1
    rw [extract_all]
    apply Array.ext'
    simp [ssv]
  have drawSt : ∀ (H : Hp), St K m H w → St K m H w.drew := fun H h => { h with }
  -- what the operation gives
  have main : ∀ (base : Option Addr) (len cap : Nat) (xs : List Value), v = .slice base len cap → len ≤ cap → cells.length = len * s → xs.take (len * s) = cells → xs.length = cap * s →
      ((base = none ∧ cap = 0 ∧ Hs = []) ∨ ∃ b, base = some ⟨b, 0, none⟩ ∧ Hs = [(b, cl E xs)]) →
      ∃ v' w', (execOp a.eval ⟨some dd, .call ⟨.builtin .append, [x, y].toArray, #[T, T']⟩, ty, pos, aft, g⟩).run P w = .ok (.value v') w' ∧ ∃ Hs', Own v' s E (cells ++ news) Hs' ∧ St K m (Hs' ++ H0) w' := by
    intro base len cap xs hv hlc hcl1 htake hxl hbase
    subst hv
    have hlen63 : len + len' ≤ 4611686018427387904 := by
      have e : cells.length + news.length = (len + len') * s := by rw [hcl1, hl, Nat.add_mul]
      rw [e] at hcl
      exact Nat.le_of_mul_le_mul_right hcl hs0
    have hbytes : (len + len') * i.bytes ≤ 140737488355328 := by
      have e : cells.length + news.length = (len + len') * s := by rw [hcl1, hl, Nat.add_mul]
      rw [e] at hbd
      rw [hi2]
      have : ((len + len') * k) * s ≤ 140737488355328 * s := by rw [Nat.mul_right_comm]; exact hbd
      exact Nat.le_of_mul_le_mul_right this hs0
    have hex : (execOp a.eval ⟨some dd, .call ⟨.builtin .append, [x, y].toArray, #[T, T']⟩, ty, pos, aft, g⟩).run P w = ((Builtin.append_ #[T, T'] ty #[.slice base len cap, .string st]).run P w).andThen fun r w' => .ok (.value r) w' := by
      simp [execOp, resolve, invoke, builtin, ha.ev hx, ha.ev hy]
    by_cases hfit : len + len' ≤ cap
    · -- there is room
      rcases hbase with ⟨rfl, rfl, rfl⟩ | ⟨b, rfl, rfl⟩
      · have h0 : len = 0 ∧ len' = 0 := by omega
        obtain ⟨rfl, rfl⟩ := h0
        have hn : news = [] := List.length_eq_zero_iff.1 (by simpa using hl)
        have hc : cells = [] := List.length_eq_zero_iff.1 (by simpa using hcl1)
        subst hn; subst hc
        refine ⟨.slice none 0 0, w, ?_, [], Own.nil s E, hst2⟩
        rw [hex]
        simp [Builtin.append_, underlying, ht, ht', typeInfo, hi, sizeOf, Builtin.lenOf, hnews, ← hlen']
      · have hbk : w.heap[b]? = some (cl E xs) := hst2.heap b _ (.head _)
        obtain ⟨w', hrun, e1, e2, e3, e4, e5, e6⟩ := run_storeCells' (P := P) (b := b) (T := E) news (len * s) 0 xs w hbk (by rw [hxl, hl, Nat.add_zero, ← Nat.add_mul]; exact Nat.mul_le_mul_right _ hfit) h1
        have hst3 : St K m ((b, cl E (splice xs (len * s) news)) :: H0) w' := St.write hst2 e1 e2 e3 e4 (by simpa using e5) e6
        refine ⟨.slice (some ⟨b, 0, none⟩) (len + len') cap, w', ?_, _, .inr ⟨b, len + len', cap, splice xs (len * s) news, rfl, hfit, by simp [hcl1, hl, Nat.add_mul], by rw [splice_length, hxl], ?_, rfl⟩, hst3⟩
        · rw [hex]
          have hadd : (⟨b, 0, none⟩ : Addr).add (len * i.size) = ⟨b, len * s, none⟩ := by rw [add_none, hi1, Nat.zero_add]
          simp [Builtin.append_, underlying, ht, ht', typeInfo, hi, sizeOf, Builtin.lenOf, hnews, hfit, hadd, hrun, ← hlen']
        · have hle : len * s + news.length ≤ xs.length := by rw [hxl, hl, ← Nat.add_mul]; exact Nat.mul_le_mul_right _ hfit
          have hle2 : len * s ≤ xs.length := by omega
          rw [splice_eq news xs (len * s) hle, htake, Nat.add_mul, ← hl, ← hcl1]
          rw [show cells.length + news.length = (cells ++ news).length by simp, List.take_left']
          simp
    · -- a new row
      have hnp : Builtin.nextslicecap (len + len') cap * i.bytes ≤ 281474976710656 := by
        have := nextcap_le (need := len + len') (cap := cap) (by omega)
        have h2 := Nat.mul_le_mul_right i.bytes this
        rw [Nat.mul_assoc] at h2
        omega
      have hold : (Builtin.firstCells i.size len (.slice base len cap)).run P w.drew = .ok cells.toArray w.drew := by
        rw [hi1]
        rcases hbase with ⟨rfl, rfl, rfl⟩ | ⟨b, rfl, rfl⟩
        · have : len = 0 := by omega
          subst this
          have hc : cells = [] := List.length_eq_zero_iff.1 (by simpa using hcl1)
          subst hc
          simp [Builtin.firstCells]
        · refine firstCells_row (m := m) (H := [(b, cl E xs)]) (rowH (.head _) fun j hj => ?_) hst2.mem (fun b' o' hb' => hst2.heap b' o' (List.mem_append_left _ hb')) hcl1
          rw [Nat.zero_add, ← htake, List.getElem?_take, if_pos (by omega)]
      have hq : (Question.appendCap (len + len') cap E).forced = false := rfl
      refine ⟨.slice (some ⟨w.heap.size, 0, none⟩) (len + len') ((Question.appendCap (len + len') cap E).cut (w.tape w.drawn (Question.appendCap (len + len') cap E))),
        World.alloc w.drew (cl E (cells ++ news ++ reps ((Question.appendCap (len + len') cap E).cut (w.tape w.drawn (Question.appendCap (len + len') cap E)) - (len + len')) zs)), ?_, _,
        .inr ⟨w.heap.size, len + len', _, cells ++ news ++ reps ((Question.appendCap (len + len') cap E).cut (w.tape w.drawn (Question.appendCap (len + len') cap E)) - (len + len')) zs, rfl, ?_, by simp [hcl1, hl, Nat.add_mul], ?_, ?_, rfl⟩, ?_⟩
      · rw [hex]
        have hnp' : ¬ (281474976710656 < Builtin.nextslicecap (len + len') cap * i.bytes) := by omega
        have h63 : ¬ (9223372036854775807 < (len : Int) + (len' : Int)) := by omega
        have hz' : (zeroValue E).run P w.drew = .ok z w.drew := by simp [zeroValue, typeInfo, hi, hi3]
        have hzc : ∀ q, Builtin.zeroCells z.cells q = (reps q zs).toArray := fun q => by
          unfold Builtin.zeroCells
          rw [hi4]
          have := range_reps zs q
          simpa using this
        simp [Builtin.append_, underlying, ht, ht', typeInfo, hi, sizeOf, Builtin.lenOf, ← hlen', hfit, hnp', h63, choose, Sem.run, hq, hold, hnews, hz', hzc, newRow, cl, askRoom]
      · simp only [Question.cut]; omega
      · have hge : len + len' ≤ (Question.appendCap (len + len') cap E).cut (w.tape w.drawn (Question.appendCap (len + len') cap E)) := by simp only [Question.cut]; omega
        simp only [List.length_append, reps_length, hzs, hcl1, hl]
        rw [← Nat.add_mul, ← Nat.add_mul]
        congr 1
        omega
      · rw [Nat.add_mul, ← hl, ← hcl1, show cells.length + news.length = (cells ++ news).length by simp, List.take_left']
        rfl
      · have hst4 := (drawSt (Hs ++ H0) hst2).alloc (cl E (cells ++ news ++ reps ((Question.appendCap (len + len') cap E).cut (w.tape w.drawn (Question.appendCap (len + len') cap E)) - (len + len')) zs))
        refine hst4.sub (fun b' o' hb' => ?_) ?_
        · rcases List.mem_cons.1 hb' with hb' | hb'
          · rw [hb']; exact .head _
          · exact .tail _ (List.mem_append_right _ hb')
        · have hnd := hst4.nodup
          unfold keys at hnd ⊢
          rw [List.map_cons, List.map_append, List.nodup_cons, List.nodup_append] at hnd
          rw [List.cons_append, List.nil_append, List.map_cons, List.nodup_cons]
          exact ⟨fun hmem => hnd.1 (List.mem_append_right _ hmem), hnd.2.2.1⟩
  have fin : ∃ v' w', (execOp a.eval ⟨some dd, .call ⟨.builtin .append, [x, y].toArray, #[T, T']⟩, ty, pos, aft, g⟩).run P w = .ok (.value v') w' ∧ ∃ Hs', Own v' s E (cells ++ news) Hs' ∧ St K m (Hs' ++ H0) w' := by
    rcases hown with ⟨rfl, rfl, rfl⟩ | ⟨b, len, cap, xs, rfl, h2, h3, h4, h5, rfl⟩
    · exact main none 0 0 [] rfl (Nat.le_refl _) (by simp) (by simp) (by simp) (.inl ⟨rfl, rfl, rfl⟩)
    · exact main _ len cap xs rfl h2 h3 h5 h4 (.inr ⟨b, rfl, rfl⟩)
  obtain ⟨v', w', hrun, Hs', ho, hst'⟩ := fin
  unfold Oper.wp
  rw [hrun, Oper.upon_value]
  exact h v' Hs' ho _ w' (ha.put v' hd) hst'

end
end Go.Cy
