/- strings.Builder. -/
import Derived.Test.YtmamkgbldaehgaaGreatDoorCyDig2
import Derived.Test.YtmamkgbldaehgaaGreatDoorCyShelf
namespace Go.Cy
open Go Go.Proofs
set_option maxRecDepth 20000

def BT (T : TypeId) : Prop := liesAt Tryz.prog Tryz.prog.depth T (2 / Tryz.prog.cellsOf T) 0 115 1 = true
theorem bt_builder : BT 115 := by unfold BT; decide +kernel
theorem bt_writer : BT 117 := by unfold BT; decide +kernel
def Bld (T : TypeId) (b : Nat) (L : List UInt8) (H : Hp) : Prop := ∃ a v Hs, (a = .pointer none ∨ a = .pointer (some ⟨b, 0, none⟩)) ∧ Own v 1 5 (bsv L) Hs ∧ H = (b, cl T [a, v]) :: Hs
theorem Bld.new (T : TypeId) (b : Nat) : Bld T b [] [(b, cl T [.pointer none, .slice none 0 0])] := ⟨_, _, _, .inl rfl, Own.nil _ _, rfl⟩

theorem copyCheck_fresh {m : Mem} {T : TypeId} {b : Nat} {v : Value} {Hs : Hp} (hT : BT T) : Does Tryz.prog 178 #[.pointer (some ⟨b, 0, none⟩)] m ((b, cl T [.pointer none, v]) :: Hs) fun r _ H' => r = .tuple #[] ∧ H' = (b, cl T [.pointer (some ⟨b, 0, none⟩), v]) :: Hs := by
  refine enter Tryz.func178 rfl rfl ?_
  intro K hm0 hks
  refine wsr ?_
  refine wmv ?_
  refine wv (x_nilCheck rfl) ?_
  refine wv (x_fieldAddr Tryz.underlying115 rfl Tryz.size113 rfl) ?_
  refine wv (x_load Tryz.plain113 rfl (rowH1 (.head _) rfl)) ?_
  refine wv (x_eqlNN Tryz.underlying113 rfl rfl) ?_
  refine wns ?_
  refine w_true rfl ?_
  refine w_region ?_
  refine wmv ?_
  refine wmv ?_
  refine wv (x_toUnsafe (.head _) Tryz.underlying113 Tryz.underlying255 Tryz.size115 (by simp) rfl) ?_
  refine wv (x_extern (e := Extern.AbiNoEscape.same) Tryz.func208 (by kernel_rfl) (by kernel_rfl) (by kernel_rfl) (by kernel_rfl) rfl (fun _ => rfl)) ?_
  refine wv (x_fromUnsafe (.head _) Tryz.underlying255 Tryz.underlying113 Tryz.size115 rfl hT rfl) ?_
  refine wv (x_nilCheck rfl) ?_
  refine wv (x_fieldAddr Tryz.underlying115 rfl Tryz.size113 rfl) ?_
  refine wl_store rfl Tryz.size113 rfl rfl rfl (by simp) ?_
  refine wl_nil ?_
  refine at_end_normal (res0 rfl) ?_
  exact ⟨rfl, rfl⟩
theorem copyCheck_used {m : Mem} {T : TypeId} {b : Nat} {v : Value} {Hs : Hp} : Does Tryz.prog 178 #[.pointer (some ⟨b, 0, none⟩)] m ((b, cl T [.pointer (some ⟨b, 0, none⟩), v]) :: Hs) fun r _ H' => r = .tuple #[] ∧ H' = (b, cl T [.pointer (some ⟨b, 0, none⟩), v]) :: Hs := by
  obtain ⟨i115, hi115, _⟩ := Option.map_eq_some_iff.1 Tryz.size115
  refine enter Tryz.func178 rfl rfl ?_
  intro K hm0 hks
  refine wsr ?_
  refine wmv ?_
  refine wv (x_nilCheck rfl) ?_
  refine wv (x_fieldAddr Tryz.underlying115 rfl Tryz.size113 rfl) ?_
  refine wv (x_load Tryz.plain113 rfl (rowH1 (.head _) rfl)) ?_
  refine wv (x_eqlPN Tryz.underlying113 rfl rfl) ?_
  refine wns ?_
  refine w_false rfl ?_
  refine wsr ?_
  refine wmv ?_
  refine wv (x_nilCheck rfl) ?_
  refine wv (x_fieldAddr Tryz.underlying115 rfl Tryz.size113 rfl) ?_
  refine wv (x_load Tryz.plain113 rfl (rowH1 (.head _) rfl)) ?_
  refine wmv ?_
  refine wv (x_neqSame Tryz.underlying113 hi115 rfl rfl) ?_
  refine wns ?_
  refine w_false rfl ?_
  refine w_skip ?_
  refine at_end_normal (res0 rfl) ?_
  exact ⟨rfl, rfl⟩
theorem copyCheck_ok {m : Mem} {T : TypeId} {b : Nat} {L : List UInt8} {H : Hp} (hT : BT T) (h : Bld T b L H) : Does Tryz.prog 178 #[.pointer (some ⟨b, 0, none⟩)] m H fun r _ H' => r = .tuple #[] ∧ ∃ v Hs, Own v 1 5 (bsv L) Hs ∧ H' = (b, cl T [.pointer (some ⟨b, 0, none⟩), v]) :: Hs := by
  obtain ⟨a, v, Hs, ha, hown, rfl⟩ := h
  rcases ha with rfl | rfl
  · exact (copyCheck_fresh hT).mono fun _ _ _ _ ⟨h1, h2⟩ => ⟨h1, v, Hs, hown, h2⟩
  · exact copyCheck_used.mono fun _ _ _ _ ⟨h1, h2⟩ => ⟨h1, v, Hs, hown, h2⟩

theorem WriteByte_ok {m : Mem} {T : TypeId} {b : Nat} {L : List UInt8} {H : Hp} {c : UInt8} (hT : BT T) (h : Bld T b L H) (hl : L.length ≤ 35184372088832) : Does Tryz.prog 125 #[.pointer (some ⟨b, 0, none⟩), .int .u8 (c.toNat : Int)] m H fun r _ H' => r = .nilIface ∧ Bld T b (L ++ [c]) H' := by
  refine enter Tryz.func125 rfl rfl ?_
  intro K hm0 hks
  refine wsr ?_
  refine was ?_
  refine wnr ?_
  refine wmv ?_
  refine wl_calld0 rfl rfl rfl Tryz.c178 (copyCheck_ok hT h) ?_; rintro v1 m1 H1 hm1 ⟨rfl, v, Hs, hown, rfl⟩
  refine wnr ?_
  refine wmv ?_
  refine wmv ?_
  refine wv (x_nilCheck rfl) ?_
  refine wv (x_fieldAddr Tryz.underlying115 rfl Tryz.size67 rfl) ?_
  refine wv (x_load Tryz.plain67 rfl (rowH1 (.head _) rfl)) ?_
  refine wmv ?_
  refine wl_buildSlice rfl rfl Tryz.underlying67 Tryz.size5 Tryz.zero5 rfl rfl rfl rfl rfl ?_; intro b13
  refine wl_append (cells := bsv L) (news := [_]) rfl rfl rfl Tryz.underlying67 Tryz.underlying67 Tryz.size5 Tryz.bytes5 Tryz.zero5 rfl (by omega) rfl hown (List.perm_append_comm (l₁ := [_, _])) rfl rfl (.inr ⟨_, 0, rfl, rowH0 (.head _)⟩) (by simp [Value.oneCell']) (by simp [bsv]; omega) (by simp [bsv]; omega) ?_; intro vo' Hs' hown'; refine wl_perm List.perm_append_comm ?_; refine wl_drop1 ?_
  obtain ⟨a0, l0, c0, rfl⟩ := hown'.slice
  refine wv (x_nilCheck rfl) ?_
  refine wv (x_fieldAddr Tryz.underlying115 rfl Tryz.size67 rfl) ?_
  refine wl_store rfl Tryz.size67 rfl rfl rfl (by simp) ?_
  refine wnr ?_
  refine was ?_
  refine wns ?_
  refine w_ret ?_
  refine at_end (res1 rfl rfl) ?_
  exact ⟨rfl, _, _, _, .inr rfl, by rw [bsv_snoc]; exact hown', rfl⟩
theorem WriteString_ok {m : Mem} {T : TypeId} {b : Nat} {L s : List UInt8} {H : Hp} (hT : BT T) (h : Bld T b L H) (hl : L.length + s.length ≤ 35184372088832) : Does Tryz.prog 124 #[.pointer (some ⟨b, 0, none⟩), .string (B s)] m H fun r _ H' => r = .tuple #[.int .i64 s.length, .nilIface] ∧ Bld T b (L ++ s) H' := by
  refine enter Tryz.func124 rfl rfl ?_
  intro K hm0 hks
  refine wsr ?_
  refine was ?_
  refine was ?_
  refine wnr ?_
  refine wmv ?_
  refine wl_calld0 rfl rfl rfl Tryz.c178 (copyCheck_ok hT h) ?_; rintro v1 m1 H1 hm1 ⟨rfl, v, Hs, hown, rfl⟩
  refine wnr ?_
  refine wmv ?_
  refine wmv ?_
  refine wv (x_nilCheck rfl) ?_
  refine wv (x_fieldAddr Tryz.underlying115 rfl Tryz.size67 rfl) ?_
  refine wv (x_load Tryz.plain67 rfl (rowH1 (.head _) rfl)) ?_
  refine wmv ?_
  refine wl_appendS (cells := bsv L) rfl rfl rfl Tryz.underlying67 Tryz.underlying9 Tryz.size5 Tryz.bytes5 Tryz.zero5 rfl rfl hown (List.perm_append_comm (l₁ := [_])) rfl (by rw [B_size]; simp [bsv]; omega) (by rw [B_size]; simp [bsv]; omega) ?_; intro vo' Hs' hown'; refine wl_perm List.perm_append_comm ?_
  obtain ⟨a0, l0, c0, rfl⟩ := hown'.slice
  refine wv (x_nilCheck rfl) ?_
  refine wv (x_fieldAddr Tryz.underlying115 rfl Tryz.size67 rfl) ?_
  refine wl_store rfl Tryz.size67 rfl rfl rfl (by simp) ?_
  refine wnr ?_
  refine wmv ?_
  refine wv (x_lenS Tryz.underlying9 rfl rfl) ?_
  refine was ?_
  refine was ?_
  refine wns ?_
  refine w_ret ?_
  refine at_end (res2 rfl rfl rfl) ?_
  exact ⟨by rw [B_size], _, _, _, .inr rfl, by rw [bsv_append, ← ssv_B s]; exact hown', rfl⟩
theorem BLen_ok {m : Mem} {T : TypeId} {b : Nat} {L : List UInt8} {H : Hp} (h : Bld T b L H) : Does Tryz.prog 131 #[.pointer (some ⟨b, 0, none⟩)] m H fun r _ H' => r = .int .i64 L.length ∧ H' = H := by
  obtain ⟨a, v, Hs, ha, hown, rfl⟩ := h
  obtain ⟨a0, l0, c0, rfl⟩ := hown.slice
  have hlen := hown.len
  refine enter Tryz.func131 rfl rfl ?_
  intro K hm0 hks
  refine wsr ?_
  refine was ?_
  refine wnr ?_
  refine wmv ?_
  refine wv (x_nilCheck rfl) ?_
  refine wv (x_fieldAddr Tryz.underlying115 rfl Tryz.size67 rfl) ?_
  refine wv (x_load Tryz.plain67 rfl (rowH1 (.head _) rfl)) ?_
  refine wv (x_len Tryz.underlying67 rfl rfl) ?_
  refine was ?_
  refine wns ?_
  refine w_ret ?_
  refine at_end (res1 rfl rfl) ?_
  exact ⟨by rw [bsv_length] at hlen; rw [hlen, Nat.mul_one], rfl⟩
theorem BString_ok {m : Mem} {T : TypeId} {b : Nat} {L : List UInt8} {H : Hp} (h : Bld T b L H) (h0 : L ≠ []) (hl : L.length ≤ 35184372088832) : Does Tryz.prog 76 #[.pointer (some ⟨b, 0, none⟩)] m H fun r _ H' => r = .string (B L) ∧ H' = [] := by
  obtain ⟨a, v, Hs, ha, hown, rfl⟩ := h
  obtain ⟨bo, cap, junk, rfl, hcap, rfl⟩ := own_some hown h0
  have hl1 : 0 < L.length := List.length_pos_iff.2 h0
  refine enter Tryz.func76 rfl rfl ?_
  intro K hm0 hks
  refine wsr ?_
  refine was ?_
  refine wns ?_
  refine w_seq ?_
  refine dr_start [] [[], [0], [1], [2], [3], [], [5], [6], [7], [8]] ?_
  refine dr_val rfl rfl (fun m' hm' => ds_val rfl (x_move rfl)) ?_
  refine dr_val rfl rfl (fun m' hm' => ds_val rfl (x_nilCheck rfl)) ?_
  refine dr_val rfl rfl (fun m' hm' => ds_val rfl (x_fieldAddr Tryz.underlying115 rfl Tryz.size67 rfl)) ?_
  refine dr_val rfl rfl (fun m' hm' => ds_val rfl (x_load Tryz.plain67 rfl (rowH1 (.head _) rfl))) ?_
  refine dr_val rfl rfl (fun m' hm' => ds_val rfl (x_sliceData (by omega) rfl)) ?_
  refine dr_val rfl rfl (fun m' hm' => ds_val rfl (x_move rfl)) ?_
  refine dr_val rfl rfl (fun m' hm' => ds_val rfl (x_nilCheck rfl)) ?_
  refine dr_val rfl rfl (fun m' hm' => ds_val rfl (x_fieldAddr Tryz.underlying115 rfl Tryz.size67 rfl)) ?_
  refine dr_val rfl rfl (fun m' hm' => ds_val rfl (x_load Tryz.plain67 rfl (rowH1 (.head _) rfl))) ?_
  refine dr_val rfl rfl (fun m' hm' => ds_val rfl (x_len Tryz.underlying67 rfl rfl)) ?_
  refine dr_done (k := 10) Tryz.mixed rfl rfl rfl fun m1 hm_m1 => ?_
  show WL _ _ _ _ _ _ _ _ _
  refine wl_front1 ?_; refine wl_unsafeString rfl rfl rfl (by exact Tryz.underlying191) (by decide +kernel) rfl rfl rfl rfl h0 (by omega) ?_; refine wl_drop1 ?_
  refine was ?_
  refine wns ?_
  refine w_ret ?_
  refine at_end (res1 rfl rfl) ?_
  exact ⟨rfl, rfl⟩
end Go.Cy


/- Strings given as lists of bytes: length, index, parts, comparison. -/
namespace Go.Cy
open Go Go.Proofs
section
variable {P : Program} {n : Nat} {env : Env} {m : Mem} {H : Hp} {d : Option Nat} {ty : TypeId} {pos : String} {aft : Array Edge} {g : Option (Nat × Bool)} {x y : Operand}
theorem x_lenB {T : TypeId} {L : List UInt8} {tys : Array TypeId} (ht : P.underlying T = some .string) (hT : tys = #[T]) (hx : ev env x = some (.string (B L))) : Ex P n ⟨d, .call ⟨.builtin .len, [x].toArray, tys⟩, ty, pos, aft, g⟩ env m H (.int .i64 L.length) :=
  (x_lenS ht hT hx).as (by rw [B_size])
theorem x_indexB {T : TypeId} {L : List UInt8} {j : Nat} {k : IntKind} {p : Int} (ht : P.underlying T = some .string) (hx : ev env x = some (.string (B L))) (hy : ev env y = some (.int k p)) (hp : p = (j : Int)) (hj : j < L.length) :
    Ex P n ⟨d, .index T x y, ty, pos, aft, g⟩ env m H (.int .u8 ((L[j]'hj).toNat : Int)) :=
  (x_indexS ht hx hy hp (by rw [B_size]; exact hj)).as (by
    congr 2)
theorem x_eqlBs {T T' : TypeId} {L K : List UInt8} (hx : ev env x = some (.string (B L))) (hy : ev env y = some (.string (B K))) : Ex P n ⟨d, .binOp .eql T x y T', ty, pos, aft, g⟩ env m H (.bool (decide (L = K))) :=
  (x_eqlS hx hy).as (by rw [B_toList, B_toList])
theorem x_neqBs {T T' : TypeId} {L K : List UInt8} (hx : ev env x = some (.string (B L))) (hy : ev env y = some (.string (B K))) : Ex P n ⟨d, .binOp .neq T x y T', ty, pos, aft, g⟩ env m H (.bool (decide (L ≠ K))) :=
  (x_neqS hx hy).as (by rw [B_toList, B_toList])
theorem B_extract (L : List UInt8) (lo hi : Nat) : (B L).extract lo hi = B ((L.take hi).drop lo) := by
  apply ByteArray.ext
  simp only [ByteArray.data_extract, B]
  apply Array.ext'
  simp [Array.toList_extract, List.extract_eq_take_drop]
  first
    | done
    | rw [List.drop_take]
theorem x_sliceB {T : TypeId} {L : List UInt8} {lo hi : Nat} {x1 x2 : Option Operand} (ht : P.underlying T = some .string) (hx : ev env x = some (.string (B L)))
    (hlo : match x1 with | none => lo = 0 | some y => ∃ k, ev env y = some (.int k lo)) (hhi : match x2 with | none => hi = L.length | some y => ∃ k, ev env y = some (.int k hi)) (h1 : lo ≤ hi) (h2 : hi ≤ L.length) :
    Ex P n ⟨d, .slice T x x1 x2 none, ty, pos, aft, g⟩ env m H (.string (B ((L.take hi).drop lo))) := fun a w ha _ _ => by
  have hs := B_size L
  rw [← B_extract]
  have e1 : (0 : Int) ≤ hi ∧ (hi : Int) ≤ (B L).size := by omega
  have e2 : (0 : Int) ≤ lo ∧ (lo : Int) ≤ hi := by omega
  have e3 : hi ≤ (B L).size := by omega
  cases x1 <;> cases x2 <;> simp only [] at hlo hhi
  · subst hlo; subst hhi
    simp [execOp, ha.ev hx, Instr.sliceAt, Instr.slice, Instr.sliceBounds, underlying, ht, hs]
    rw [B_extract]; simp
  · subst hlo
    obtain ⟨k, hk⟩ := hhi
    simp [execOp, ha.ev hx, ha.ev hk, Instr.sliceAt, Instr.slice, Instr.sliceBounds, Instr.sliceBound, asIntOf, underlying, ht, e3]
  · subst hhi
    obtain ⟨k, hk⟩ := hlo
    have e4 : lo ≤ (B L).size := by omega
    simp [execOp, ha.ev hx, ha.ev hk, Instr.sliceAt, Instr.slice, Instr.sliceBounds, Instr.sliceBound, asIntOf, underlying, ht, hs, h1]
  · obtain ⟨k, hk⟩ := hlo
    obtain ⟨k', hk'⟩ := hhi
    simp [execOp, ha.ev hx, ha.ev hk, ha.ev hk', Instr.sliceAt, Instr.slice, Instr.sliceBounds, Instr.sliceBound, asIntOf, underlying, ht, e3, h1]
theorem x_dropB {T : TypeId} {L : List UInt8} {lo : Nat} {k : IntKind} {p : Int} (ht : P.underlying T = some .string) (hx : ev env x = some (.string (B L))) (hy : ev env y = some (.int k p)) (hp : p = (lo : Int)) (h : lo ≤ L.length) :
    Ex P n ⟨d, .slice T x (some y) none none, ty, pos, aft, g⟩ env m H (.string (B (L.drop lo))) := by
  subst hp
  exact (x_sliceB (lo := lo) (hi := L.length) (x1 := some y) (x2 := none) ht hx ⟨k, hy⟩ rfl h (Nat.le_refl _)).as (by rw [List.take_length])
theorem x_concatB {T T' : TypeId} {L K : List UInt8} (hx : ev env x = some (.string (B L))) (hy : ev env y = some (.string (B K))) (hb : L.length + K.length ≤ 9223372036854775807) : Ex P n ⟨d, .binOp .add T x y T', ty, pos, aft, g⟩ env m H (.string (B (L ++ K))) :=
  (x_concat hx hy (by rw [B_size, B_size]; exact hb)).as (by rw [B_append])
end
end Go.Cy


/- checksign.formatFrac, and Format of rational coordinates. -/
namespace Go.Cy
open Go Go.Proofs
set_option maxRecDepth 20000

def fracB (z : Int) (d : Nat) : List UInt8 := decB (lowZ z d) ++ if 1 < blen (lowD z d) then [47] ++ decB (lowD z d) else []
theorem decB_len (z : Int) : (decB z).length ≤ 10 * dlen z.natAbs + 1 := by
  unfold decB
  have := revD_len z.natAbs
  split
  · simp
  · split <;> simp <;> omega
theorem formatFrac_ok {m : Mem} {v : Value} {z : Int} {d : Nat} (h : Fi m v z d) (hs : dlen z.natAbs ≤ 100000000000 ∧ dlen d ≤ 100000000000) : Pure Tryz.prog 181 #[v] m fun r _ => r = .string (B (fracB z d)) := by
  have h' := h
  obtain ⟨n0, x1, l1, y1, x2, l2, y2, rfl⟩ := h.agg
  have a1 := dlen_mono (lowZ_le z d)
  have b1 := dlen_lowD z d
  have g1 := decB_len (lowZ z d)
  have g2 := decB_len (lowD z d)
  rw [Int.natAbs_natCast] at g2
  refine enterp Tryz.func181 rfl rfl ?_
  intro K hm0 hks
  refine wsr ?_
  refine wl_box rfl rfl rfl rfl ?_; intro b1
  refine was ?_
  refine wnr ?_
  refine wv (x_loads Tryz.agg53 (by exact Tryz.size53) rfl (rowH0 (.head _))) ?_
  refine wl_callp rfl rfl rfl Tryz.c83 (Lowest_ok h' ⟨by omega, by omega⟩) ?_; rintro v1 m1 hm1 h1
  have h1' := h1
  obtain ⟨n1, s1, a1, t1, rfl, hS, e1, hneg, ht⟩ := h1
  obtain ⟨q1, q2, q3, rfl⟩ := hS.slice
  obtain ⟨q4, q5, q6, rfl⟩ := ht.slice
  refine wl_storeAll rfl (by exact Tryz.size53) rfl rfl (by simp [Value.oneCell']) rfl ?_
  refine wnr ?_
  refine wv (x_fieldAddr Tryz.underlying53 rfl Tryz.size49 rfl) ?_
  refine wv (x_loads Tryz.agg49 (by exact Tryz.size49) rfl (rowHs (vs := [_, _]) (.head _) 0 rfl)) ?_
  refine wl_callp rfl rfl rfl Tryz.c129 (DecFormat_ok (z := lowZ z d) (e1 ▸ In.of hS.nt) (by omega)) ?_; rintro v2 m2 hm2 rfl
  refine was ?_
  refine wns ?_
  refine w_seq ?_
  refine wsr ?_
  refine wv (x_fieldAddr Tryz.underlying53 rfl Tryz.size47 rfl) ?_
  refine wv (x_load Tryz.plain47 rfl (rowH1 (.head _) rfl)) ?_
  refine wl_callp rfl rfl rfl Tryz.c213 (BitLen_ok (ht.nt.up hm2)) ?_; rintro v3 m3 hm3 rfl
  refine wv (x_gtr rfl rfl) ?_
  refine wns ?_
  refine w_if rfl (fun h2 => ?_) (fun h2 => ?_)
  · skip
    refine w_region ?_
    refine wmv ?_
    refine wv (x_loads Tryz.agg53 (by exact Tryz.size53) rfl (rowH0 (.head _))) ?_
    refine wl_callp rfl rfl rfl Tryz.c140 (den_ok (h1'.fi.up (hm2.trans hm3))) ?_; rintro v4 m4 hm4 h4
    refine wl_callp rfl rfl rfl Tryz.c129 (DecFormat_ok h4.in' (by rw [Int.natAbs_natCast]; omega)) ?_; rintro v5 m5 hm5 rfl
    refine wv (x_concat rfl rfl (by rw [show (ByteArray.mk [47].toArray) = B [47] from rfl, B_size, B_size]; simp; omega)) ?_
    refine wv (x_concat rfl rfl (by rw [show (ByteArray.mk [47].toArray) = B [47] from rfl, B_append, B_size, B_size]; simp; omega)) ?_
    refine was ?_
    refine wnr ?_
    refine wmv ?_
    refine was ?_
    refine wns ?_
    refine w_ret ?_
    refine at_endp (res1 rfl rfl) ?_
    rw [show (ByteArray.mk [47].toArray) = B [47] from rfl, B_append, B_append, fracB, if_pos (by omega)]
  · skip
    refine w_skip ?_
    refine at_seq ?_
    refine wsr ?_
    refine wmv ?_
    refine was ?_
    refine wns ?_
    refine w_ret ?_
    refine at_endp (res1 rfl rfl) ?_
    rw [fracB, if_neg (by omega), List.append_nil]

theorem fracB_len (z : Int) (d : Nat) (hs : dlen z.natAbs ≤ 100000000000 ∧ dlen d ≤ 100000000000) : (fracB z d).length ≤ 3000000000000 := by
  have a1 := dlen_mono (lowZ_le z d)
  have b1 := dlen_lowD z d
  have g1 := decB_len (lowZ z d)
  have g2 := decB_len (lowD z d)
  rw [Int.natAbs_natCast] at g2
  unfold fracB
  split <;> simp <;> omega

theorem CFormat_ok {m : Mem} {p f1 f2 f3 g1 g2 g3 : Value} {z1 z2 : Int} {d1 d2 : Nat} (h1 : Fi m (.agg #[f1, f2, f3]) z1 d1) (h2 : Fi m (.agg #[g1, g2, g3]) z2 d2) (hs1 : dlen z1.natAbs ≤ 100000000000 ∧ dlen d1 ≤ 100000000000) (hs2 : dlen z2.natAbs ≤ 100000000000 ∧ dlen d2 ≤ 100000000000) (he : lowZ z1 d1 * lowD z2 d2 = lowZ z2 d2 * lowD z1 d1) :
    Pure Tryz.prog 130 #[.agg #[p, f1, f2, f3, g1, g2, g3]] m fun r _ => r = .string (B (61 :: fracB z1 d1)) := by
  have hl := fracB_len z1 d1 hs1
  refine enterp Tryz.func130 rfl rfl ?_
  intro K hm0 hks
  refine wsr ?_
  refine wl_box rfl rfl rfl rfl ?_; intro b1
  refine was ?_
  refine wns ?_
  refine w_seq ?_
  refine wsr ?_
  refine wv (x_fieldAddr Tryz.underlying55 rfl Tryz.size53 rfl) ?_
  refine wv (x_loads Tryz.agg53 (by exact Tryz.size53) rfl (rowHs (vs := [_, _, _]) (.head _) 1 rfl)) ?_
  refine wv (x_fieldAddr Tryz.underlying55 rfl Tryz.size53 rfl) ?_
  refine wv (x_loads Tryz.agg53 (by exact Tryz.size53) rfl (rowHs (vs := [_, _, _]) (.head _) 4 rfl)) ?_
  refine wl_callp rfl rfl rfl Tryz.c84 (FCmp_ok h1 h2 ⟨by omega, by omega⟩ ⟨by omega, by omega⟩) ?_; rintro v1 m1 hm1 rfl
  refine wv (x_eql rfl rfl) ?_
  refine wns ?_
  refine w_if rfl (fun h0 => ?_) (fun h0 => ?_)
  · skip
    refine wsr ?_
    refine wv (x_fieldAddr Tryz.underlying55 rfl Tryz.size53 rfl) ?_
    refine wv (x_loads Tryz.agg53 (by exact Tryz.size53) rfl (rowHs (vs := [_, _, _]) (.head _) 1 rfl)) ?_
    refine wl_callp rfl rfl rfl Tryz.c181 (formatFrac_ok (h1.up hm1) hs1) ?_; rintro v2 m2 hm2 rfl
    refine wv (x_concat rfl rfl (by rw [show (ByteArray.mk [61].toArray) = B [61] from rfl, B_size, B_size]; simp; omega)) ?_
    refine was ?_
    refine wns ?_
    refine w_ret ?_
    refine at_then_ret ?_
    refine at_endp (res1 rfl rfl) ?_
    rw [show (ByteArray.mk [61].toArray) = B [61] from rfl, B_append]
    rfl
  · skip
    exact absurd (by rw [he]; simp [cmpI]) h0
end Go.Cy
