/- strings.Builder. -/
import Derived.Test.YtmamkgbldaehgaaGreatDoorCyCal4
import Derived.Test.YtmamkgbldaehgaaGreatDoorCyDec2
import Derived.Test.YtmamkgbldaehgaaGreatDoorCyShelf
namespace Go.Cy
open Go Go.Proofs
set_option maxRecDepth 20000

/-- A block in which a builder lies alone. -/
def BT (T : TypeId) : Prop := liesAt Tryz.prog Tryz.prog.depth T (2 / Tryz.prog.cellsOf T) 0 115 1 = true
theorem bt_builder : BT 115 := by unfold BT; decide +kernel
theorem bt_writer : BT 117 := by unfold BT; decide +kernel
/-- A builder that holds these bytes, and what it owns. -/
def Bld (T : TypeId) (b : Nat) (L : List UInt8) (H : Hp) : Prop := ∃ a v Hs, (a = .pointer none ∨ a = .pointer (some ⟨b, 0, none⟩)) ∧ Own v 1 5 (bsv L) Hs ∧ H = (b, cl T [a, v]) :: Hs
theorem Bld.new (T : TypeId) (b : Nat) : Bld T b [] [(b, cl T [.pointer none, .slice none 0 0])] := ⟨_, _, _, .inl rfl, Own.nil _ _, rfl⟩

theorem copyCheck_fresh {m : Mem} {T : TypeId} {b : Nat} {v : Value} {Hs : Hp} (hT : BT T) : Does Tryz.prog 178 #[.pointer (some ⟨b, 0, none⟩)] m ((b, cl T [.pointer none, v]) :: Hs) fun r _ H' => r = .tuple #[] ∧ H' = (b, cl T [.pointer (some ⟨b, 0, none⟩), v]) :: Hs := by
  refine enter Tryz.func178 rfl rfl ?_
  intro K hm0 hks
  refine w_seq ?_
  refine w_region ?_
  refine wl_val rfl rfl rfl (x_move rfl) ?_
  refine wl_val rfl rfl rfl (x_nilCheck rfl) ?_
  refine wl_val rfl rfl rfl (x_fieldAddr Tryz.underlying115 rfl Tryz.size113 rfl) ?_
  refine wl_val rfl rfl rfl (x_load Tryz.plain113 rfl (rowH1 (.head _) rfl)) ?_
  refine wl_val rfl rfl rfl (x_eqlNN Tryz.underlying113 rfl rfl) ?_
  refine wl_nil ?_
  refine at_seq ?_
  refine w_true rfl ?_
  refine w_region ?_
  refine wl_val rfl rfl rfl (x_move rfl) ?_
  refine wl_val rfl rfl rfl (x_move rfl) ?_
  refine wl_val rfl rfl rfl (x_toUnsafe (.head _) Tryz.underlying113 Tryz.underlying255 Tryz.size115 (by simp) rfl) ?_
  refine wl_val rfl rfl rfl (x_extern (e := Extern.AbiNoEscape.same) Tryz.func208 (by kernel_rfl) (by kernel_rfl) (by kernel_rfl) (by kernel_rfl) rfl (fun _ => rfl)) ?_
  refine wl_val rfl rfl rfl (x_fromUnsafe (.head _) Tryz.underlying255 Tryz.underlying113 Tryz.size115 rfl hT rfl) ?_
  refine wl_val rfl rfl rfl (x_nilCheck rfl) ?_
  refine wl_val rfl rfl rfl (x_fieldAddr Tryz.underlying115 rfl Tryz.size113 rfl) ?_
  refine wl_store rfl Tryz.size113 rfl rfl rfl (by simp) ?_
  refine wl_nil ?_
  refine at_end_normal (res0 rfl) ?_
  exact ⟨rfl, rfl⟩
theorem copyCheck_used {m : Mem} {T : TypeId} {b : Nat} {v : Value} {Hs : Hp} : Does Tryz.prog 178 #[.pointer (some ⟨b, 0, none⟩)] m ((b, cl T [.pointer (some ⟨b, 0, none⟩), v]) :: Hs) fun r _ H' => r = .tuple #[] ∧ H' = (b, cl T [.pointer (some ⟨b, 0, none⟩), v]) :: Hs := by
  obtain ⟨i115, hi115, _⟩ := Option.map_eq_some_iff.1 Tryz.size115
  refine enter Tryz.func178 rfl rfl ?_
  intro K hm0 hks
  refine w_seq ?_
  refine w_region ?_
  refine wl_val rfl rfl rfl (x_move rfl) ?_
  refine wl_val rfl rfl rfl (x_nilCheck rfl) ?_
  refine wl_val rfl rfl rfl (x_fieldAddr Tryz.underlying115 rfl Tryz.size113 rfl) ?_
  refine wl_val rfl rfl rfl (x_load Tryz.plain113 rfl (rowH1 (.head _) rfl)) ?_
  refine wl_val rfl rfl rfl (x_eqlPN Tryz.underlying113 rfl rfl) ?_
  refine wl_nil ?_
  refine at_seq ?_
  refine w_false rfl ?_
  refine w_seq ?_
  refine w_region ?_
  refine wl_val rfl rfl rfl (x_move rfl) ?_
  refine wl_val rfl rfl rfl (x_nilCheck rfl) ?_
  refine wl_val rfl rfl rfl (x_fieldAddr Tryz.underlying115 rfl Tryz.size113 rfl) ?_
  refine wl_val rfl rfl rfl (x_load Tryz.plain113 rfl (rowH1 (.head _) rfl)) ?_
  refine wl_val rfl rfl rfl (x_move rfl) ?_
  refine wl_val rfl rfl rfl (x_neqSame Tryz.underlying113 hi115 rfl rfl) ?_
  refine wl_nil ?_
  refine at_seq ?_
  refine w_false rfl ?_
  refine w_skip ?_
  refine at_end_normal (res0 rfl) ?_
  exact ⟨rfl, rfl⟩
theorem copyCheck_ok {m : Mem} {T : TypeId} {b : Nat} {L : List UInt8} {H : Hp} (hT : BT T) (h : Bld T b L H) : Does Tryz.prog 178 #[.pointer (some ⟨b, 0, none⟩)] m H fun r _ H' => r = .tuple #[] ∧ ∃ v Hs, Own v 1 5 (bsv L) Hs ∧ H' = (b, cl T [.pointer (some ⟨b, 0, none⟩), v]) :: Hs := by
  obtain ⟨a, v, Hs, ha, hown, rfl⟩ := h
  rcases ha with rfl | rfl
  · exact (copyCheck_fresh hT).mono fun _ _ _ _ ⟨h1, h2⟩ => ⟨h1, v, Hs, hown, h2⟩
  · exact copyCheck_used.mono fun _ _ _ _ ⟨h1, h2⟩ => ⟨h1, v, Hs, hown, h2⟩

theorem WriteByte_ok {m : Mem} {T : TypeId} {b : Nat} {L : List UInt8} {H : Hp} {c : UInt8} (hT : BT T) (h : Bld T b L H) (hl : L.length ≤ 35184372088832) : Does Tryz.prog 125 #[.pointer (some ⟨b, 0, none⟩), .int .u8 (c.toNat : Int)] m H fun r _ H' => r = .nilIface ∧ Bld T b (L ++ [c]) H' := by
  refine enter Tryz.func125 rfl rfl ?_
  intro K hm0 hks
  refine w_seq ?_
  refine w_region ?_
  refine wl_val rfl rfl rfl (x_assign rfl) ?_
  refine wl_nil ?_
  refine at_seq ?_
  refine w_seq ?_
  refine w_region ?_
  refine wl_val rfl rfl rfl (x_move rfl) ?_
  refine wl_calld0 rfl rfl rfl Tryz.c178 (copyCheck_ok hT h) ?_; rintro v1 m1 H1 hm1 ⟨rfl, v, Hs, hown, rfl⟩
  refine wl_nil ?_
  refine at_seq ?_
  refine w_seq ?_
  refine w_region ?_
  refine wl_val rfl rfl rfl (x_move rfl) ?_
  refine wl_val rfl rfl rfl (x_move rfl) ?_
  refine wl_val rfl rfl rfl (x_nilCheck rfl) ?_
  refine wl_val rfl rfl rfl (x_fieldAddr Tryz.underlying115 rfl Tryz.size67 rfl) ?_
  refine wl_val rfl rfl rfl (x_load Tryz.plain67 rfl (rowH1 (.head _) rfl)) ?_
  refine wl_val rfl rfl rfl (x_move rfl) ?_
  refine wl_buildSlice rfl rfl Tryz.underlying67 Tryz.size5 Tryz.zero5 rfl rfl rfl rfl rfl ?_; intro b13
  refine wl_append (cells := bsv L) (news := [_]) rfl rfl rfl Tryz.underlying67 Tryz.underlying67 Tryz.size5 Tryz.bytes5 Tryz.zero5 rfl (by omega) rfl hown (List.perm_append_comm (l₁ := [_, _])) rfl rfl (.inr ⟨_, 0, rfl, rowH0 (.head _)⟩) (by simp [Value.oneCell']) (by simp [bsv]; omega) (by simp [bsv]; omega) ?_; intro vo' Hs' hown'; refine wl_perm List.perm_append_comm ?_; refine wl_drop1 ?_
  obtain ⟨a0, l0, c0, rfl⟩ := hown'.slice
  refine wl_val rfl rfl rfl (x_nilCheck rfl) ?_
  refine wl_val rfl rfl rfl (x_fieldAddr Tryz.underlying115 rfl Tryz.size67 rfl) ?_
  refine wl_store rfl Tryz.size67 rfl rfl rfl (by simp) ?_
  refine wl_nil ?_
  refine at_seq ?_
  refine w_seq ?_
  refine w_region ?_
  refine wl_val rfl rfl rfl (x_assign rfl) ?_
  refine wl_nil ?_
  refine at_seq ?_
  refine w_ret ?_
  refine at_end (res1 rfl rfl) ?_
  exact ⟨rfl, _, _, _, .inr rfl, by rw [bsv_snoc]; exact hown', rfl⟩
theorem WriteString_ok {m : Mem} {T : TypeId} {b : Nat} {L s : List UInt8} {H : Hp} (hT : BT T) (h : Bld T b L H) (hl : L.length + s.length ≤ 35184372088832) : Does Tryz.prog 124 #[.pointer (some ⟨b, 0, none⟩), .string (B s)] m H fun r _ H' => r = .tuple #[.int .i64 s.length, .nilIface] ∧ Bld T b (L ++ s) H' := by
  refine enter Tryz.func124 rfl rfl ?_
  intro K hm0 hks
  refine w_seq ?_
  refine w_region ?_
  refine wl_val rfl rfl rfl (x_assign rfl) ?_
  refine wl_val rfl rfl rfl (x_assign rfl) ?_
  refine wl_nil ?_
  refine at_seq ?_
  refine w_seq ?_
  refine w_region ?_
  refine wl_val rfl rfl rfl (x_move rfl) ?_
  refine wl_calld0 rfl rfl rfl Tryz.c178 (copyCheck_ok hT h) ?_; rintro v1 m1 H1 hm1 ⟨rfl, v, Hs, hown, rfl⟩
  refine wl_nil ?_
  refine at_seq ?_
  refine w_seq ?_
  refine w_region ?_
  refine wl_val rfl rfl rfl (x_move rfl) ?_
  refine wl_val rfl rfl rfl (x_move rfl) ?_
  refine wl_val rfl rfl rfl (x_nilCheck rfl) ?_
  refine wl_val rfl rfl rfl (x_fieldAddr Tryz.underlying115 rfl Tryz.size67 rfl) ?_
  refine wl_val rfl rfl rfl (x_load Tryz.plain67 rfl (rowH1 (.head _) rfl)) ?_
  refine wl_val rfl rfl rfl (x_move rfl) ?_
  refine wl_appendS (cells := bsv L) rfl rfl rfl Tryz.underlying67 Tryz.underlying9 Tryz.size5 Tryz.bytes5 Tryz.zero5 rfl rfl hown (List.perm_append_comm (l₁ := [_])) rfl (by rw [B_size]; simp [bsv]; omega) (by rw [B_size]; simp [bsv]; omega) ?_; intro vo' Hs' hown'; refine wl_perm List.perm_append_comm ?_
  obtain ⟨a0, l0, c0, rfl⟩ := hown'.slice
  refine wl_val rfl rfl rfl (x_nilCheck rfl) ?_
  refine wl_val rfl rfl rfl (x_fieldAddr Tryz.underlying115 rfl Tryz.size67 rfl) ?_
  refine wl_store rfl Tryz.size67 rfl rfl rfl (by simp) ?_
  refine wl_nil ?_
  refine at_seq ?_
  refine w_seq ?_
  refine w_region ?_
  refine wl_val rfl rfl rfl (x_move rfl) ?_
  refine wl_val rfl rfl rfl (x_lenS Tryz.underlying9 rfl rfl) ?_
  refine wl_val rfl rfl rfl (x_assign rfl) ?_
  refine wl_val rfl rfl rfl (x_assign rfl) ?_
  refine wl_nil ?_
  refine at_seq ?_
  refine w_ret ?_
  refine at_end (res2 rfl rfl rfl) ?_
  exact ⟨by rw [B_size], _, _, _, .inr rfl, by rw [bsv_append, ← ssv_B s]; exact hown', rfl⟩
theorem BLen_ok {m : Mem} {T : TypeId} {b : Nat} {L : List UInt8} {H : Hp} (h : Bld T b L H) : Does Tryz.prog 131 #[.pointer (some ⟨b, 0, none⟩)] m H fun r _ H' => r = .int .i64 L.length ∧ H' = H := by
  obtain ⟨a, v, Hs, ha, hown, rfl⟩ := h
  obtain ⟨a0, l0, c0, rfl⟩ := hown.slice
  have hlen := hown.len
  refine enter Tryz.func131 rfl rfl ?_
  intro K hm0 hks
  refine w_seq ?_
  refine w_region ?_
  refine wl_val rfl rfl rfl (x_assign rfl) ?_
  refine wl_nil ?_
  refine at_seq ?_
  refine w_seq ?_
  refine w_region ?_
  refine wl_val rfl rfl rfl (x_move rfl) ?_
  refine wl_val rfl rfl rfl (x_nilCheck rfl) ?_
  refine wl_val rfl rfl rfl (x_fieldAddr Tryz.underlying115 rfl Tryz.size67 rfl) ?_
  refine wl_val rfl rfl rfl (x_load Tryz.plain67 rfl (rowH1 (.head _) rfl)) ?_
  refine wl_val rfl rfl rfl (x_len Tryz.underlying67 rfl rfl) ?_
  refine wl_val rfl rfl rfl (x_assign rfl) ?_
  refine wl_nil ?_
  refine at_seq ?_
  refine w_ret ?_
  refine at_end (res1 rfl rfl) ?_
  exact ⟨by rw [bsv_length] at hlen; rw [hlen, Nat.mul_one], rfl⟩
theorem BString_ok {m : Mem} {T : TypeId} {b : Nat} {L : List UInt8} {H : Hp} (h : Bld T b L H) (h0 : L ≠ []) (hl : L.length ≤ 35184372088832) : Does Tryz.prog 76 #[.pointer (some ⟨b, 0, none⟩)] m H fun r _ H' => r = .string (B L) ∧ H' = [] := by
  obtain ⟨a, v, Hs, ha, hown, rfl⟩ := h
  obtain ⟨bo, cap, junk, rfl, hcap, rfl⟩ := own_some hown h0
  have hl1 : 0 < L.length := List.length_pos_iff.2 h0
  refine enter Tryz.func76 rfl rfl ?_
  intro K hm0 hks
  refine w_seq ?_
  refine w_region ?_
  refine wl_val rfl rfl rfl (x_assign rfl) ?_
  refine wl_nil ?_
  refine at_seq ?_
  refine w_seq ?_
  refine dr_start [] [[], [0], [1], [2], [3], [], [5], [6], [7], [8]] ?_
  refine dr_val rfl rfl (fun m' hm' => ds_val rfl (x_move rfl)) ?_
  refine dr_val rfl rfl (fun m' hm' => ds_val rfl (x_nilCheck rfl)) ?_
  refine dr_val rfl rfl (fun m' hm' => ds_val rfl (x_fieldAddr Tryz.underlying115 rfl Tryz.size67 rfl)) ?_
  refine dr_val rfl rfl (fun m' hm' => ds_val rfl (x_load Tryz.plain67 rfl (rowH1 (.head _) rfl))) ?_
  refine dr_val rfl rfl (fun m' hm' => ds_val rfl (x_sliceData (by omega) rfl)) ?_
  refine dr_val rfl rfl (fun m' hm' => ds_val rfl (x_move rfl)) ?_
  refine dr_val rfl rfl (fun m' hm' => ds_val rfl (x_nilCheck rfl)) ?_
  refine dr_val rfl rfl (fun m' hm' => ds_val rfl (x_fieldAddr Tryz.underlying115 rfl Tryz.size67 rfl)) ?_
  refine dr_val rfl rfl (fun m' hm' => ds_val rfl (x_load Tryz.plain67 rfl (rowH1 (.head _) rfl))) ?_
  refine dr_val rfl rfl (fun m' hm' => ds_val rfl (x_len Tryz.underlying67 rfl rfl)) ?_
  refine dr_done (k := 10) Tryz.mixed rfl rfl rfl fun m1 hm_m1 => ?_
  show WL _ _ _ _ _ _ _ _ _
  refine wl_front1 ?_; refine wl_unsafeString rfl rfl rfl (by exact Tryz.underlying191) (by decide +kernel) rfl rfl rfl rfl h0 (by omega) ?_; refine wl_drop1 ?_
  refine wl_val rfl rfl rfl (x_assign rfl) ?_
  refine wl_nil ?_
  refine at_seq ?_
  refine w_ret ?_
  refine at_end (res1 rfl rfl) ?_
  exact ⟨rfl, rfl⟩
end Go.Cy

