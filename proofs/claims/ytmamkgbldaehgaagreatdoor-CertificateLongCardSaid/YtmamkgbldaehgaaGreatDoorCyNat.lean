/- natural numbers in memory: trim, Normal, Of, IsZero, Cmp. -/
import Derived.Test.YtmamkgbldaehgaaGreatDoorCyDig
import Derived.Test.YtmamkgbldaehgaaGreatDoorCyBits
namespace Go.Cy
open Go Go.Proofs

def dsv (ds : List Nat) : List Value := ds.map fun (d : Nat) => Value.int .u32 d
theorem dsv_length (ds : List Nat) : (dsv ds).length = ds.length := by simp [dsv]
theorem dsv_one (ds : List Nat) : ∀ u ∈ dsv ds, u.oneCell' = true := by
  intro u hu
  simp only [dsv, List.mem_map] at hu
  obtain ⟨d, _, rfl⟩ := hu
  rfl
theorem dsv_set (ds : List Nat) (k d : Nat) : (dsv ds).set k (.int .u32 d) = dsv (ds.set k d) := by simp [dsv, List.map_set]
theorem dsv_setAs {ds : List Nat} {o k d d' : Nat} (ho : o = k) (hd : d = d') : (dsv ds).set o (.int .u32 d) = dsv (ds.set k d') := by subst ho; subst hd; exact dsv_set ds o d
theorem dsv_zero (k : Nat) : reps k [.int .u32 0] = dsv (List.replicate k 0) := by rw [reps_one]; simp [dsv]
theorem dsv_append (xs ys : List Nat) : dsv (xs ++ ys) = dsv xs ++ dsv ys := by simp [dsv]

/-- A slice of digits. -/
def Dg (m : Mem) (v : Value) (ds : List Nat) : Prop :=
  okd ds ∧ ds.length ≤ 35184372088832 ∧ ∃ a cap, v = .slice a ds.length cap ∧ ds.length ≤ cap ∧ (0 < ds.length → ∃ b o, a = some ⟨b, o, none⟩ ∧ Row m [] b o (dsv ds))
/-- A natural number; leading zeros are permitted. -/
def Nt (m : Mem) (v : Value) (n : Nat) : Prop := ∃ ds, Dg m v ds ∧ nv ds = n
/-- A natural number without leading zeros. -/
def Nn (m : Mem) (v : Value) (n : Nat) : Prop := ∃ ds, Dg m v ds ∧ nv ds = n ∧ norm ds

theorem Dg.up {m m' : Mem} {v : Value} {ds : List Nat} (h : Dg m v ds) (hm : m.le m') : Dg m' v ds := by
  obtain ⟨h1, h2, a, cap, h3, h4, h5⟩ := h
  exact ⟨h1, h2, a, cap, h3, h4, fun h0 => by obtain ⟨b, o, h6, h7⟩ := h5 h0; exact ⟨b, o, h6, h7.up hm⟩⟩
theorem Nn.nt {m : Mem} {v : Value} {n : Nat} (h : Nn m v n) : Nt m v n := by obtain ⟨ds, h1, h2, _⟩ := h; exact ⟨ds, h1, h2⟩
theorem Nn.up {m m' : Mem} {v : Value} {n : Nat} (h : Nn m v n) (hm : m.le m') : Nn m' v n := by obtain ⟨ds, h1, h2, h3⟩ := h; exact ⟨ds, h1.up hm, h2, h3⟩
theorem Nt.up {m m' : Mem} {v : Value} {n : Nat} (h : Nt m v n) (hm : m.le m') : Nt m' v n := by obtain ⟨ds, h1, h2⟩ := h; exact ⟨ds, h1.up hm, h2⟩
theorem Nn.eq {m : Mem} {v : Value} {n n' : Nat} (h : Nn m v n) (e : n = n') : Nn m v n' := e ▸ h

theorem dsv_get {ds : List Nat} {i : Nat} (h : i < ds.length) : (dsv ds)[i]? = some (.int .u32 (ds[i] : Nat)) := by simp [dsv, h]
theorem Dg.take {m : Mem} {a : Option Addr} {cap : Nat} {ds : List Nat} (h : Dg m (.slice a ds.length cap) ds) {k : Nat} (hk : k ≤ ds.length) : Dg m (.slice a k cap) (ds.take k) := by
  obtain ⟨h1, h2, a', cap', h3, h4, h5⟩ := h
  simp only [Value.slice.injEq, true_and] at h3
  obtain ⟨rfl, rfl⟩ := h3
  refine ⟨okd_take h1 k, by simp; omega, a, cap, by simp [Nat.min_eq_left hk], by simp; omega, fun h0 => ?_⟩
  simp at h0
  obtain ⟨b, o, h6, h7⟩ := h5 (by omega)
  refine ⟨b, o, h6, h7.sub 0 (by omega) fun j hj => ?_⟩
  simp [dsv] at hj ⊢
  rw [List.getElem?_take]
  simp [show j < k by omega]
/-- A block of digits that is written no more. -/
theorem Dg.made {m : Mem} {b : Nat} {T : TypeId} {ds : List Nat} (hm : m b = some (cl T (dsv ds))) (ho : okd ds) (hl : ds.length ≤ 35184372088832) : Dg m (.slice (some ⟨b, 0, none⟩) ds.length ds.length) ds :=
  ⟨ho, hl, _, _, rfl, Nat.le_refl _, fun _ => ⟨b, 0, rfl, rowM hm fun i _ => by simp⟩⟩
theorem Dg.src {m : Mem} {H : Hp} {a : Option Addr} {ds : List Nat} (hr : 0 < ds.length → ∃ b o, a = some ⟨b, o, none⟩ ∧ Row m [] b o (dsv ds)) : ds.length = 0 ∨ ∃ b o, a = some ⟨b, o, none⟩ ∧ Row m H b o (dsv ds) := by
  rcases Nat.eq_zero_or_pos ds.length with h | h
  · exact .inl h
  · obtain ⟨b, o, h1, h2⟩ := hr h
    exact .inr ⟨b, o, h1, h2.heap⟩

theorem trim_ok {m : Mem} {v : Value} {x : Nat} (h : Nt m v x) : Pure Tryz.prog 151 #[v] m fun v' m' => Nn m' v' x := by
  obtain ⟨ds, hd, rfl⟩ := h
  have hd0 := hd
  obtain ⟨hb, hl, a, cap, rfl, hc, hr⟩ := hd
  refine enterp Tryz.func151 rfl rfl ?_
  intro K hm0 hks
  refine w_seq ?_
  refine w_region ?_
  refine wl_val rfl rfl rfl (x_assign rfl) ?_
  refine wl_nil ?_
  refine at_seq ?_
  refine w_seq ?_
  refine w_region ?_
  refine wl_val rfl rfl rfl (x_move rfl) ?_
  refine wl_val rfl rfl rfl (x_len Tryz.underlying47 rfl rfl) ?_
  refine wl_val rfl rfl rfl (x_assign rfl) ?_
  refine wl_nil ?_
  refine at_seq ?_
  refine w_seq ?_
  refine w_block ?_
  refine w_loop (fun k m' H' env' => k ≤ ds.length ∧ m' = m ∧ H' = [] ∧ env' = [(0, .slice a ds.length cap), (3, .int .i64 k)] ∧ nv (ds.take k) = nv ds) ds.length [(0, .slice a ds.length cap), (3, .int .i64 ds.length)] ⟨Nat.le_refl _, rfl, rfl, rfl, by simp⟩ ⟨rfl, rfl, trivial⟩ ?_
  rintro k m' H' env' ⟨hk, rfl, rfl, rfl, hv⟩
  refine w_seq ?_
  refine w_seq ?_
  refine w_region ?_
  refine wl_val rfl rfl rfl (x_move rfl) ?_
  refine wl_val rfl rfl rfl (x_gtr rfl rfl) ?_
  refine wl_val rfl rfl rfl (x_move rfl) ?_
  refine wl_splitp (t := 8) rfl (fun h0 => ?_) (fun h0 => ?_)
  · skip
    obtain ⟨b, o, rfl, hrow⟩ := hr (by omega)
    have hk1 : k - 1 < ds.length := by omega
    refine wl_val rfl rfl rfl (x_move rfl) ?_
    refine wl_val rfl rfl rfl (x_move rfl) ?_
    refine wl_val rfl rfl rfl (x_sub rfl rfl (wrap_i64 (by omega) (by omega))) ?_
    refine wl_val rfl rfl rfl (x_index Tryz.underlying47 Tryz.size51 rfl rfl (j := (k - 1)) (by omega) (by omega)) ?_
    refine wl_val rfl rfl rfl (x_load Tryz.plain51 rfl ((hrow.nth (k - 1) (dsv_get hk1) (by omega)))) ?_
    refine wl_val rfl rfl rfl (x_eql rfl rfl) ?_
    refine wl_val rfl rfl rfl (x_pick_t rfl rfl) ?_
    refine wl_nil ?_
    refine at_seq ?_
    refine w_if rfl (fun h1 => ?_) (fun h1 => ?_)
    · skip
      refine w_skip ?_
      refine at_seq ?_
      refine w_block ?_
      refine w_region ?_
      refine wl_val rfl rfl rfl (x_move rfl) ?_
      refine wl_val rfl rfl rfl (x_sub rfl rfl (wrap_i64 (by omega) (by omega))) ?_
      refine wl_val rfl rfl rfl (x_assign rfl) ?_
      refine wl_nil ?_
      refine at_block_normal ?_
      exact at_again (k - 1) [(0, .slice (some ⟨b, o, none⟩) ds.length cap), (3, .int .i64 ((k - 1 : Nat) : Int))] (by omega) ⟨by omega, rfl, rfl, rfl, by rw [← hv, ← nv_take_pred hk1 (by omega), show k - 1 + 1 = k by omega]⟩ ⟨rfl, lk_int rfl (by omega), trivial⟩
    · skip
      refine w_exit ?_
      refine at_then_exit ?_
      refine at_then_exit ?_
      refine at_block_hit ?_
      refine at_seq ?_
      refine w_seq ?_
      refine w_region ?_
      refine wl_val rfl rfl rfl (x_move rfl) ?_
      refine wl_val rfl rfl rfl (x_move rfl) ?_
      refine wl_val rfl rfl rfl (x_sliceTo Tryz.underlying47 Tryz.size51 rfl rfl (by omega)) ?_
      refine wl_val rfl rfl rfl (x_assign rfl) ?_
      refine wl_nil ?_
      refine at_seq ?_
      refine w_ret ?_
      refine at_endp (res1 rfl rfl) ?_
      exact ⟨ds.take k, hd0.take hk, hv, norm_take hk1 (by omega)⟩
  · skip
    obtain rfl : k = 0 := by omega
    refine wl_off rfl rfl rfl ?_
    refine wl_off rfl rfl rfl ?_
    refine wl_off rfl rfl rfl ?_
    refine wl_off rfl rfl rfl ?_
    refine wl_off rfl rfl rfl ?_
    refine wl_off rfl rfl rfl ?_
    refine wl_val rfl rfl rfl (x_pick_f rfl rfl) ?_
    refine wl_nil ?_
    refine at_seq ?_
    refine w_false rfl ?_
    refine w_exit ?_
    refine at_then_exit ?_
    refine at_then_exit ?_
    refine at_block_hit ?_
    refine at_seq ?_
    refine w_seq ?_
    refine w_region ?_
    refine wl_val rfl rfl rfl (x_move rfl) ?_
    refine wl_val rfl rfl rfl (x_move rfl) ?_
    refine wl_val rfl rfl rfl (x_sliceTo Tryz.underlying47 Tryz.size51 rfl rfl (by omega)) ?_
    refine wl_val rfl rfl rfl (x_assign rfl) ?_
    refine wl_nil ?_
    refine at_seq ?_
    refine w_ret ?_
    refine at_endp (res1 rfl rfl) ?_
    exact ⟨[], hd0.take (Nat.zero_le _), by simpa using hv, norm_nil⟩

theorem Normal_ok {m : Mem} {v : Value} {x : Nat} (h : Nt m v x) : Pure Tryz.prog 123 #[v] m fun v' m' => Nn m' v' x := by
  refine enterp Tryz.func123 rfl rfl ?_
  intro K hm0 hks
  refine w_seq ?_
  refine w_region ?_
  refine wl_val rfl rfl rfl (x_assign rfl) ?_
  refine wl_nil ?_
  refine at_seq ?_
  refine w_seq ?_
  refine w_region ?_
  refine wl_val rfl rfl rfl (x_move rfl) ?_
  refine wl_callp rfl rfl rfl Tryz.c151 (trim_ok h) ?_; rintro v1 m1 hm1 ⟨ds, ⟨hb, hl, a, cap, rfl, hc, hr⟩, rfl, hn⟩
  refine wl_val rfl rfl rfl (x_assign rfl) ?_
  refine wl_nil ?_
  refine at_seq ?_
  refine w_seq ?_
  refine w_region ?_
  refine wl_val rfl rfl rfl (x_move rfl) ?_
  refine wl_val rfl rfl rfl (x_len Tryz.underlying47 rfl rfl) ?_
  refine wl_make (N := ds.length) rfl rfl Tryz.underlying47 Tryz.size51 Tryz.bytes51 Tryz.zero51 rfl rfl rfl (by omega) (by omega) (by omega) (by omega) ?_; intro b8
  refine wl_val rfl rfl rfl (x_assign rfl) ?_
  refine wl_nil ?_
  refine at_seq ?_
  refine w_seq ?_
  refine w_region ?_
  refine wl_val rfl rfl rfl (x_move rfl) ?_
  refine wl_val rfl rfl rfl (x_move rfl) ?_
  refine wl_copy rfl rfl rfl Tryz.underlying47 Tryz.size51 rfl rfl rfl (Nat.le_refl _) (by rw [dsv_length, Nat.mul_one]) (Dg.src hr) (dsv_one ds) (by simp [reps_length, dsv_length]) ?_; rw [splice_all _ _ (by simp [reps_length, dsv_length])]
  refine wl_freeze ?_; intro hfz
  refine wl_nil ?_
  refine at_seq ?_
  refine w_seq ?_
  refine w_region ?_
  refine wl_val rfl rfl rfl (x_move rfl) ?_
  refine wl_val rfl rfl rfl (x_assign rfl) ?_
  refine wl_nil ?_
  refine at_seq ?_
  refine w_ret ?_
  refine at_endp (res1 rfl rfl) ?_
  exact ⟨ds, Dg.made (Mem.add_at _ _ _) hb hl, rfl, hn⟩

theorem Of_ok {m : Mem} {x : Nat} (h : x < 18446744073709551616) : Pure Tryz.prog 66 #[.int .u64 x] m fun v' m' => Nn m' v' x := by
  refine enterp Tryz.func66 rfl rfl ?_
  intro K hm0 hks
  refine w_seq ?_
  refine w_region ?_
  refine wl_val rfl rfl rfl (x_assign rfl) ?_
  refine wl_nil ?_
  refine at_seq ?_
  refine w_seq ?_
  refine w_region ?_
  refine wl_val rfl rfl rfl (x_move rfl) ?_
  refine wl_val rfl rfl rfl (x_conv Tryz.underlying111 Tryz.underlying51 rfl (u32m (r := x % 4294967296) (by omega))) ?_
  refine wl_val rfl rfl rfl (x_move rfl) ?_
  refine wl_val rfl rfl rfl (x_shr rfl rfl (by omega) (shr32_64 _)) ?_
  refine wl_val rfl rfl rfl (x_conv Tryz.underlying111 Tryz.underlying51 rfl (u32n (r := x / 4294967296) (by omega) (by omega))) ?_
  refine wl_buildSlice rfl rfl Tryz.underlying47 Tryz.size51 Tryz.zero51 rfl rfl rfl rfl rfl ?_; intro b8
  refine wl_freeze ?_; intro hfz
  refine wl_callp rfl rfl rfl Tryz.c123 (Normal_ok ⟨[x % 4294967296, x / 4294967296], Dg.made (ds := [x % 4294967296, x / 4294967296]) (Mem.add_at _ _ _) (fun d hd => by simp at hd; omega) (by simp), rfl⟩) ?_; rintro v1 m1 hm1 hv1
  refine wl_val rfl rfl rfl (x_assign rfl) ?_
  refine wl_nil ?_
  refine at_seq ?_
  refine w_ret ?_
  refine at_endp (res1 rfl rfl) ?_
  exact hv1.eq (by simp [nv]; omega)

theorem IsZero_ok {m : Mem} {v : Value} {x : Nat} (h : Nt m v x) : Pure Tryz.prog 100 #[v] m fun v' _ => v' = .bool (decide (x = 0)) := by
  refine enterp Tryz.func100 rfl rfl ?_
  intro K hm0 hks
  refine w_seq ?_
  refine w_region ?_
  refine wl_val rfl rfl rfl (x_assign rfl) ?_
  refine wl_nil ?_
  refine at_seq ?_
  refine w_seq ?_
  refine w_region ?_
  refine wl_val rfl rfl rfl (x_move rfl) ?_
  refine wl_callp rfl rfl rfl Tryz.c151 (trim_ok h) ?_; rintro v1 m1 hm1 ⟨ds, ⟨hb, hl, a, cap, rfl, hc, hr⟩, rfl, hn⟩
  refine wl_val rfl rfl rfl (x_len Tryz.underlying47 rfl rfl) ?_
  refine wl_val rfl rfl rfl (x_eql rfl rfl) ?_
  refine wl_val rfl rfl rfl (x_assign rfl) ?_
  refine wl_nil ?_
  refine at_seq ?_
  refine w_ret ?_
  refine at_endp (res1 rfl rfl) ?_
  have := nv_eq_zero hn
  by_cases h0 : ds = []
  · subst h0; simp [nv]
  · have h1 : nv ds ≠ 0 := fun e => h0 (this.1 e)
    have h2 : ds.length ≠ 0 := fun e => h0 (List.length_eq_zero_iff.1 e)
    simp [h1]; omega
end Go.Cy

