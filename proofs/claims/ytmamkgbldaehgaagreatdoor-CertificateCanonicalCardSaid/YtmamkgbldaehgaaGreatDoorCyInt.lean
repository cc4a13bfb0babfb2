/- math/bits on 32-bit digits. -/
import Derived.Test.YtmamkgbldaehgaaGreatDoorCyFacts
import Derived.Test.YtmamkgbldaehgaaGreatDoorCyDig
namespace Go.Cy
open Go Go.Proofs

theorem i64n {p : Int} {r : Nat} (h : p = r) (h2 : r ≤ 9223372036854775807) : IntKind.i64.wrap p = (r : Int) := by rw [wrap_i64 (by omega) (by omega)]; exact h
theorem u64n {p : Int} {r : Nat} (h : p = r) (h2 : r ≤ 18446744073709551615) : IntKind.u64.wrap p = (r : Int) := by rw [wrap_u64_in (by omega) (by omega)]; exact h
theorem u32n {p : Int} {r : Nat} (h : p = r) (h2 : r ≤ 4294967295) : IntKind.u32.wrap p = (r : Int) := by rw [wrap_u32_in (by omega) (by omega)]; exact h
theorem u32m {p : Int} {r : Nat} (h : p % 4294967296 = r) : IntKind.u32.wrap p = (r : Int) := by rw [wrap_u32]; exact h
theorem u64m {p : Int} {r : Nat} (h : p % 18446744073709551616 = r) : IntKind.u64.wrap p = (r : Int) := by rw [wrap_u64]; exact h
theorem shr_nat (p k b : Nat) (h : k ≤ b) : ((p : Int)).fdiv (2 ^ (min ((k : Int).toNat) b)) = ((p / 2 ^ k : Nat) : Int) := by
  rw [Int.toNat_natCast, Nat.min_eq_left h, Int.fdiv_eq_ediv_of_nonneg _ (by exact Int.pow_nonneg (by omega))]
  simp
theorem shr32_64 (p : Nat) : ((p : Int)).fdiv (2 ^ (min ((32 : Int).toNat) (IntKind.bits .u64))) = ((p / 4294967296 : Nat) : Int) := shr_nat p 32 64 (by omega)

def two (a b : Nat) : Value := .tuple #[.int .u32 a, .int .u32 b]

theorem add32_ok {m : Mem} {x y c : Nat} (hx : x < 4294967296) (hy : y < 4294967296) (hc : c ≤ 1) : Pure Tryz.prog 156 #[.int .u32 x, .int .u32 y, .int .u32 c] m fun v _ => v = two ((x + y + c) % 4294967296) ((x + y + c) / 4294967296) := by
  refine enterp Tryz.func156 rfl rfl ?_
  intro K hm0 hks
  refine wsr ?_
  refine was ?_
  refine was ?_
  refine wnr ?_
  refine wmv ?_
  refine wv (x_conv Tryz.underlying51 Tryz.underlying111 rfl (u64n (r := x) (by omega) (by omega))) ?_
  refine wmv ?_
  refine wv (x_conv Tryz.underlying51 Tryz.underlying111 rfl (u64n (r := y) (by omega) (by omega))) ?_
  refine wv (x_add rfl rfl (u64n (r := x + y) (by omega) (by omega))) ?_
  refine wmv ?_
  refine wv (x_conv Tryz.underlying51 Tryz.underlying111 rfl (u64n (r := c) (by omega) (by omega))) ?_
  refine wv (x_add rfl rfl (u64n (r := x + y + c) (by omega) (by omega))) ?_
  refine was ?_
  refine wnr ?_
  refine wmv ?_
  refine wv (x_conv Tryz.underlying111 Tryz.underlying51 rfl (u32m (r := (x + y + c) % 4294967296) (by omega))) ?_
  refine was ?_
  refine wnr ?_
  refine wmv ?_
  refine wv (x_shr rfl rfl (by omega) (shr32_64 _)) ?_
  refine wv (x_conv Tryz.underlying111 Tryz.underlying51 rfl (u32n (r := (x + y + c) / 4294967296) (by omega) (by omega))) ?_
  refine was ?_
  refine wns ?_
  refine w_ret ?_
  refine at_endp (res2 rfl rfl rfl) ?_
  rfl

theorem sub32_ok {m : Mem} {x y b : Nat} (hx : x < 4294967296) (hy : y < 4294967296) (hb : b ≤ 1) : Pure Tryz.prog 158 #[.int .u32 x, .int .u32 y, .int .u32 b] m fun v _ => v = two ((x + 8589934592 - y - b) % 4294967296) (if x < y + b then 1 else 0) := by
  have g1 : 4294967295 ^^^ x < 4294967296 := Nat.xor_lt_two_pow (n := 32) (by omega) hx
  have g2 : x ^^^ y < 4294967296 := Nat.xor_lt_two_pow (n := 32) hx hy
  have g3 : 4294967295 ^^^ (x ^^^ y) < 4294967296 := Nat.xor_lt_two_pow (n := 32) (by omega) g2
  have g4 : (4294967295 ^^^ x) &&& y < 4294967296 := Nat.lt_of_le_of_lt Nat.and_le_left g1
  have g5 : (4294967295 ^^^ (x ^^^ y)) &&& ((x + 8589934592 - y - b) % 4294967296) < 4294967296 := Nat.lt_of_le_of_lt Nat.and_le_left g3
  refine enterp Tryz.func158 rfl rfl ?_
  intro K hm0 hks
  refine wsr ?_
  refine was ?_
  refine was ?_
  refine wnr ?_
  refine wmv ?_
  refine wmv ?_
  refine wv (x_sub rfl rfl (u32m (r := (x + 4294967296 - y) % 4294967296) (by omega))) ?_
  refine wmv ?_
  refine wv (x_sub rfl rfl (u32m (r := (x + 8589934592 - y - b) % 4294967296) (by omega))) ?_
  refine was ?_
  refine wnr ?_
  refine wmv ?_
  refine wv (x_bnot32 (by omega) rfl) ?_
  refine wmv ?_
  refine wv (x_and rfl rfl (and_u32 g1)) ?_
  refine wmv ?_
  refine wmv ?_
  refine wv (x_xor rfl rfl (xor_u32 hx hy)) ?_
  refine wv (x_bnot32 (by omega) rfl) ?_
  refine wmv ?_
  refine wv (x_and rfl rfl (and_u32 g3)) ?_
  refine wv (x_or rfl rfl (or_u32 g4 g5)) ?_
  refine wv (x_shr rfl rfl (by omega) (shr_nat _ 31 32 (by omega))) ?_
  refine was ?_
  refine wns ?_
  refine w_ret ?_
  refine at_endp (res2 rfl rfl rfl) ?_
  show two _ _ = _
  rw [show (2 : Nat) ^ 31 = 2147483648 from rfl, borrow32 hx hy hb]

theorem mul32_ok {m : Mem} {x y : Nat} (hx : x < 4294967296) (hy : y < 4294967296) : Pure Tryz.prog 252 #[.int .u32 x, .int .u32 y] m fun v _ => v = two (x * y / 4294967296) (x * y % 4294967296) := by
  have h1 : x * y ≤ 4294967295 * 4294967295 := Nat.mul_le_mul (by omega) (by omega)
  refine enterp Tryz.func252 rfl rfl ?_
  intro K hm0 hks
  refine wsr ?_
  refine was ?_
  refine was ?_
  refine wnr ?_
  refine wmv ?_
  refine wv (x_conv Tryz.underlying51 Tryz.underlying111 rfl (u64n (r := x) (by omega) (by omega))) ?_
  refine wmv ?_
  refine wv (x_conv Tryz.underlying51 Tryz.underlying111 rfl (u64n (r := y) (by omega) (by omega))) ?_
  refine wv (x_mul rfl rfl (u64n (r := x * y) (by simp) (by omega))) ?_
  refine was ?_
  refine wnr ?_
  refine wmv ?_
  refine wv (x_shr rfl rfl (by omega) (shr32_64 _)) ?_
  refine wv (x_conv Tryz.underlying111 Tryz.underlying51 rfl (u32n (r := x * y / 4294967296) (by omega) (by omega))) ?_
  refine wmv ?_
  refine wv (x_conv Tryz.underlying111 Tryz.underlying51 rfl (u32m (r := x * y % 4294967296) (by omega))) ?_
  refine was ?_
  refine was ?_
  refine wns ?_
  refine w_ret ?_
  refine at_endp (res2 rfl rfl rfl) ?_
  rfl
end Go.Cy


/- natural numbers in memory: trim, Normal, Of, IsZero, Cmp. -/
namespace Go.Cy
open Go Go.Proofs

def dsv (ds : List Nat) : List Value := ds.map fun (d : Nat) => Value.int .u32 d
theorem dsv_length (ds : List Nat) : (dsv ds).length = ds.length := by simp [dsv]
theorem dsv_one (ds : List Nat) : ∀ u ∈ dsv ds, u.oneCell' = true := by
  intro u hu
  simp only [dsv, List.mem_map] at hu
  obtain ⟨d, _, rfl⟩ := hu
  rfl
theorem dsv_set (ds : List Nat) (k d : Nat) : (dsv ds).set k (.int .u32 d) = dsv (ds.set k d) := by simp [dsv, List.map_set]
theorem dsv_setAs {ds : List Nat} {o k d d' : Nat} (ho : o = k) (hd : d = d') : (dsv ds).set o (.int .u32 d) = dsv (ds.set k d') := by subst ho; subst hd; exact dsv_set ds o d
theorem dsv_zero (k : Nat) : reps k [.int .u32 0] = dsv (List.replicate k 0) := by rw [reps_one]; simp [dsv]
def Dg (m : Mem) (v : Value) (ds : List Nat) : Prop :=
  okd ds ∧ ds.length ≤ 35184372088832 ∧ ∃ a cap, v = .slice a ds.length cap ∧ ds.length ≤ cap ∧ (0 < ds.length → ∃ b o, a = some ⟨b, o, none⟩ ∧ Row m [] b o (dsv ds))
def Nt (m : Mem) (v : Value) (n : Nat) : Prop := ∃ ds, Dg m v ds ∧ nv ds = n
def Nn (m : Mem) (v : Value) (n : Nat) : Prop := ∃ ds, Dg m v ds ∧ nv ds = n ∧ norm ds

theorem Dg.up {m m' : Mem} {v : Value} {ds : List Nat} (h : Dg m v ds) (hm : m.le m') : Dg m' v ds := by
  obtain ⟨h1, h2, a, cap, h3, h4, h5⟩ := h
  exact ⟨h1, h2, a, cap, h3, h4, fun h0 => by obtain ⟨b, o, h6, h7⟩ := h5 h0; exact ⟨b, o, h6, h7.up hm⟩⟩
theorem Nn.nt {m : Mem} {v : Value} {n : Nat} (h : Nn m v n) : Nt m v n := by obtain ⟨ds, h1, h2, _⟩ := h; exact ⟨ds, h1, h2⟩
theorem Nn.up {m m' : Mem} {v : Value} {n : Nat} (h : Nn m v n) (hm : m.le m') : Nn m' v n := by obtain ⟨ds, h1, h2, h3⟩ := h; exact ⟨ds, h1.up hm, h2, h3⟩
theorem Nt.up {m m' : Mem} {v : Value} {n : Nat} (h : Nt m v n) (hm : m.le m') : Nt m' v n := by obtain ⟨ds, h1, h2⟩ := h; exact ⟨ds, h1.up hm, h2⟩
theorem Nn.eq {m : Mem} {v : Value} {n n' : Nat} (h : Nn m v n) (e : n = n') : Nn m v n' := e ▸ h

theorem dsv_get {ds : List Nat} {i : Nat} (h : i < ds.length) : (dsv ds)[i]? = some (.int .u32 (ds[i] : Nat)) := by simp [dsv, h]
theorem Dg.take {m : Mem} {a : Option Addr} {cap : Nat} {ds : List Nat} (h : Dg m (.slice a ds.length cap) ds) {k : Nat} (hk : k ≤ ds.length) : Dg m (.slice a k cap) (ds.take k) := by
  obtain ⟨h1, h2, a', cap', h3, h4, h5⟩ := h
  simp only [Value.slice.injEq, true_and] at h3
  obtain ⟨rfl, rfl⟩ := h3
  refine ⟨okd_take h1 k, by simp; omega, a, cap, by simp [Nat.min_eq_left hk], by simp; omega, fun h0 => ?_⟩
  simp at h0
  obtain ⟨b, o, h6, h7⟩ := h5 (by omega)
  refine ⟨b, o, h6, h7.sub 0 (by omega) fun j hj => ?_⟩
  simp [dsv] at hj ⊢
  rw [List.getElem?_take]
  simp [show j < k by omega]
theorem Dg.made {m : Mem} {b : Nat} {T : TypeId} {ds : List Nat} (hm : m b = some (cl T (dsv ds))) (ho : okd ds) (hl : ds.length ≤ 35184372088832) : Dg m (.slice (some ⟨b, 0, none⟩) ds.length ds.length) ds :=
  ⟨ho, hl, _, _, rfl, Nat.le_refl _, fun _ => ⟨b, 0, rfl, rowM hm fun i _ => by simp⟩⟩
theorem Dg.src {m : Mem} {H : Hp} {a : Option Addr} {ds : List Nat} (hr : 0 < ds.length → ∃ b o, a = some ⟨b, o, none⟩ ∧ Row m [] b o (dsv ds)) : ds.length = 0 ∨ ∃ b o, a = some ⟨b, o, none⟩ ∧ Row m H b o (dsv ds) := by
  rcases Nat.eq_zero_or_pos ds.length with h | h
  · exact .inl h
  · obtain ⟨b, o, h1, h2⟩ := hr h
    exact .inr ⟨b, o, h1, h2.heap⟩

theorem trim_ok {m : Mem} {v : Value} {x : Nat} (h : Nt m v x) : Pure Tryz.prog 151 #[v] m fun v' m' => Nn m' v' x := by
  obtain ⟨ds, hd, rfl⟩ := h
  have hd0 := hd
  obtain ⟨hb, hl, a, cap, rfl, hc, hr⟩ := hd
  refine enterp Tryz.func151 rfl rfl ?_
  intro K hm0 hks
  refine wsr ?_
  refine was ?_
  refine wnr ?_
  refine wmv ?_
  refine wv (x_len Tryz.underlying47 rfl rfl) ?_
  refine was ?_
  refine wns ?_
  refine w_seq ?_
  refine w_block ?_
  refine w_loop (fun k m' H' env' => k ≤ ds.length ∧ m' = m ∧ H' = [] ∧ env' = [(0, .slice a ds.length cap), (3, .int .i64 k)] ∧ nv (ds.take k) = nv ds) ds.length [(0, .slice a ds.length cap), (3, .int .i64 ds.length)] ⟨Nat.le_refl _, rfl, rfl, rfl, by simp⟩ ⟨rfl, rfl, trivial⟩ ?_
  rintro k m' H' env' ⟨hk, rfl, rfl, rfl, hv⟩
  refine w_seq ?_
  refine wsr ?_
  refine wmv ?_
  refine wv (x_gtr rfl rfl) ?_
  refine wmv ?_
  refine wl_splitp (t := 8) rfl (fun h0 => ?_) (fun h0 => ?_)
  · skip
    obtain ⟨b, o, rfl, hrow⟩ := hr (by omega)
    have hk1 : k - 1 < ds.length := by omega
    refine wmv ?_
    refine wmv ?_
    refine wv (x_sub rfl rfl (wrap_i64 (by omega) (by omega))) ?_
    refine wv (x_index Tryz.underlying47 Tryz.size51 rfl rfl (j := (k - 1)) (by omega) (by omega)) ?_
    refine wv (x_load Tryz.plain51 rfl ((hrow.nth (k - 1) (dsv_get hk1) (by omega)))) ?_
    refine wv (x_eql rfl rfl) ?_
    refine wv (x_pick_t rfl rfl) ?_
    refine wns ?_
    refine w_if rfl (fun h1 => ?_) (fun h1 => ?_)
    · skip
      refine w_skip ?_
      refine at_seq ?_
      refine w_block ?_
      refine w_region ?_
      refine wmv ?_
      refine wv (x_sub rfl rfl (wrap_i64 (by omega) (by omega))) ?_
      refine was ?_
      refine wl_nil ?_
      refine at_block_normal ?_
      exact at_again (k - 1) [(0, .slice (some ⟨b, o, none⟩) ds.length cap), (3, .int .i64 ((k - 1 : Nat) : Int))] (by omega) ⟨by omega, rfl, rfl, rfl, by rw [← hv, ← nv_take_pred hk1 (by omega), show k - 1 + 1 = k by omega]⟩ ⟨rfl, lk_int rfl (by omega), trivial⟩
    · skip
      refine w_exit ?_
      refine at_then_exit ?_
      refine at_then_exit ?_
      refine at_block_hit ?_
      refine at_seq ?_
      refine wsr ?_
      refine wmv ?_
      refine wmv ?_
      refine wv (x_sliceTo Tryz.underlying47 Tryz.size51 rfl rfl (by omega)) ?_
      refine was ?_
      refine wns ?_
      refine w_ret ?_
      refine at_endp (res1 rfl rfl) ?_
      exact ⟨ds.take k, hd0.take hk, hv, norm_take hk1 (by omega)⟩
  · skip
    obtain rfl : k = 0 := by omega
    refine wl_off rfl rfl rfl ?_
    refine wl_off rfl rfl rfl ?_
    refine wl_off rfl rfl rfl ?_
    refine wl_off rfl rfl rfl ?_
    refine wl_off rfl rfl rfl ?_
    refine wl_off rfl rfl rfl ?_
    refine wv (x_pick_f rfl rfl) ?_
    refine wns ?_
    refine w_false rfl ?_
    refine w_exit ?_
    refine at_then_exit ?_
    refine at_then_exit ?_
    refine at_block_hit ?_
    refine at_seq ?_
    refine wsr ?_
    refine wmv ?_
    refine wmv ?_
    refine wv (x_sliceTo Tryz.underlying47 Tryz.size51 rfl rfl (by omega)) ?_
    refine was ?_
    refine wns ?_
    refine w_ret ?_
    refine at_endp (res1 rfl rfl) ?_
    exact ⟨[], hd0.take (Nat.zero_le _), by simpa using hv, norm_nil⟩

theorem Normal_ok {m : Mem} {v : Value} {x : Nat} (h : Nt m v x) : Pure Tryz.prog 123 #[v] m fun v' m' => Nn m' v' x := by
  refine enterp Tryz.func123 rfl rfl ?_
  intro K hm0 hks
  refine wsr ?_
  refine was ?_
  refine wnr ?_
  refine wmv ?_
  refine wl_callp rfl rfl rfl Tryz.c151 (trim_ok h) ?_; rintro v1 m1 hm1 ⟨ds, ⟨hb, hl, a, cap, rfl, hc, hr⟩, rfl, hn⟩
  refine was ?_
  refine wnr ?_
  refine wmv ?_
  refine wv (x_len Tryz.underlying47 rfl rfl) ?_
  refine wl_make (N := ds.length) rfl rfl Tryz.underlying47 Tryz.size51 Tryz.bytes51 Tryz.zero51 rfl rfl rfl (by omega) (by omega) (by omega) (by omega) ?_; intro b8
  refine was ?_
  refine wnr ?_
  refine wmv ?_
  refine wmv ?_
  refine wl_copy rfl rfl rfl Tryz.underlying47 Tryz.size51 rfl rfl rfl (Nat.le_refl _) (by rw [dsv_length, Nat.mul_one]) (Dg.src hr) (dsv_one ds) (by simp [reps_length, dsv_length]) ?_; rw [splice_all _ _ (by simp [reps_length, dsv_length])]
  refine wl_freeze ?_; intro hfz
  refine wnr ?_
  refine wmv ?_
  refine was ?_
  refine wns ?_
  refine w_ret ?_
  refine at_endp (res1 rfl rfl) ?_
  exact ⟨ds, Dg.made (Mem.add_at _ _ _) hb hl, rfl, hn⟩

theorem Of_ok {m : Mem} {x : Nat} (h : x < 18446744073709551616) : Pure Tryz.prog 66 #[.int .u64 x] m fun v' m' => Nn m' v' x := by
  refine enterp Tryz.func66 rfl rfl ?_
  intro K hm0 hks
  refine wsr ?_
  refine was ?_
  refine wnr ?_
  refine wmv ?_
  refine wv (x_conv Tryz.underlying111 Tryz.underlying51 rfl (u32m (r := x % 4294967296) (by omega))) ?_
  refine wmv ?_
  refine wv (x_shr rfl rfl (by omega) (shr32_64 _)) ?_
  refine wv (x_conv Tryz.underlying111 Tryz.underlying51 rfl (u32n (r := x / 4294967296) (by omega) (by omega))) ?_
  refine wl_buildSlice rfl rfl Tryz.underlying47 Tryz.size51 Tryz.zero51 rfl rfl rfl rfl rfl ?_; intro b8
  refine wl_freeze ?_; intro hfz
  refine wl_callp rfl rfl rfl Tryz.c123 (Normal_ok ⟨[x % 4294967296, x / 4294967296], Dg.made (ds := [x % 4294967296, x / 4294967296]) (Mem.add_at _ _ _) (fun d hd => by simp at hd; omega) (by simp), rfl⟩) ?_; rintro v1 m1 hm1 hv1
  refine was ?_
  refine wns ?_
  refine w_ret ?_
  refine at_endp (res1 rfl rfl) ?_
  exact hv1.eq (by simp [nv]; omega)

theorem IsZero_ok {m : Mem} {v : Value} {x : Nat} (h : Nt m v x) : Pure Tryz.prog 100 #[v] m fun v' _ => v' = .bool (decide (x = 0)) := by
  refine enterp Tryz.func100 rfl rfl ?_
  intro K hm0 hks
  refine wsr ?_
  refine was ?_
  refine wnr ?_
  refine wmv ?_
  refine wl_callp rfl rfl rfl Tryz.c151 (trim_ok h) ?_; rintro v1 m1 hm1 ⟨ds, ⟨hb, hl, a, cap, rfl, hc, hr⟩, rfl, hn⟩
  refine wv (x_len Tryz.underlying47 rfl rfl) ?_
  refine wv (x_eql rfl rfl) ?_
  refine was ?_
  refine wns ?_
  refine w_ret ?_
  refine at_endp (res1 rfl rfl) ?_
  have := nv_eq_zero hn
  by_cases h0 : ds = []
  · subst h0; simp [nv]
  · have h1 : nv ds ≠ 0 := fun e => h0 (this.1 e)
    have h2 : ds.length ≠ 0 := fun e => h0 (List.length_eq_zero_iff.1 e)
    simp [h1]; omega
end Go.Cy


/- natural.Cmp, Add, Sub. -/
namespace Go.Cy
open Go Go.Proofs

def cmpZ (a b : Nat) : Int := if a < b then -1 else if b < a then 1 else 0

theorem nv_cmp_top {xs ys : List Nat} (hx : okd xs) {k : Nat} (h1 : k < xs.length) (h2 : k < ys.length) (hl : xs.length = ys.length) (he : nv (xs.drop (k + 1)) = nv (ys.drop (k + 1))) (hlt : xs[k] < ys[k]) : nv xs < nv ys := by
  rw [nv_split xs (k + 1) (by omega), nv_split ys (k + 1) (by omega), he, nv_take_succ h1, nv_take_succ h2]
  have g1 := nv_lt (okd_take hx k)
  have e1 : (xs.take k).length = k := by simp; omega
  rw [e1] at g1
  have : 4294967296 ^ k * xs[k] + 4294967296 ^ k ≤ 4294967296 ^ k * ys[k] := by
    rw [← Nat.mul_succ]; exact Nat.mul_le_mul_left _ hlt
  omega
theorem nv_cmp_len {xs ys : List Nat} (hx : okd xs) (ny : norm ys) (h : xs.length < ys.length) : nv xs < nv ys := by
  have g1 := nv_lt hx
  have g2 := nv_pos ny (fun e => by subst e; simp at h)
  have : 4294967296 ^ xs.length ≤ 4294967296 ^ (ys.length - 1) := Nat.pow_le_pow_right (by omega) (by omega)
  omega

theorem nv_drop_pred {xs ys : List Nat} {k : Nat} (h1 : k - 1 < xs.length) (h2 : k - 1 < ys.length) (hk : 0 < k) (he : xs[k - 1] = ys[k - 1]) (h : nv (xs.drop k) = nv (ys.drop k)) : nv (xs.drop (k - 1)) = nv (ys.drop (k - 1)) := by
  rw [List.drop_eq_getElem_cons h1, List.drop_eq_getElem_cons h2]
  simp only [nv, he, show k - 1 + 1 = k by omega, h]

theorem Cmp_ok {m : Mem} {v u : Value} {x y : Nat} (hv : Nt m v x) (hu : Nt m u y) : Pure Tryz.prog 106 #[v, u] m fun r _ => r = .int .i64 (cmpZ x y) := by
  refine enterp Tryz.func106 rfl rfl ?_
  intro K hm0 hks
  refine wsr ?_
  refine was ?_
  refine wnr ?_
  refine wmv ?_
  refine wl_callp rfl rfl rfl Tryz.c151 (trim_ok hv) ?_; rintro v1 m1 hm1 ⟨xs, ⟨hxo, hxl, a, acap, rfl, hac, har⟩, rfl, hxn⟩
  refine wmv ?_
  refine wl_callp rfl rfl rfl Tryz.c151 (trim_ok (hu.up hm1)) ?_; rintro u1 m2 hm2 ⟨ys, ⟨hyo, hyl, b, bcap, rfl, hbc, hbr⟩, rfl, hyn⟩
  refine was ?_
  refine was ?_
  refine wns ?_
  refine w_seq ?_
  refine w_block ?_
  refine wsr ?_
  refine wmv ?_
  refine wv (x_len Tryz.underlying47 rfl rfl) ?_
  refine wmv ?_
  refine wv (x_len Tryz.underlying47 rfl rfl) ?_
  refine wv (x_lss rfl rfl) ?_
  refine was ?_
  refine wns ?_
  refine w_if rfl (fun h1 => ?_) (fun h1 => ?_)
  · skip
    refine wsr ?_
    refine was ?_
    refine wns ?_
    refine w_ret ?_
    refine at_block_ret ?_
    refine at_then_ret ?_
    refine at_endp (res1 rfl rfl) ?_
    have := nv_cmp_len hxo hyn (by omega)
    simp [cmpZ, this]
  · skip
    refine wsr ?_
    refine wmv ?_
    refine wv (x_len Tryz.underlying47 rfl rfl) ?_
    refine wmv ?_
    refine wv (x_len Tryz.underlying47 rfl rfl) ?_
    refine wv (x_gtr rfl rfl) ?_
    refine was ?_
    refine wns ?_
    refine w_if rfl (fun h2 => ?_) (fun h2 => ?_)
    · skip
      refine wsr ?_
      refine was ?_
      refine wns ?_
      refine w_ret ?_
      refine at_block_ret ?_
      refine at_then_ret ?_
      refine at_endp (res1 rfl rfl) ?_
      have := nv_cmp_len hyo hxn (by omega)
      simp [cmpZ, this, show ¬ nv xs < nv ys by omega]
    · skip
      have hl : xs.length = ys.length := by omega
      refine w_skip ?_
      refine at_block_normal ?_
      refine at_seq ?_
      refine w_seq ?_
      refine wsr ?_
      refine wmv ?_
      refine wv (x_len Tryz.underlying47 rfl rfl) ?_
      refine wv (x_sub rfl rfl (wrap_i64 (by omega) (by omega))) ?_
      refine was ?_
      refine wns ?_
      refine w_block ?_
      refine w_loop (fun k m' H' env' => k ≤ xs.length ∧ m2.le m' ∧ H' = [] ∧ env' = [(0, .slice a xs.length acap), (1, .slice b ys.length bcap), (5, .int .i64 ((k : Int) - 1))] ∧ nv (xs.drop k) = nv (ys.drop k)) xs.length [(0, .slice a xs.length acap), (1, .slice b ys.length bcap), (5, .int .i64 ((xs.length : Int) - 1))] ⟨Nat.le_refl _, Mem.le.refl _, rfl, rfl, by rw [List.drop_eq_nil_of_le (Nat.le_refl _), List.drop_eq_nil_of_le (by omega)]⟩ ⟨rfl, rfl, rfl, trivial⟩ ?_
      rintro k m3 H' env' ⟨hk, hm3, rfl, rfl, he⟩
      refine w_seq ?_
      refine wsr ?_
      refine wmv ?_
      refine wv (x_geq rfl rfl) ?_
      refine wns ?_
      refine w_if rfl (fun h3 => ?_) (fun h3 => ?_)
      · skip
        have hk1 : k - 1 < xs.length := by omega
        have hk2 : k - 1 < ys.length := by omega
        have he' : nv (xs.drop (k - 1 + 1)) = nv (ys.drop (k - 1 + 1)) := by rw [show k - 1 + 1 = k by omega]; exact he
        obtain ⟨ba, oa, rfl, hra⟩ := har (by omega)
        obtain ⟨bb, ob, rfl, hrb⟩ := hbr (by omega)
        replace hra := hra.up (hm2.trans hm3)
        replace hrb := hrb.up hm3
        refine w_skip ?_
        refine at_seq ?_
        refine w_seq ?_
        refine w_block ?_
        refine w_block ?_
        refine w_seq ?_
        refine dr_start [] [[], [], [0, 1], [2], [], [], [4, 5], [6]] ?_
        refine dr_val rfl rfl (fun m' hm' => ds_val rfl (x_move rfl)) ?_
        refine dr_val rfl rfl (fun m' hm' => ds_val rfl (x_move rfl)) ?_
        refine dr_val rfl rfl (fun m' hm' => ds_val rfl (x_index Tryz.underlying47 Tryz.size51 rfl rfl (j := (k - 1)) (by omega) (by omega))) ?_
        refine dr_val rfl rfl (fun m' hm' => ds_val rfl (x_load Tryz.plain51 rfl (((hra.up hm').nth (k - 1) (dsv_get hk1) (by omega))))) ?_
        refine dr_val rfl rfl (fun m' hm' => ds_val rfl (x_move rfl)) ?_
        refine dr_val rfl rfl (fun m' hm' => ds_val rfl (x_move rfl)) ?_
        refine dr_val rfl rfl (fun m' hm' => ds_val rfl (x_index Tryz.underlying47 Tryz.size51 rfl rfl (j := (k - 1)) (by omega) (by omega))) ?_
        refine dr_val rfl rfl (fun m' hm' => ds_val rfl (x_load Tryz.plain51 rfl (((hrb.up hm').nth (k - 1) (dsv_get hk2) (by omega))))) ?_
        refine dr_done (k := 8) Tryz.mixed rfl rfl rfl fun m4 hm_m4 => ?_
        show WL _ _ _ _ _ _ _ _ _
        refine wv (x_lss rfl rfl) ?_
        refine was ?_
        refine wns ?_
        refine w_if rfl (fun h4 => ?_) (fun h4 => ?_)
        · skip
          refine wsr ?_
          refine was ?_
          refine wns ?_
          refine w_ret ?_
          refine at_block_ret ?_
          refine at_block_ret ?_
          refine at_then_ret ?_
          refine at_then_ret ?_
          refine at_block_ret ?_
          refine at_then_ret ?_
          refine at_endp (res1 rfl rfl) ?_
          have := nv_cmp_top hxo hk1 hk2 hl he' (by omega)
          simp [cmpZ, this]
        · skip
          refine w_seq ?_
          refine dr_start [] [[], [], [0, 1], [2], [], [], [4, 5], [6]] ?_
          refine dr_val rfl rfl (fun m' hm' => ds_val rfl (x_move rfl)) ?_
          refine dr_val rfl rfl (fun m' hm' => ds_val rfl (x_move rfl)) ?_
          refine dr_val rfl rfl (fun m' hm' => ds_val rfl (x_index Tryz.underlying47 Tryz.size51 rfl rfl (j := (k - 1)) (by omega) (by omega))) ?_
          refine dr_val rfl rfl (fun m' hm' => ds_val rfl (x_load Tryz.plain51 rfl (((hra.up (hm_m4.trans hm')).nth (k - 1) (dsv_get hk1) (by omega))))) ?_
          refine dr_val rfl rfl (fun m' hm' => ds_val rfl (x_move rfl)) ?_
          refine dr_val rfl rfl (fun m' hm' => ds_val rfl (x_move rfl)) ?_
          refine dr_val rfl rfl (fun m' hm' => ds_val rfl (x_index Tryz.underlying47 Tryz.size51 rfl rfl (j := (k - 1)) (by omega) (by omega))) ?_
          refine dr_val rfl rfl (fun m' hm' => ds_val rfl (x_load Tryz.plain51 rfl (((hrb.up (hm_m4.trans hm')).nth (k - 1) (dsv_get hk2) (by omega))))) ?_
          refine dr_done (k := 8) Tryz.mixed rfl rfl rfl fun m5 hm_m5 => ?_
          show WL _ _ _ _ _ _ _ _ _
          refine wv (x_gtr rfl rfl) ?_
          refine was ?_
          refine wns ?_
          refine w_if rfl (fun h5 => ?_) (fun h5 => ?_)
          · skip
            refine wsr ?_
            refine was ?_
            refine wns ?_
            refine w_ret ?_
            refine at_block_ret ?_
            refine at_block_ret ?_
            refine at_then_ret ?_
            refine at_then_ret ?_
            refine at_block_ret ?_
            refine at_then_ret ?_
            refine at_endp (res1 rfl rfl) ?_
            have := nv_cmp_top hyo hk2 hk1 hl.symm he'.symm (by omega)
            simp [cmpZ, this, show ¬ nv xs < nv ys by omega]
          · skip
            refine w_skip ?_
            refine at_block_normal ?_
            refine at_block_normal ?_
            refine at_seq ?_
            refine w_region ?_
            refine wmv ?_
            refine wv (x_sub rfl rfl (wrap_i64 (by omega) (by omega))) ?_
            refine was ?_
            refine wl_nil ?_
            exact at_again (k - 1) [(0, .slice (some ⟨ba, oa, none⟩) xs.length acap), (1, .slice (some ⟨bb, ob, none⟩) ys.length bcap), (5, .int .i64 (((k - 1 : Nat) : Int) - 1))] (by omega) ⟨by omega, hm3.trans (hm_m4.trans hm_m5), rfl, rfl, nv_drop_pred hk1 hk2 (by omega) (by omega) he⟩ ⟨rfl, rfl, lk_int rfl (by omega), trivial⟩
      · skip
        obtain rfl : k = 0 := by omega
        refine w_exit ?_
        refine at_then_exit ?_
        refine at_then_exit ?_
        refine at_block_hit ?_
        refine at_seq ?_
        refine wsr ?_
        refine was ?_
        refine wns ?_
        refine w_ret ?_
        refine at_endp (res1 rfl rfl) ?_
        simp at he
        simp [cmpZ, he]
end Go.Cy


/- math/bits.Div32, Len32; natural.DivSmall, MulAdd, Uint64, BitLen. -/
namespace Go.Cy
open Go Go.Proofs
set_option maxRecDepth 20000

theorem div32_ok {m : Mem} {x y d : Nat} (hx : x < d) (hy : y < 4294967296) (hd : d < 4294967296) : Pure Tryz.prog 240 #[.int .u32 x, .int .u32 y, .int .u32 d] m fun v _ => v = two ((x * 4294967296 + y) / d) ((x * 4294967296 + y) % d) := by
  have e1 : (x * 4294967296 + y) / d < 4294967296 := Nat.div_lt_of_lt_mul (by have : d * 4294967296 ≥ (x + 1) * 4294967296 := Nat.mul_le_mul_right _ hx; omega)
  have e2 : (x * 4294967296 + y) % d < d := Nat.mod_lt _ (by omega)
  have e3 := or_hi64 (a := x) (b := y) (by omega) (by omega)
  have e4 := shl_32_64 (a := x) (by omega)
  generalize hz : x * 4294967296 + y = z at *
  generalize hu : x * 4294967296 = u at *
  refine enterp Tryz.func240 rfl rfl ?_
  intro K hm0 hks
  refine wsr ?_
  refine was ?_
  refine was ?_
  refine wns ?_
  refine w_seq ?_
  refine wsr ?_
  refine wmv ?_
  refine wv (x_neq rfl rfl) ?_
  refine wmv ?_
  refine wl_splitp (t := 11) rfl (fun h0 => ?_) (fun h0 => ?_)
  · skip
    refine wmv ?_
    refine wmv ?_
    refine wv (x_leq rfl rfl) ?_
    refine wv (x_pick_t rfl rfl) ?_
    refine wns ?_
    refine w_if rfl (fun h1 => ?_) (fun h1 => ?_)
    · skip
      omega
    · skip
      refine w_skip ?_
      refine at_seq ?_
      refine wsr ?_
      refine wmv ?_
      refine wv (x_conv Tryz.underlying51 Tryz.underlying111 rfl (u64n (r := x) (by omega) (by omega))) ?_
      refine wv (x_shl rfl rfl (by omega) (e4)) ?_
      refine wmv ?_
      refine wv (x_conv Tryz.underlying51 Tryz.underlying111 rfl (u64n (r := y) (by omega) (by omega))) ?_
      refine wv (x_or rfl rfl (e3)) ?_
      refine was ?_
      refine wns ?_
      refine w_seq ?_
      refine dr_start [(6, [])] [[], [], [1], [0, 2], [3], [], [], [6], [5, 7], [8], [4]] ?_
      refine dr_val rfl rfl (fun m' hm' => ds_val rfl (x_move rfl)) ?_
      refine dr_val rfl rfl (fun m' hm' => ds_val rfl (x_move rfl)) ?_
      refine dr_val rfl rfl (fun m' hm' => ds_val rfl (x_conv Tryz.underlying51 Tryz.underlying111 rfl (u64n (r := d) (by omega) (by omega)))) ?_
      refine dr_val rfl rfl (fun m' hm' => ds_val rfl (x_quo rfl rfl (by omega) (u64n (r := z / d) (by rw [Int.ofNat_tdiv]) (by omega)))) ?_
      refine dr_val rfl rfl (fun m' hm' => ds_val rfl (x_conv Tryz.underlying111 Tryz.underlying51 rfl (u32n (r := z / d) (by omega) (by omega)))) ?_
      refine dr_val rfl rfl (fun m' hm' => ds_val rfl (x_move rfl)) ?_
      refine dr_val rfl rfl (fun m' hm' => ds_val rfl (x_move rfl)) ?_
      refine dr_val rfl rfl (fun m' hm' => ds_val rfl (x_conv Tryz.underlying51 Tryz.underlying111 rfl (u64n (r := d) (by omega) (by omega)))) ?_
      refine dr_val rfl rfl (fun m' hm' => ds_val rfl (x_rem rfl rfl (by omega) ((Int.ofNat_tmod _ _).symm))) ?_
      refine dr_val rfl rfl (fun m' hm' => ds_val rfl (x_conv Tryz.underlying111 Tryz.underlying51 rfl (u32n (r := z % d) (by omega) (by omega)))) ?_
      refine dr_val rfl rfl (fun m' hm' => ds_val rfl (x_assign rfl)) ?_
      refine dr_done (k := 11) Tryz.mixed rfl rfl rfl fun m1 hm_m1 => ?_
      show WL _ _ _ _ _ _ _ _ _
      refine was ?_
      refine wns ?_
      refine w_ret ?_
      refine at_endp (res2 rfl rfl rfl) ?_
      rfl
  · skip
    omega

theorem DivSmall_ok {m : Mem} {v : Value} {x d : Nat} (h : Nt m v x) (hd : d < 4294967296) (h0 : 0 < d) : Pure Tryz.prog 211 #[v, .int .u32 d] m fun r m' => ∃ q, r = .tuple #[q, .int .u32 (x % d : Nat), .bool true] ∧ Nn m' q (x / d) := by
  refine enterp Tryz.func211 rfl rfl ?_
  intro K hm0 hks
  refine wsr ?_
  refine was ?_
  refine was ?_
  refine was ?_
  refine wns ?_
  refine w_seq ?_
  refine wsr ?_
  refine wmv ?_
  refine wv (x_eql rfl rfl) ?_
  refine wns ?_
  refine w_if rfl (fun h1 => ?_) (fun h1 => ?_)
  · skip
    omega
  · skip
    refine w_skip ?_
    refine at_seq ?_
    refine wsr ?_
    refine wmv ?_
    refine wl_callp rfl rfl rfl Tryz.c151 (trim_ok h) ?_; rintro v1 m1 hm1 ⟨ds, ⟨hb, hl, a, cap, rfl, hc, hr⟩, rfl, hn⟩
    refine was ?_
    refine wnr ?_
    refine wmv ?_
    refine wv (x_len Tryz.underlying47 rfl rfl) ?_
    refine wl_make (N := ds.length) rfl rfl Tryz.underlying47 Tryz.size51 Tryz.bytes51 Tryz.zero51 rfl rfl rfl (by omega) (by omega) (by omega) (by omega) ?_; intro b16
    refine was ?_
    refine wnr ?_
    refine was ?_
    refine wns ?_
    refine w_seq ?_
    refine wsr ?_
    refine wmv ?_
    refine wv (x_len Tryz.underlying47 rfl rfl) ?_
    refine wv (x_sub rfl rfl (wrap_i64 (by omega) (by omega))) ?_
    refine was ?_
    refine wns ?_
    refine w_block ?_
    refine w_loop (fun k m' H' env' => ∃ zs rest, k ≤ ds.length ∧ m1.le m' ∧ H' = [(b16, cl 51 (dsv zs))] ∧ zs.length = ds.length ∧ okd zs ∧ rest < d ∧ nv (ds.drop k) = d * nv (zs.drop k) + rest ∧ env' = [(0, .slice a ds.length cap), (1, .int .u32 d), (7, .slice (some ⟨b16, 0, none⟩) ds.length ds.length), (8, .int .u32 rest), (9, .int .i64 ((k : Int) - 1))]) ds.length [(0, .slice a ds.length cap), (1, .int .u32 d), (7, .slice (some ⟨b16, 0, none⟩) ds.length ds.length), (8, .int .u32 0), (9, .int .i64 ((ds.length : Int) - 1))] ⟨List.replicate ds.length 0, 0, Nat.le_refl _, Mem.le.refl _, by rw [dsv_zero], by simp, fun e he => by simp at he; omega, h0, by simp [nv], rfl⟩ ⟨rfl, rfl, rfl, rfl, rfl, trivial⟩ ?_
    rintro k m2 H' env' ⟨zs, rest, hk, hm2, rfl, hzl, hzo, hrest, hinv, rfl⟩
    refine w_seq ?_
    refine wsr ?_
    refine wmv ?_
    refine wv (x_geq rfl rfl) ?_
    refine wns ?_
    refine w_if rfl (fun h2 => ?_) (fun h2 => ?_)
    · skip
      have hk1 : k - 1 < ds.length := by omega
      obtain ⟨ba, oa, rfl, hra⟩ := hr (by omega)
      refine w_skip ?_
      refine at_seq ?_
      refine w_seq ?_
      refine w_block ?_
      refine w_region ?_
      refine wmv ?_
      refine wmv ?_
      refine wmv ?_
      refine wmv ?_
      refine wmv ?_
      refine wv (x_index Tryz.underlying47 Tryz.size51 rfl rfl (j := (k - 1)) (by omega) (by omega)) ?_
      refine wv (x_load Tryz.plain51 rfl (((hra.up hm2).heap.nth (k - 1) (dsv_get hk1) (by omega)))) ?_
      refine wmv ?_
      refine wl_callp rfl rfl rfl Tryz.c240 (div32_ok hrest (hb _ (List.getElem_mem _)) hd) ?_; rintro v3 m3 hm3 rfl
      refine wmv ?_
      refine wex ?_
      refine wex ?_
      refine wv (x_index Tryz.underlying47 Tryz.size51 rfl rfl (j := (k - 1)) (by omega) (by omega)) ?_
      refine wl_storeAs (xs' := dsv (zs.set (k - 1) ((rest * 4294967296 + ds[k - 1]) / d))) rfl Tryz.size51 rfl rfl rfl (by simp [dsv]; omega) (dsv_setAs (by omega) (by omega)) ?_
      refine was ?_
      refine wl_nil ?_
      refine at_block_normal ?_
      refine at_seq ?_
      refine w_region ?_
      refine wmv ?_
      refine wv (x_sub rfl rfl (wrap_i64 (by omega) (by omega))) ?_
      refine was ?_
      refine wl_nil ?_
      exact at_again (k - 1) [(0, .slice (some ⟨ba, oa, none⟩) ds.length cap), (1, .int .u32 d), (7, .slice (some ⟨b16, 0, none⟩) ds.length ds.length), (8, .int .u32 ((rest * 4294967296 + ds[k - 1]) % d : Nat)), (9, .int .i64 (((k - 1 : Nat) : Int) - 1))] (by omega) ⟨zs.set (k - 1) ((rest * 4294967296 + ds[k - 1]) / d), (rest * 4294967296 + ds[k - 1]) % d, by omega, hm2.trans hm3, rfl, by simp [hzl], okd_set hzo _ (divStep_lt hrest (hb _ (List.getElem_mem _))), Nat.mod_lt _ h0, divStep hk1 (by omega) (by omega) hinv, rfl⟩ ⟨rfl, rfl, rfl, rfl, lk_int rfl (by omega), trivial⟩
    · skip
      obtain rfl : k = 0 := by omega
      simp at hinv
      refine w_exit ?_
      refine at_then_exit ?_
      refine at_then_exit ?_
      refine at_block_hit ?_
      refine at_seq ?_
      refine wsr ?_
      refine wmv ?_
      refine wl_freeze ?_; intro hfz
      refine wl_callp rfl rfl rfl Tryz.c151 (trim_ok ⟨zs, hzl ▸ Dg.made (Mem.add_at _ _ _) hzo (by omega), rfl⟩) ?_; rintro v4 m4 hm4 hv4
      refine wmv ?_
      refine was ?_
      refine was ?_
      refine was ?_
      refine wns ?_
      refine w_ret ?_
      refine at_endp (res3 rfl rfl rfl rfl) ?_
      have e1 : nv ds / d = nv zs := by rw [hinv, Nat.mul_comm, Nat.add_comm, Nat.add_mul_div_right _ _ h0, Nat.div_eq_of_lt hrest]; omega
      have e2 : nv ds % d = rest := by rw [hinv, Nat.mul_add_mod, Nat.mod_eq_of_lt hrest]
      rw [e1, e2]
      exact ⟨_, rfl, hv4⟩
end Go.Cy


/- natural.schoolbook, and products in which one factor has less than 48 digits. -/
namespace Go.Cy
open Go Go.Proofs
set_option maxRecDepth 20000

theorem dsv_at {ds : List Nat} {i o : Nat} (h : i < ds.length) (e : o = i) : (dsv ds)[o]? = some (.int .u32 (ds[i] : Nat)) := by subst e; simp [dsv, h]

theorem schoolbook_ok {m : Mem} {v u : Value} {xs ys : List Nat} (hv : Dg m v xs) (hu : Dg m u ys) (hl : xs.length + ys.length ≤ 35184372088832) :
    Pure Tryz.prog 233 #[v, u] m fun r m' => ∃ zs, Dg m' r zs ∧ zs.length = xs.length + ys.length ∧ nv zs = nv xs * nv ys := by
  obtain ⟨hxo, hxl, a, acap, rfl, hac, har⟩ := hv
  obtain ⟨hyo, hyl, b, bcap, rfl, hbc, hbr⟩ := hu
  refine enterp Tryz.func233 rfl rfl ?_
  intro K hm0 hks
  refine wsr ?_
  refine was ?_
  refine wnr ?_
  refine wmv ?_
  refine wv (x_len Tryz.underlying47 rfl rfl) ?_
  refine wmv ?_
  refine wv (x_len Tryz.underlying47 rfl rfl) ?_
  refine wv (x_add rfl rfl (wrap_i64 (by omega) (by omega))) ?_
  refine wl_make (N := (xs.length + ys.length)) rfl rfl Tryz.underlying47 Tryz.size51 Tryz.bytes51 Tryz.zero51 rfl rfl rfl (by omega) (by omega) (by omega) (by omega) ?_; intro b20
  refine was ?_
  refine wns ?_
  refine w_seq ?_
  refine wsr ?_
  refine wmv ?_
  refine wv (x_len Tryz.underlying47 rfl rfl) ?_
  refine wmv ?_
  refine wns ?_
  refine w_block ?_
  refine w_loop (fun r m' H' env' => ∃ i zs, r + i = xs.length ∧ m.le m' ∧ H' = [(b20, cl 51 (dsv zs))] ∧ zs.length = xs.length + ys.length ∧ okd zs ∧ nv zs = nv (xs.take i) * nv ys ∧ zs.drop (i + ys.length) = List.replicate (xs.length + ys.length - (i + ys.length)) 0 ∧ env' = [(0, .slice a xs.length acap), (1, .slice b ys.length bcap), (5, .slice (some ⟨b20, 0, none⟩) (xs.length + ys.length) (xs.length + ys.length)), (21, .slice a xs.length acap), (22, .int .i64 xs.length), (23, .int .i64 i)]) xs.length [(0, .slice a xs.length acap), (1, .slice b ys.length bcap), (5, .slice (some ⟨b20, 0, none⟩) (xs.length + ys.length) (xs.length + ys.length)), (21, .slice a xs.length acap), (22, .int .i64 xs.length), (23, .int .i64 (0 : Nat))] ⟨0, List.replicate (xs.length + ys.length) 0, rfl, Mem.le.refl _, by rw [dsv_zero], by simp, fun e he => by simp at he; omega, by simp [nv, nv_zero], by simp, rfl⟩ (by repeat' (first | exact trivial | exact rfl | exact lk_int rfl (by omega) | apply And.intro)) ?_
  rintro r m1 H' env' ⟨i, zs, hri, hm1, rfl, hzl, hzo, hzv, hzd, rfl⟩
  refine wsr ?_
  refine wv (x_lss rfl rfl) ?_
  refine wns ?_
  refine w_seq ?_
  refine w_if rfl (fun h1 => ?_) (fun h1 => ?_)
  · skip
    have hi : i < xs.length := by omega
    obtain ⟨ba, oa, rfl, hra⟩ := har (by omega)
    refine w_skip ?_
    refine at_seq ?_
    refine w_seq ?_
    refine w_block ?_
    refine wsr ?_
    refine wmv ?_
    refine wv (x_index Tryz.underlying47 Tryz.size51 rfl rfl rfl (by omega)) ?_
    refine wv (x_load Tryz.plain51 rfl (((hra.up hm1).heap.nth i (dsv_get hi) (by omega)))) ?_
    refine was ?_
    refine was ?_
    refine wns ?_
    refine w_seq ?_
    refine wsr ?_
    refine wmv ?_
    refine wv (x_eql rfl rfl) ?_
    refine wns ?_
    refine w_if rfl (fun h2 => ?_) (fun h2 => ?_)
    · skip
      refine w_exit ?_
      refine at_then_exit ?_
      refine at_block_hit ?_
      refine at_seq ?_
      refine w_region ?_
      refine wv (x_add rfl rfl (wrap_i64 (by omega) (by omega))) ?_
      refine wmv ?_
      refine wl_nil ?_
      exact at_again (r - 1) [(0, .slice (some ⟨ba, oa, none⟩) xs.length acap), (1, .slice b ys.length bcap), (5, .slice (some ⟨b20, 0, none⟩) (xs.length + ys.length) (xs.length + ys.length)), (21, .slice (some ⟨ba, oa, none⟩) xs.length acap), (22, .int .i64 xs.length), (23, .int .i64 (i + 1 : Nat))] (by omega) ⟨i + 1, zs, by omega, hm1, rfl, hzl, hzo, by rw [hzv, nv_take_pred hi (by omega)], by rw [Nat.add_right_comm]; exact drop_zeros hzd, rfl⟩ ⟨rfl, rfl, rfl, rfl, rfl, lk_int rfl (by omega), trivial⟩
    · skip
      refine w_skip ?_
      refine at_seq ?_
      refine wsr ?_
      refine wmv ?_
      refine wmv ?_
      refine wv (x_sliceAs (lo := i) (hi := xs.length + ys.length) (p := some ⟨b20, i, none⟩) (L := xs.length + ys.length - i) (C := xs.length + ys.length - i) Tryz.underlying47 Tryz.size51 rfl (⟨_, by first | rfl | exact lk_int rfl (by omega)⟩) (rfl) (by omega) (by omega) (by first | (rw [offTo_lt (by omega)]; simp) | rfl) (by omega) (by omega)) ?_
      refine was ?_
      refine wnr ?_
      refine was ?_
      refine wns ?_
      refine w_seq ?_
      refine wsr ?_
      refine wmv ?_
      refine wv (x_len Tryz.underlying47 rfl rfl) ?_
      refine wmv ?_
      refine wns ?_
      refine w_block ?_
      refine w_loop (fun s m' H' env' => ∃ j zs c, s + j = ys.length ∧ m1.le m' ∧ H' = [(b20, cl 51 (dsv zs))] ∧ zs.length = xs.length + ys.length ∧ okd zs ∧ c < 4294967296 ∧ nv zs + 4294967296 ^ (i + j) * c = nv (xs.take i) * nv ys + 4294967296 ^ i * (xs[i] * nv (ys.take j)) ∧ zs.drop (i + ys.length) = List.replicate (xs.length + ys.length - (i + ys.length)) 0 ∧ env' = [(0, .slice (some ⟨ba, oa, none⟩) xs.length acap), (1, .slice (b) ys.length bcap), (5, .slice (some ⟨b20, 0, none⟩) (xs.length + ys.length) (xs.length + ys.length)), (7, .int .u32 (xs[i] : Nat)), (8, .slice (some ⟨b20, i, none⟩) (xs.length + ys.length - i) (xs.length + ys.length - i)), (9, .int .u32 (c : Nat)), (21, .slice (some ⟨ba, oa, none⟩) xs.length acap), (22, .int .i64 xs.length), (23, .int .i64 i), (33, .slice (b) ys.length bcap), (34, .int .i64 ys.length), (35, .int .i64 (j : Nat))]) ys.length [(0, .slice (some ⟨ba, oa, none⟩) xs.length acap), (1, .slice (b) ys.length bcap), (5, .slice (some ⟨b20, 0, none⟩) (xs.length + ys.length) (xs.length + ys.length)), (7, .int .u32 (xs[i] : Nat)), (8, .slice (some ⟨b20, i, none⟩) (xs.length + ys.length - i) (xs.length + ys.length - i)), (9, .int .u32 (0 : Nat)), (21, .slice (some ⟨ba, oa, none⟩) xs.length acap), (22, .int .i64 xs.length), (23, .int .i64 i), (33, .slice (b) ys.length bcap), (34, .int .i64 ys.length), (35, .int .i64 (0 : Nat))] ⟨0, zs, 0, rfl, Mem.le.refl _, rfl, hzl, hzo, by omega, by simp [hzv, nv], hzd, rfl⟩ (by repeat' (first | exact trivial | exact rfl | exact lk_int rfl (by omega) | apply And.intro)) ?_
      rintro s m2 H' env' ⟨j, ws, c, hsj, hm2, rfl, hwl, hwo, hc, hwv, hwd, rfl⟩
      refine wsr ?_
      refine wv (x_lss rfl rfl) ?_
      refine wns ?_
      refine w_seq ?_
      refine w_if rfl (fun h3 => ?_) (fun h3 => ?_)
      · skip
        have hj : j < ys.length := by omega
        have hk : i + j < ws.length := by omega
        obtain ⟨bb, ob, rfl, hrb⟩ := hbr (by omega)
        have hx := hxo _ (List.getElem_mem hi)
        have hy := hyo _ (List.getElem_mem hj)
        have hz := hwo _ (List.getElem_mem hk)
        have hp : xs[i] * ys[j] ≤ 4294967295 * 4294967295 := Nat.mul_le_mul (by omega) (by omega)
        have st := row_inner hk hj hwv
        refine w_skip ?_
        refine at_seq ?_
        refine w_seq ?_
        refine w_block ?_
        refine wsr ?_
        refine wmv ?_
        refine wv (x_index Tryz.underlying47 Tryz.size51 rfl rfl rfl (by omega)) ?_
        refine wv (x_load Tryz.plain51 rfl (((hrb.up (hm1.trans hm2)).heap.nth j (dsv_get hj) (by omega)))) ?_
        refine was ?_
        refine was ?_
        refine wnr ?_
        refine wmv ?_
        refine wmv ?_
        refine wl_callp rfl rfl rfl Tryz.c252 (mul32_ok hx hy) ?_; rintro v3 m3 hm3 rfl
        refine wmv ?_
        refine wex ?_
        refine wex ?_
        refine was ?_
        refine was ?_
        refine wnr ?_
        refine wmv ?_
        refine wmv ?_
        refine wmv ?_
        refine wv (x_index Tryz.underlying47 Tryz.size51 rfl rfl rfl (by omega)) ?_
        refine wv (x_load Tryz.plain51 rfl (rowH1 (.head _) (dsv_at hk (by omega)))) ?_
        refine wl_callp rfl rfl rfl Tryz.c156 (add32_ok (c := 0) (Nat.mod_lt _ (by omega)) hz (by omega)) ?_; rintro v4 m4 hm4 rfl
        refine wmv ?_
        refine wex ?_
        refine wex ?_
        refine was ?_
        refine was ?_
        refine wnr ?_
        refine wmv ?_
        refine wmv ?_
        refine wv (x_add rfl rfl (u32n (r := (xs[i] * ys[j] + ws[i + j]) / 4294967296) (by omega) (by omega))) ?_
        refine was ?_
        refine wnr ?_
        refine wmv ?_
        refine wmv ?_
        refine wl_callp rfl rfl rfl Tryz.c156 (add32_ok (c := 0) (Nat.mod_lt _ (by omega)) hc (by omega)) ?_; rintro v5 m5 hm5 rfl
        refine wmv ?_
        refine wex ?_
        refine wex ?_
        refine was ?_
        refine was ?_
        refine wnr ?_
        refine wmv ?_
        refine wmv ?_
        refine wmv ?_
        refine wv (x_index Tryz.underlying47 Tryz.size51 rfl rfl rfl (by omega)) ?_
        refine wl_storeAs (xs' := dsv (ws.set (i + j) ((xs[i] * ys[j] + ws[i + j] + c) % 4294967296))) rfl Tryz.size51 rfl rfl rfl (by simp [dsv]; omega) (dsv_setAs (by omega) (by omega)) ?_
        refine wns ?_
        refine w_region ?_
        refine wmv ?_
        refine wmv ?_
        refine wv (x_add rfl rfl (u32n (r := (xs[i] * ys[j] + ws[i + j] + c) / 4294967296) (by omega) (by omega))) ?_
        refine was ?_
        refine wl_nil ?_
        refine at_block_normal ?_
        refine at_seq ?_
        refine w_region ?_
        refine wv (x_add rfl rfl (wrap_i64 (by omega) (by omega))) ?_
        refine wmv ?_
        refine wl_nil ?_
        exact at_again (s - 1) [(0, .slice (some ⟨ba, oa, none⟩) xs.length acap), (1, .slice (some ⟨bb, ob, none⟩) ys.length bcap), (5, .slice (some ⟨b20, 0, none⟩) (xs.length + ys.length) (xs.length + ys.length)), (7, .int .u32 (xs[i] : Nat)), (8, .slice (some ⟨b20, i, none⟩) (xs.length + ys.length - i) (xs.length + ys.length - i)), (9, .int .u32 ((xs[i] * ys[j] + ws[i + j] + c) / 4294967296 : Nat)), (21, .slice (some ⟨ba, oa, none⟩) xs.length acap), (22, .int .i64 xs.length), (23, .int .i64 i), (33, .slice (some ⟨bb, ob, none⟩) ys.length bcap), (34, .int .i64 ys.length), (35, .int .i64 (j + 1 : Nat))] (by omega) ⟨j + 1, ws.set (i + j) ((xs[i] * ys[j] + ws[i + j] + c) % 4294967296), (xs[i] * ys[j] + ws[i + j] + c) / 4294967296, by omega, hm2.trans (hm3.trans (hm4.trans hm5)), rfl, by simpa using hwl, okd_set hwo _ (Nat.mod_lt _ (by omega)), by omega, st, by rw [List.drop_set_of_lt (by omega)]; exact hwd, rfl⟩ (by repeat' (first | exact trivial | exact rfl | exact lk_int rfl (by omega) | apply And.intro))
      · skip
        have hjl : j = ys.length := by omega
        subst hjl
        have hk : i + ys.length < ws.length := by omega
        refine w_exit ?_
        refine at_then_exit ?_
        refine at_then_exit ?_
        refine at_block_hit ?_
        refine at_seq ?_
        refine w_region ?_
        refine wmv ?_
        refine wmv ?_
        refine wv (x_len Tryz.underlying47 rfl rfl) ?_
        refine wmv ?_
        refine wv (x_index Tryz.underlying47 Tryz.size51 rfl rfl (j := ys.length) (by omega) (by omega)) ?_
        refine wl_storeAs (xs' := dsv (ws.set (i + ys.length) c)) rfl Tryz.size51 rfl rfl rfl (by simp [dsv]; omega) (dsv_setAs (by omega) (by omega)) ?_
        refine wl_nil ?_
        refine at_block_normal ?_
        refine at_seq ?_
        refine w_region ?_
        refine wv (x_add rfl rfl (wrap_i64 (by omega) (by omega))) ?_
        refine wmv ?_
        refine wl_nil ?_
        exact at_again (r - 1) [(0, .slice (some ⟨ba, oa, none⟩) xs.length acap), (1, .slice b ys.length bcap), (5, .slice (some ⟨b20, 0, none⟩) (xs.length + ys.length) (xs.length + ys.length)), (21, .slice (some ⟨ba, oa, none⟩) xs.length acap), (22, .int .i64 xs.length), (23, .int .i64 (i + 1 : Nat))] (by omega) ⟨i + 1, ws.set (i + ys.length) c, by omega, hm1.trans hm2, rfl, by simpa using hwl, okd_set hwo _ hc, row_end hk hi (zero_digit hk hwd) (by simpa using hwv), by rw [List.drop_set_of_lt (by omega), Nat.add_right_comm]; exact drop_zeros hwd, rfl⟩ (by repeat' (first | exact trivial | exact rfl | exact lk_int rfl (by omega) | apply And.intro))
  · skip
    obtain rfl : i = xs.length := by omega
    refine w_freeze ?_; intro hfz
    refine w_exit ?_
    refine at_then_exit ?_
    refine at_then_exit ?_
    refine at_block_hit ?_
    refine at_seq ?_
    refine wsr ?_
    refine wmv ?_
    refine was ?_
    refine wns ?_
    refine w_ret ?_
    refine at_endp (res1 rfl rfl) ?_
    exact ⟨zs, ⟨hzo, by omega, _, _, by rw [hzl], Nat.le_refl _, fun _ => ⟨b20, 0, rfl, rowM (Mem.add_at _ _ _) fun i _ => by simp⟩⟩, hzl, by simpa using hzv⟩
end Go.Cy


/- integers: Of, signed, From, Sign, Cmp, Same. -/
namespace Go.Cy
open Go Go.Proofs
set_option maxRecDepth 20000

def sg (neg : Bool) (a : Nat) : Int := if neg then -(a : Int) else a
def Iv (neg : Bool) (s : Value) : Value := .agg #[.bool neg, s]
def In (m : Mem) (v : Value) (z : Int) : Prop := ∃ neg s a, v = Iv neg s ∧ Nt m s a ∧ z = sg neg a
def Ic (m : Mem) (v : Value) (z : Int) : Prop := ∃ neg s a, v = Iv neg s ∧ Nn m s a ∧ z = sg neg a ∧ (neg = true → a ≠ 0)
theorem Ic.in' {m : Mem} {v : Value} {z : Int} (h : Ic m v z) : In m v z := by obtain ⟨neg, s, a, h1, h2, h3, _⟩ := h; exact ⟨neg, s, a, h1, h2.nt, h3⟩
theorem In.up {m m' : Mem} {v : Value} {z : Int} (h : In m v z) (hm : m.le m') : In m' v z := by obtain ⟨neg, s, a, h1, h2, h3⟩ := h; exact ⟨neg, s, a, h1, h2.up hm, h3⟩
theorem Ic.up {m m' : Mem} {v : Value} {z : Int} (h : Ic m v z) (hm : m.le m') : Ic m' v z := by obtain ⟨neg, s, a, h1, h2, h3, h4⟩ := h; exact ⟨neg, s, a, h1, h2.up hm, h3, h4⟩
theorem Ic.eq {m : Mem} {v : Value} {z z' : Int} (h : Ic m v z) (e : z = z') : Ic m v z' := e ▸ h
theorem In.of {m : Mem} {neg : Bool} {s : Value} {a : Nat} (h : Nt m s a) : In m (.agg [.bool neg, s].toArray) (sg neg a) := ⟨neg, s, a, rfl, h, rfl⟩
theorem In.zero (m : Mem) : In m (.agg [.bool false, .slice none 0 0].toArray) 0 := ⟨false, _, 0, rfl, ⟨[], ⟨fun _ h => absurd h List.not_mem_nil, by simp, none, 0, rfl, Nat.le_refl _, fun h => absurd h (by simp)⟩, rfl⟩, rfl⟩
theorem Nn.slice {m : Mem} {s : Value} {a : Nat} (h : Nn m s a) : ∃ ad l c, s = .slice ad l c := by obtain ⟨_, ⟨_, _, ad, c, rfl, _⟩, _⟩ := h; exact ⟨_, _, _, rfl⟩
theorem Nt.slice {m : Mem} {s : Value} {a : Nat} (h : Nt m s a) : ∃ ad l c, s = .slice ad l c := by obtain ⟨_, ⟨_, _, ad, c, rfl, _⟩, _⟩ := h; exact ⟨_, _, _, rfl⟩
theorem Dg.one {m : Mem} {s : Value} {ds : List Nat} (h : Dg m s ds) : s.oneCell' = true := by obtain ⟨_, _, a, c, rfl, _⟩ := h; rfl
theorem Nt.one {m : Mem} {s : Value} {a : Nat} (h : Nt m s a) : s.oneCell' = true := by obtain ⟨_, h, _⟩ := h; exact h.one
theorem Nt.cells {m : Mem} {s : Value} {a : Nat} (h : Nt m s a) : s.cells = #[s] := by obtain ⟨_, ⟨_, _, a, c, rfl, _⟩, _⟩ := h; rfl

theorem Sign_ok {m : Mem} {v : Value} {z : Int} (h : In m v z) : Pure Tryz.prog 40 #[v] m fun r _ => r = .int .i64 z.sign := by
  obtain ⟨neg, s, a, rfl, hs, rfl⟩ := h
  refine enterp Tryz.func40 rfl rfl ?_
  intro K hm0 hks
  refine wsr ?_
  refine wl_box rfl rfl rfl rfl ?_; intro b1
  refine was ?_
  refine wns ?_
  refine w_seq ?_
  refine w_block ?_
  refine wsr ?_
  refine wv (x_fieldAddr Tryz.underlying49 rfl Tryz.size47 rfl) ?_
  refine wv (x_load Tryz.plain47 rfl (rowH1 (.head _) rfl)) ?_
  refine wl_callp rfl rfl rfl Tryz.c100 (IsZero_ok hs) ?_; rintro v1 m1 hm1 rfl
  refine was ?_
  refine wns ?_
  refine w_if rfl (fun h1 => ?_) (fun h1 => ?_)
  · skip
    refine wsr ?_
    refine was ?_
    refine wns ?_
    refine w_ret ?_
    refine at_block_ret ?_
    refine at_then_ret ?_
    refine at_endp (res1 rfl rfl) ?_
    subst h1
    cases neg <;> rfl
  · skip
    refine wsr ?_
    refine wv (x_fieldAddr Tryz.underlying49 rfl Tryz.size4 rfl) ?_
    refine wv (x_load Tryz.plain4 rfl (rowH1 (.head _) rfl)) ?_
    refine was ?_
    refine wns ?_
    refine w_cond rfl (fun h2 => ?_) (fun h2 => ?_)
    · skip
      subst h2
      refine wsr ?_
      refine was ?_
      refine wns ?_
      refine w_ret ?_
      refine at_block_ret ?_
      refine at_then_ret ?_
      refine at_endp (res1 rfl rfl) ?_
      simp only [sg, if_true]
      rw [Int.sign_eq_neg_one_of_neg (by omega)]
    · skip
      subst h2
      refine w_skip ?_
      refine at_block_normal ?_
      refine at_seq ?_
      refine wsr ?_
      refine was ?_
      refine wns ?_
      refine w_ret ?_
      refine at_endp (res1 rfl rfl) ?_
      simp only [sg]
      rw [Int.sign_eq_one_of_pos (by simp; omega)]

theorem signed_ok {m : Mem} {neg : Bool} {s : Value} {a : Nat} (h : Nn m s a) : Pure Tryz.prog 104 #[.bool neg, s] m fun r m' => Ic m' r (sg neg a) := by
  obtain ⟨ds, ⟨hb, hl, ad, cap, rfl, hc, hr⟩, rfl, hn⟩ := h
  have hz := nv_eq_zero hn
  refine enterp Tryz.func104 rfl rfl ?_
  intro K hm0 hks
  refine wsr ?_
  refine wl_alloc rfl rfl Tryz.zero49 ?_; intro b4
  refine wnr ?_
  refine wmv ?_
  refine wmv ?_
  refine wl_split (t := 6) rfl (fun h1 => ?_) (fun h1 => ?_)
  · skip
    subst h1
    refine wmv ?_
    refine wv (x_len Tryz.underlying47 rfl rfl) ?_
    refine wv (x_gtr rfl rfl) ?_
    refine wv (x_pick_t rfl rfl) ?_
    refine wmv ?_
    refine wv (x_build (cs := [_, _]) Tryz.underlying49 Tryz.places49 Tryz.zero49 rfl rfl) ?_
    refine wl_storeAll rfl (by exact Tryz.size49) rfl rfl (by simp [Value.oneCell']) rfl ?_
    refine wns ?_
    refine w_ret ?_
    refine at_endp (resA rfl ⟨⟨_, _, _, rfl, rowH0 (.head _), .inr ⟨Tryz.agg49, Tryz.size49, rfl⟩⟩, trivial⟩) ?_
    refine ⟨_, _, nv ds, rfl, ⟨ds, ⟨hb, hl, ad, cap, rfl, hc, hr⟩, rfl, hn⟩, ?_, ?_⟩
    · by_cases h0 : ds = []
      · subst h0; simp [sg, nv]
      · have : 0 < ds.length := List.length_pos_iff.2 h0
        simp [sg, this]
    · intro e h0
      rw [hz.1 h0] at e
      simp at e
  · skip
    subst h1
    refine wl_off rfl rfl rfl ?_
    refine wl_off rfl rfl rfl ?_
    refine wl_off rfl rfl rfl ?_
    refine wv (x_pick_f rfl rfl) ?_
    refine wmv ?_
    refine wv (x_build (cs := [_, _]) Tryz.underlying49 Tryz.places49 Tryz.zero49 rfl rfl) ?_
    refine wl_storeAll rfl (by exact Tryz.size49) rfl rfl (by simp [Value.oneCell']) rfl ?_
    refine wns ?_
    refine w_ret ?_
    refine at_endp (resA rfl ⟨⟨_, _, _, rfl, rowH0 (.head _), .inr ⟨Tryz.agg49, Tryz.size49, rfl⟩⟩, trivial⟩) ?_
    exact ⟨_, _, nv ds, rfl, ⟨ds, ⟨hb, hl, ad, cap, rfl, hc, hr⟩, rfl, hn⟩, rfl, fun e => by simp at e⟩

theorem From_ok {m : Mem} {neg : Bool} {s : Value} {a : Nat} (h : Nt m s a) : Pure Tryz.prog 101 #[.bool neg, s] m fun r m' => Ic m' r (sg neg a) := by
  refine enterp Tryz.func101 rfl rfl ?_
  intro K hm0 hks
  refine wsr ?_
  refine wl_alloc rfl rfl Tryz.zero49 ?_; intro b4
  refine wnr ?_
  refine wmv ?_
  refine wmv ?_
  refine wl_callp rfl rfl rfl Tryz.c123 (Normal_ok h) ?_; rintro v1 m1 hm1 hv1
  refine wl_callp rfl rfl rfl Tryz.c104 (signed_ok hv1) ?_; rintro v2 m2 hm2 ⟨neg2, s2, a2, rfl, h2, h3, h4⟩
  obtain ⟨ad2, l2, c2, rfl⟩ := h2.slice
  refine wl_storeAll rfl (by exact Tryz.size49) rfl rfl (by simp [Value.oneCell']) rfl ?_
  refine wns ?_
  refine w_ret ?_
  refine at_endp (resA rfl ⟨⟨_, _, _, rfl, rowH0 (.head _), .inr ⟨Tryz.agg49, Tryz.size49, rfl⟩⟩, trivial⟩) ?_
  exact ⟨neg2, _, a2, rfl, h2, h3, h4⟩

theorem Of_ok' {m : Mem} {n : Int} (h1 : -9223372036854775808 ≤ n) (h2 : n ≤ 9223372036854775807) : Pure Tryz.prog 25 #[.int .i64 n] m fun r m' => Ic m' r n := by
  refine enterp Tryz.func25 rfl rfl ?_
  intro K hm0 hks
  refine wsr ?_
  refine wl_alloc rfl rfl Tryz.zero49 ?_; intro b2
  refine wns ?_
  refine w_seq ?_
  refine wsr ?_
  refine wmv ?_
  refine wv (x_lss rfl rfl) ?_
  refine wns ?_
  refine w_if rfl (fun h3 => ?_) (fun h3 => ?_)
  · skip
    refine wsr ?_
    refine wmv ?_
    refine wv (x_conv Tryz.underlying2 Tryz.underlying111 rfl (u64m (r := (n + 18446744073709551616).toNat) (by omega))) ?_
    refine wv (x_neg rfl (u64m (r := n.natAbs) (by omega))) ?_
    refine wl_callp rfl rfl rfl Tryz.c66 (Of_ok (by omega)) ?_; rintro v1 m1 hm1 hv1
    obtain ⟨ad1, l1, c1, rfl⟩ := hv1.slice
    refine wv (x_build (cs := [_, _]) Tryz.underlying49 Tryz.places49 Tryz.zero49 rfl rfl) ?_
    refine wl_storeAll rfl (by exact Tryz.size49) rfl rfl (by simp [Value.oneCell']) rfl ?_
    refine wns ?_
    refine w_ret ?_
    refine at_then_ret ?_
    refine at_endp (resA rfl ⟨⟨_, _, _, rfl, rowH0 (.head _), .inr ⟨Tryz.agg49, Tryz.size49, rfl⟩⟩, trivial⟩) ?_
    exact ⟨true, _, _, rfl, hv1, by simp only [sg, if_true]; omega, fun _ => by omega⟩
  · skip
    refine w_skip ?_
    refine at_seq ?_
    refine wsr ?_
    refine wmv ?_
    refine wv (x_conv Tryz.underlying2 Tryz.underlying111 rfl (u64m (r := n.natAbs) (by omega))) ?_
    refine wl_callp rfl rfl rfl Tryz.c66 (Of_ok (by omega)) ?_; rintro v1 m1 hm1 hv1
    obtain ⟨ad1, l1, c1, rfl⟩ := hv1.slice
    refine wv (x_build (cs := [_, _]) Tryz.underlying49 Tryz.places49 Tryz.zero49 rfl rfl) ?_
    refine wl_storeAll rfl (by exact Tryz.size49) rfl rfl (by simp [Value.oneCell']) rfl ?_
    refine wns ?_
    refine w_ret ?_
    refine at_endp (resA rfl ⟨⟨_, _, _, rfl, rowH0 (.head _), .inr ⟨Tryz.agg49, Tryz.size49, rfl⟩⟩, trivial⟩) ?_
    exact ⟨false, _, _, rfl, hv1, by simp [sg]; omega, fun e => by simp at e⟩
end Go.Cy
