/- Digits in base 2^32: plain lemmas. -/

namespace Go.Cy

def nv : List Nat → Nat
  | [] => 0
  | d :: ds => d + 4294967296 * nv ds
def norm (ds : List Nat) : Prop := ds.getLast? ≠ some 0
def okd (ds : List Nat) : Prop := ∀ d ∈ ds, d < 4294967296

theorem nv_append (xs ys : List Nat) : nv (xs ++ ys) = nv xs + 4294967296 ^ xs.length * nv ys := by
  induction xs with
  | nil => simp [nv]
  | cons d xs ih => simp only [List.cons_append, nv, ih, List.length_cons, Nat.pow_succ]; rw [Nat.mul_add, ← Nat.mul_assoc, Nat.mul_comm (4294967296 ^ xs.length)]; omega
theorem nv_snoc (xs : List Nat) (d : Nat) : nv (xs ++ [d]) = nv xs + 4294967296 ^ xs.length * d := by rw [nv_append]; simp [nv]
theorem nv_lt {ds : List Nat} (h : okd ds) : nv ds < 4294967296 ^ ds.length := by
  induction ds with
  | nil => simp [nv]
  | cons d ds ih =>
    have h1 := ih (fun x hx => h x (.tail _ hx))
    have h2 := h d (.head _)
    simp only [nv, List.length_cons, Nat.pow_succ]
    omega
theorem nv_zero : ∀ k, nv (List.replicate k 0) = 0
  | 0 => rfl
  | k + 1 => by simp [List.replicate_succ, nv, nv_zero k]
theorem norm_nil : norm [] := by simp [norm]
theorem norm_cons {d e : Nat} {ds : List Nat} (h : norm (d :: e :: ds)) : norm (e :: ds) := by
  unfold norm at *; rw [List.getLast?_cons_cons] at h; exact h
theorem nv_pos {ds : List Nat} (h : norm ds) (hne : ds ≠ []) : 4294967296 ^ (ds.length - 1) ≤ nv ds := by
  induction ds with
  | nil => exact absurd rfl hne
  | cons d ds ih =>
    cases ds with
    | nil =>
      simp [nv]
      have : d ≠ 0 := by intro e; subst e; exact h rfl
      omega
    | cons e ds =>
      have := ih (norm_cons h) (by simp)
      simp only [List.length_cons, Nat.add_sub_cancel] at this ⊢
      rw [Nat.pow_succ]
      have e1 : nv (d :: e :: ds) = d + 4294967296 * nv (e :: ds) := rfl
      omega
theorem nv_eq_zero {ds : List Nat} (h : norm ds) : nv ds = 0 ↔ ds = [] := by
  constructor
  · intro h0
    cases ds with
    | nil => rfl
    | cons d ds =>
      have h1 := nv_pos h (by simp)
      have h2 : 0 < 4294967296 ^ ((d :: ds).length - 1) := Nat.pow_pos (by omega)
      omega
  · intro h0; subst h0; rfl

def dlen (n : Nat) : Nat := if n = 0 then 0 else dlen (n / 4294967296) + 1
  termination_by n
  decreasing_by omega
theorem dlen_zero : dlen 0 = 0 := by rw [dlen]; simp
theorem dlen_pos {n : Nat} (h : n ≠ 0) : dlen n = dlen (n / 4294967296) + 1 := by rw [dlen]; simp [h]
theorem lt_dlen (n : Nat) : n < 4294967296 ^ dlen n := by
  induction n using Nat.strongRecOn with
  | _ n ih =>
    by_cases h : n = 0
    · subst h; rw [dlen_zero]; simp
    · rw [dlen_pos h, Nat.pow_succ]
      have := ih (n / 4294967296) (by omega)
      omega
theorem dlen_le {n k : Nat} (h : n < 4294967296 ^ k) : dlen n ≤ k := by
  induction k generalizing n with
  | zero =>
    have : n = 0 := by simpa using h
    subst this; rw [dlen_zero]; exact Nat.le_refl 0
  | succ k ih =>
    by_cases h0 : n = 0
    · subst h0; rw [dlen_zero]; omega
    · rw [dlen_pos h0]
      have : n / 4294967296 < 4294967296 ^ k := by rw [Nat.pow_succ] at h; omega
      have := ih this
      omega
theorem dlen_mono {a b : Nat} (h : a ≤ b) : dlen a ≤ dlen b := dlen_le (Nat.lt_of_le_of_lt h (lt_dlen b))
theorem dlen_nv {ds : List Nat} (ho : okd ds) (hn : norm ds) : ds.length = dlen (nv ds) := by
  induction ds with
  | nil => simp [nv, dlen_zero]
  | cons d ds ih =>
    have hd := ho d (.head _)
    have hne : nv (d :: ds) ≠ 0 := fun h => by simpa using (nv_eq_zero hn).1 h
    rw [dlen_pos hne]
    have e : nv (d :: ds) / 4294967296 = nv ds := by simp only [nv]; omega
    rw [e]
    cases ds with
    | nil => simp [nv, dlen_zero]
    | cons e ds =>
      have := ih (fun x hx => ho x (.tail _ hx)) (norm_cons hn)
      simp only [List.length_cons] at this ⊢
      omega
theorem dlen_le_length {ds : List Nat} (ho : okd ds) : dlen (nv ds) ≤ ds.length := dlen_le (nv_lt ho)
theorem dlen_mul (a b : Nat) : dlen (a * b) ≤ dlen a + dlen b := by
  refine dlen_le ?_
  rw [Nat.pow_add]
  have h1 := lt_dlen a
  have h2 := lt_dlen b
  rcases Nat.eq_zero_or_pos b with h | h
  · subst h; simp; exact Nat.mul_pos (Nat.pow_pos (by omega)) (Nat.pow_pos (by omega))
  · exact Nat.mul_lt_mul_of_lt_of_le h1 (Nat.le_of_lt h2) (Nat.pow_pos (by omega))
theorem dlen_one : dlen 1 = 1 := by rw [dlen_pos (by omega)]; simp [dlen_zero]
theorem dlen_small {n : Nat} (h : n < 4294967296) : dlen n ≤ 1 := dlen_le (by simpa using h)
theorem nv_inj {xs ys : List Nat} (hx : okd xs) (hy : okd ys) (hl : xs.length = ys.length) (h : nv xs = nv ys) : xs = ys := by
  induction xs generalizing ys with
  | nil => cases ys with
    | nil => rfl
    | cons _ _ => simp at hl
  | cons d xs ih =>
    cases ys with
    | nil => simp at hl
    | cons e ys =>
      simp only [nv] at h
      have h1 := hx d (.head _)
      have h2 := hy e (.head _)
      have e1 : d = e := by omega
      subst e1
      rw [ih (fun x hx' => hx x (.tail _ hx')) (fun x hy' => hy x (.tail _ hy')) (by simpa using hl) (by omega)]
theorem nv_take_pred {ds : List Nat} {k : Nat} (h : k < ds.length) (h0 : ds[k] = 0) : nv (ds.take (k + 1)) = nv (ds.take k) := by
  induction ds generalizing k with
  | nil => simp at h
  | cons d ds ih =>
    cases k with
    | zero => simp at h0; simp [nv, h0]
    | succ k => simp at h h0; simp [nv, ih h h0]
theorem norm_take {ds : List Nat} {k : Nat} (h : k - 1 < ds.length) (h0 : ds[k - 1] ≠ 0) : norm (ds.take k) := by
  unfold norm
  rw [List.getLast?_take]
  split
  · simp
  · rw [List.getElem?_eq_getElem h]
    simpa using h0
theorem nv_take_succ {ds : List Nat} {k : Nat} (h : k < ds.length) : nv (ds.take (k + 1)) = nv (ds.take k) + 4294967296 ^ k * ds[k] := by
  rw [List.take_succ_eq_append_getElem h, nv_snoc]
  simp [Nat.min_eq_left (Nat.le_of_lt h)]
theorem nv_split (ds : List Nat) (k : Nat) (h : k ≤ ds.length) : nv ds = nv (ds.take k) + 4294967296 ^ k * nv (ds.drop k) := by
  conv => lhs; rw [← List.take_append_drop k ds, nv_append]
  simp [Nat.min_eq_left h]
theorem okd_take {ds : List Nat} (h : okd ds) (k : Nat) : okd (ds.take k) := fun d hd => h d (List.mem_of_mem_take hd)
theorem okd_drop {ds : List Nat} (h : okd ds) (k : Nat) : okd (ds.drop k) := fun d hd => h d (List.mem_of_mem_drop hd)
theorem okd_set {ds : List Nat} (h : okd ds) (k : Nat) {d : Nat} (hd : d < 4294967296) : okd (ds.set k d) := fun x hx => by
  rcases List.mem_or_eq_of_mem_set hx with h1 | h1
  · exact h x h1
  · subst h1; exact hd
theorem okd_append {xs ys : List Nat} (hx : okd xs) (hy : okd ys) : okd (xs ++ ys) := fun d hd => (List.mem_append.1 hd).elim (hx d) (hy d)
theorem nv_set {ds : List Nat} {k : Nat} (h : k < ds.length) (d : Nat) : nv (ds.set k d) + 4294967296 ^ k * ds[k] = nv ds + 4294967296 ^ k * d := by
  induction ds generalizing k with
  | nil => simp at h
  | cons x ds ih =>
    cases k with
    | zero => simp [nv]; omega
    | succ k =>
      simp only [List.set_cons_succ, nv, List.getElem_cons_succ, Nat.pow_succ]
      have := ih (k := k) (by simpa using h)
      have e1 : 4294967296 ^ k * 4294967296 * ds[k]'(by simpa using h) = 4294967296 * (4294967296 ^ k * ds[k]'(by simpa using h)) := by rw [Nat.mul_comm (4294967296 ^ k), Nat.mul_assoc]
      have e2 : 4294967296 ^ k * 4294967296 * d = 4294967296 * (4294967296 ^ k * d) := by rw [Nat.mul_comm (4294967296 ^ k), Nat.mul_assoc]
      rw [e1, e2]
      omega

/-! Division by one digit -/
theorem divStep_lt {rest d x : Nat} (h : rest < d) (hx : x < 4294967296) : (rest * 4294967296 + x) / d < 4294967296 :=
  Nat.div_lt_of_lt_mul (by have : d * 4294967296 ≥ (rest + 1) * 4294967296 := Nat.mul_le_mul_right _ h; omega)
theorem nv_drop_step {ds : List Nat} {k : Nat} (h1 : k - 1 < ds.length) (hk : 0 < k) : nv (ds.drop (k - 1)) = ds[k - 1] + 4294967296 * nv (ds.drop k) := by
  rw [List.drop_eq_getElem_cons h1]
  simp only [nv, show k - 1 + 1 = k by omega]
theorem divStep {ds zs : List Nat} {k d rest : Nat} (h1 : k - 1 < ds.length) (h2 : k - 1 < zs.length) (hk : 0 < k) (h : nv (ds.drop k) = d * nv (zs.drop k) + rest) :
    nv (ds.drop (k - 1)) = d * nv ((zs.set (k - 1) ((rest * 4294967296 + ds[k - 1]) / d)).drop (k - 1)) + (rest * 4294967296 + ds[k - 1]) % d := by
  rw [nv_drop_step h1 hk, nv_drop_step (by simpa using h2) hk, h]
  rw [List.drop_set_of_lt (by omega)]
  simp only [List.getElem_set_self]
  have := Nat.div_add_mod (rest * 4294967296 + ds[k - 1]) d
  have e : d * ((rest * 4294967296 + ds[k - 1]) / d + 4294967296 * nv (List.drop k zs)) = d * ((rest * 4294967296 + ds[k - 1]) / d) + 4294967296 * (d * nv (List.drop k zs)) := by rw [Nat.mul_add, Nat.mul_left_comm d]
  rw [e]
  omega

/-! The product, row by row -/
theorem row_step {zs : List Nat} {k : Nat} (hk : k < zs.length) (x y c : Nat) :
    nv (zs.set k ((x * y + zs[k] + c) % 4294967296)) + 4294967296 ^ (k + 1) * ((x * y + zs[k] + c) / 4294967296) = nv zs + 4294967296 ^ k * c + 4294967296 ^ k * (x * y) := by
  have h1 := nv_set hk ((x * y + zs[k] + c) % 4294967296)
  have h2 : 4294967296 ^ (k + 1) * ((x * y + zs[k] + c) / 4294967296) = 4294967296 ^ k * (4294967296 * ((x * y + zs[k] + c) / 4294967296)) := by rw [Nat.pow_succ, Nat.mul_assoc]
  have h3 : 4294967296 ^ k * ((x * y + zs[k] + c) % 4294967296) + 4294967296 ^ k * (4294967296 * ((x * y + zs[k] + c) / 4294967296)) = 4294967296 ^ k * (x * y + zs[k] + c) := by
    rw [← Nat.mul_add, Nat.mod_add_div]
  have h4 : 4294967296 ^ k * (x * y + zs[k] + c) = 4294967296 ^ k * (x * y) + 4294967296 ^ k * zs[k] + 4294967296 ^ k * c := by rw [Nat.mul_add, Nat.mul_add]
  omega
theorem row_inner {zs ys : List Nat} {i j : Nat} {x c A : Nat} (hk : i + j < zs.length) (hj : j < ys.length) (h : nv zs + 4294967296 ^ (i + j) * c = A + 4294967296 ^ i * (x * nv (ys.take j))) :
    nv (zs.set (i + j) ((x * ys[j] + zs[i + j] + c) % 4294967296)) + 4294967296 ^ (i + (j + 1)) * ((x * ys[j] + zs[i + j] + c) / 4294967296) = A + 4294967296 ^ i * (x * nv (ys.take (j + 1))) := by
  have h1 := row_step hk x ys[j] c
  rw [← Nat.add_assoc, h1, nv_take_succ hj]
  have h2 : 4294967296 ^ i * (x * (nv (ys.take j) + 4294967296 ^ j * ys[j])) = 4294967296 ^ i * (x * nv (ys.take j)) + 4294967296 ^ (i + j) * (x * ys[j]) := by
    rw [Nat.mul_add, Nat.mul_add, Nat.pow_add, Nat.mul_left_comm x, Nat.mul_assoc (4294967296 ^ i)]
  omega
theorem zero_digit {zs : List Nat} {k r : Nat} (hk : k < zs.length) (h : zs.drop k = List.replicate r 0) : zs[k] = 0 := by
  rw [List.drop_eq_getElem_cons hk] at h
  cases r with
  | zero => simp only [List.replicate_zero] at h; cases h
  | succ r => rw [List.replicate_succ] at h; exact (List.cons.inj h).1
theorem drop_zeros {zs : List Nat} {k n : Nat} (h : zs.drop k = List.replicate (n - k) 0) : zs.drop (k + 1) = List.replicate (n - (k + 1)) 0 := by
  rw [← List.drop_drop, h, List.drop_replicate]
  congr 1
theorem row_end {zs xs ys : List Nat} {i : Nat} {c : Nat} (hk : i + ys.length < zs.length) (hi : i < xs.length) (hz : zs[i + ys.length] = 0) (h : nv zs + 4294967296 ^ (i + ys.length) * c = nv (xs.take i) * nv ys + 4294967296 ^ i * (xs[i] * nv ys)) :
    nv (zs.set (i + ys.length) c) = nv (xs.take (i + 1)) * nv ys := by
  have h1 := nv_set hk c
  rw [hz, Nat.mul_zero, Nat.add_zero, h] at h1
  rw [h1, nv_take_succ hi, Nat.add_mul, Nat.mul_assoc]
end Go.Cy
