/-
  Plain arithmetic: a digit of a quotient by a normalized divisor (what bits.Div64 reckons), by an estimate that is brought down.
-/
namespace Go.Pe

theorem digit_lt {u y d : Nat} (hu : u < y) (hd : d < 4294967296) : (u * 4294967296 + d) / y < 4294967296 := by
  refine Nat.div_lt_of_lt_mul ?_
  have : (u + 1) * 4294967296 ≤ y * 4294967296 := Nat.mul_le_mul_right _ hu
  rw [Nat.mul_comm y]
  rw [Nat.mul_comm y] at this
  omega

/-- The estimate is not below the digit. -/
theorem digit_le {u y d : Nat} (hd : d < 4294967296) (hy : 4294967296 ≤ y) : (u * 4294967296 + d) / y ≤ u / (y / 4294967296) := by
  have hb : 0 < y / 4294967296 := Nat.div_pos hy (by decide)
  rw [Nat.le_div_iff_mul_le hb]
  have h1 : y / 4294967296 * 4294967296 ≤ y := Nat.div_mul_le_self y _
  have h2 : (u * 4294967296 + d) / y * y ≤ u * 4294967296 + d := Nat.div_mul_le_self _ y
  have h3 : (u * 4294967296 + d) / y * (y / 4294967296 * 4294967296) ≤ (u * 4294967296 + d) / y * y := Nat.mul_le_mul_left _ h1
  rw [← Nat.mul_assoc] at h3
  omega

/-- The estimate is at most so great. -/
theorem digit_top {u y : Nat} (hu : u < y) (hy : 9223372036854775808 ≤ y) : u / (y / 4294967296) ≤ 4294967297 := by
  have hb : 2147483648 ≤ y / 4294967296 := by omega
  have : u / (y / 4294967296) < 4294967298 := by
    refine Nat.div_lt_of_lt_mul ?_
    generalize hk : y / 4294967296 = k at *
    have : y < k * 4294967296 + 4294967296 := by omega
    omega
  omega

theorem split_mul (q y : Nat) : q * y = q * (y / 4294967296) * 4294967296 + q * (y % 4294967296) := by
  rw [Nat.mul_assoc, ← Nat.mul_add, Nat.div_add_mod' y 4294967296]

/-- It is the digit, where the test says no. -/
theorem digit_eq {u y d q r : Nat} (hy : 0 < y) (he : q * (y / 4294967296) + r = u) (hq : (u * 4294967296 + d) / y ≤ q) (ht : q * (y % 4294967296) ≤ 4294967296 * r + d) : q = (u * 4294967296 + d) / y := by
  refine Nat.le_antisymm ?_ hq
  rw [Nat.le_div_iff_mul_le hy, split_mul q y, ← he, Nat.add_mul]
  omega

/-- It is above the digit, where the test says yes. -/
theorem digit_gt {u y d q r : Nat} (hy : 0 < y) (he : q * (y / 4294967296) + r = u) (ht : 4294967296 * r + d < q * (y % 4294967296)) : (u * 4294967296 + d) / y < q := by
  refine (Nat.div_lt_iff_lt_mul hy).2 ?_
  rw [split_mul q y, ← he, Nat.add_mul]
  omega

/-- One step down. -/
theorem digit_down {k u q r : Nat} (he : q * k + r = u) (hq : 0 < q) : (q - 1) * k + (r + k) = u := by
  obtain ⟨p, rfl⟩ : ∃ p, q = p + 1 := ⟨q - 1, by omega⟩
  rw [Nat.add_mul] at he
  simp only [Nat.add_sub_cancel]
  omega

/-- It is the digit, where the rest is great enough. -/
theorem digit_out {u y d q r : Nat} (hy : 0 < y) (he : q * (y / 4294967296) + r = u) (hq : (u * 4294967296 + d) / y ≤ q) (h1 : q ≤ 4294967296) (h2 : 4294967296 ≤ r) : q = (u * 4294967296 + d) / y := by
  refine digit_eq hy he hq ?_
  have a : y % 4294967296 ≤ 4294967295 := by omega
  have b : q * (y % 4294967296) ≤ 4294967296 * 4294967295 := Nat.mul_le_mul h1 a
  omega

theorem two_digits_k {u y a b k : Nat} (hy : 0 < y) :
    (u * (k * k) + a * k + b) / y = (u * k + a) / y * k + ((u * k + a) % y * k + b) / y ∧
    (u * (k * k) + a * k + b) % y = ((u * k + a) % y * k + b) % y := by
  have e : u * (k * k) + a * k + b = ((u * k + a) % y * k + b) + ((u * k + a) / y * k) * y := by
    have h1 : u * (k * k) + a * k = (u * k + a) * k := by rw [Nat.add_mul, Nat.mul_assoc]
    rw [h1]
    generalize u * k + a = D
    have h3 : D * k = D % y * k + D / y * k * y := by
      rw [Nat.mul_right_comm, ← Nat.add_mul, Nat.mul_comm (D / y) y, Nat.mod_add_div]
    rw [h3]
    omega
  rw [e, Nat.add_mul_div_right _ _ hy, Nat.add_mul_mod_self_right]
  exact ⟨Nat.add_comm _ _, rfl⟩

/-- Two digits together. -/
theorem two_digits {u y a b : Nat} (hy : 0 < y) :
    (u * 18446744073709551616 + a * 4294967296 + b) / y = (u * 4294967296 + a) / y * 4294967296 + ((u * 4294967296 + a) % y * 4294967296 + b) / y ∧
    (u * 18446744073709551616 + a * 4294967296 + b) % y = ((u * 4294967296 + a) % y * 4294967296 + b) % y :=
  two_digits_k (k := 4294967296) hy

end Go.Pe
