import Derived.Test.YtjdicbffpbpenaaPl
import Derived.Test.YtjdicbffpbpenaaY2
namespace Go.Proofs.Ytjdicbffpbpenaa.Pl
open Go.RowKit Go.Proofs.Ytjdicbffpbpenaa.Y Go.Proofs.YtjdicbffpbpenaaW.PrintWords Go.Proofs.YtjdicbffpbpenaaW.PrintLast Go.Proofs.YtjdicbffpbpenaaW.PrintMore
set_option linter.unusedVariables false
set_option linter.unusedSimpArgs false

/-! Varints: what is written, and that it is read back. -/
def enc : Nat → Int → List Int
  | 0, _ => []
  | f + 1, v => if 128 ≤ v then (v % 128 + 128) :: enc f (v / 128) else [v]
theorem enc_len (f : Nat) : ∀ v, (enc f v).length ≤ f := by
  induction f with
  | zero => intro v; simp [enc]
  | succ f ih =>
    intro v
    simp only [enc]
    split
    · simp; exact ih _
    · simp
theorem enc_pos (f : Nat) (v : Int) : 0 < (enc (f + 1) v).length := by
  simp only [enc]
  split <;> simp
theorem enc_by (f : Nat) : ∀ v, 0 ≤ v → By (enc f v) := by
  induction f with
  | zero => intro v _ x hx; simp [enc] at hx
  | succ f ih =>
    intro v h0 x hx
    simp only [enc] at hx
    split at hx
    · rcases List.mem_cons.1 hx with h | h
      · omega
      · exact ih _ (by omega) x h
    · simp at hx; omega
theorem or128 {n : Int} (h0 : 0 ≤ n) (h : n < 128) : Go.bits .or .u8 n 128 = n + 128 := by
  obtain ⟨m, rfl⟩ := Int.eq_ofNat_of_zero_le h0
  have hm : m < 128 := by omega
  rw [show (128 : Int) = ((128 : Nat) : Int) from rfl, u8_or_nat m 128 (by omega) (by decide)]
  have : ∀ n : Fin 128, n.val ||| 128 = n.val + 128 := by decide +kernel
  have := this ⟨m, hm⟩
  simp only at this
  rw [this]
  omega
theorem and127_64 {v : Int} (h0 : 0 ≤ v) (h : v < 18446744073709551616) : Go.bits .and .u64 v 127 = v % 128 := by
  obtain ⟨m, rfl⟩ := Int.eq_ofNat_of_zero_le h0
  rw [show (127 : Int) = ((127 : Nat) : Int) from rfl, u64_and_nat m 127 (by omega) (by decide)]
  have := Nat.and_two_pow_sub_one_eq_mod m 7
  rw [show (2 ^ 7 - 1 : Nat) = 127 from rfl] at this
  rw [this]
  omega
theorem and127_8 {v : Int} (h0 : 0 ≤ v) (h : v < 256) : Go.bits .and .u8 v 127 = v % 128 := by
  obtain ⟨m, rfl⟩ := Int.eq_ofNat_of_zero_le h0
  rw [show (127 : Int) = ((127 : Nat) : Int) from rfl, u8_and_nat m 127 (by omega) (by decide)]
  have := Nat.and_two_pow_sub_one_eq_mod m 7
  rw [show (2 ^ 7 - 1 : Nat) = 127 from rfl] at this
  rw [this]
  omega
theorem put_l0 (x0 : List Int) (hx : x0.length + 20 < 140737488355328) (f : Nat) : ∀ (k : Nat) (v : Int) (p : List Int), 0 ≤ v → v < 128 ^ f → v < 18446744073709551616 → p.length + f ≤ 10 → 0 < f → f ≤ k → codec_PutUint.l0 k x0 v p = some (x0 ++ (p ++ enc f v)) := by
  induction f with
  | zero => intro k v p _ _ _ _ h; omega
  | succ f ih =>
    intro k v p h0 h1 h2 hp _ hk
    obtain ⟨k, rfl⟩ : ∃ m, k = m + 1 := ⟨k - 1, by omega⟩
    simp only [codec_PutUint.l0, enc]
    have hpl : p.length < 140737488355328 := by omega
    by_cases h : 128 ≤ v
    · have hf : 0 < f := by
        rcases Nat.eq_zero_or_pos f with hf | hf
        · subst hf; simp at h1; omega
        · exact hf
      rw [if_pos (show v ≥ 128 from h), if_pos hpl, if_pos h, and127_64 h0 h2, show v % 128 % 256 = v % 128 by omega, or128 (by omega) (by omega)]
      rw [ih k (v / 128) _ (by omega) (by rw [Int.pow_succ] at h1; omega) (by omega) (by simp; omega) hf (by omega)]
      simp
    · rw [if_neg (show ¬ v ≥ 128 from h), if_pos hpl, if_neg h, show v % 256 = v by omega]
      unfold codec_grow.f
      rw [if_pos (by simp), if_pos (by simp; omega)]; rfl
theorem putuint (l : List Int) (hl : l.length + 20 < 140737488355328) (v : Int) (h0 : 0 ≤ v) (h : v < 18446744073709551616) : Al (fun k => codec_PutUint.f k l v) (l ++ enc 10 v) :=
  ⟨10, fun k hk => by
    show codec_PutUint.l0 k l v [] = _
    rw [put_l0 l hl 10 k v [] h0 (by omega) h (by simp) (by omega) hk]; rfl⟩
theorem pow7 (i : Nat) : (128 : Nat) ^ i = 2 ^ (7 * i) := by rw [Nat.pow_mul]
theorem stepv_eq {acc c : Int} {i : Nat} (hi : i ≤ 9) (h0 : 0 ≤ acc) (h1 : acc < 128 ^ i) (hc0 : 0 ≤ c) (hc : c < 256) (hs : c % 128 * 128 ^ i < 18446744073709551616) : stepv acc c (i : Int) = acc + c % 128 * 128 ^ i := by
  unfold stepv
  rw [and127_8 hc0 hc, u64w_id (n := (i : Int)) (by omega) (by omega), u64w_id (n := 7 * (i : Int)) (by omega) (by omega), u64w_id (n := c % 128) (by omega) (by omega)]
  obtain ⟨a, rfl⟩ := Int.eq_ofNat_of_zero_le h0
  obtain ⟨b, hb⟩ := Int.eq_ofNat_of_zero_le (show 0 ≤ c % 128 by omega)
  rw [hb] at hs ⊢
  have e128 : ((128 : Int) ^ i) = ((2 ^ (7 * i) : Nat) : Int) := by rw [← pow7]; simp
  rw [e128] at h1 hs ⊢
  have hs' : b * 2 ^ (7 * i) < 18446744073709551616 := by
    have : ((b * 2 ^ (7 * i) : Nat) : Int) < 18446744073709551616 := by rw [Int.natCast_mul]; exact hs
    omega
  have h1' : a < 2 ^ (7 * i) := by omega
  have e1 : shl .u64 (b : Int) (7 * (i : Int)) = ((b * 2 ^ (7 * i) : Nat) : Int) := by
    unfold shl
    rw [show (7 * (i : Int)).toNat = 7 * i by omega, Nat.min_eq_left (show 7 * i ≤ IntKind.u64.bits by show 7 * i ≤ 64; omega)]
    rw [show (b : Int) * 2 ^ (7 * i) = ((b * 2 ^ (7 * i) : Nat) : Int) by simp]
    exact u64w_id (by omega) (by omega)
  rw [e1]
  have ha : a < 18446744073709551616 := by
    have : 2 ^ (7 * i) ≤ 2 ^ 63 := Nat.pow_le_pow_right (by decide) (by omega)
    omega
  rw [u64_or_nat a _ ha hs']
  have := Nat.shiftLeft_add_eq_or_of_lt h1' b
  rw [Nat.shiftLeft_eq, Nat.or_comm] at this
  rw [← this]
  omega
theorem p128 (i : Nat) : (0 : Int) < 128 ^ i := Int.pow_pos (by decide)
theorem p9 : (128 : Int) ^ 9 = 9223372036854775808 := by decide
theorem pow_le {i j : Nat} (h : i ≤ j) : (128 : Int) ^ i ≤ 128 ^ j := by
  have : 128 ^ i ≤ 128 ^ j := Nat.pow_le_pow_right (by decide) h
  have h2 : ((128 ^ i : Nat) : Int) ≤ ((128 ^ j : Nat) : Int) := by omega
  simpa using h2
theorem us_dec (f : Nat) : ∀ (d i : Nat) (p t : List Int) (acc v : Int), p.length = i → i + d = 10 → 0 < d → 0 ≤ acc → acc < 128 ^ i → 0 ≤ v → v < 128 ^ (f + 1) → acc + v * 128 ^ i < 18446744073709551616 → (i = 0 ∨ 0 < v) →
    us (p ++ (enc (f + 1) v ++ t)) d acc (i : Int) = (acc + v * 128 ^ i, (i : Int) + (enc (f + 1) v).length, 0) := by
  induction f with
  | zero =>
    intro d i p t acc v hp hd h0 ha ha2 hv hv2 hs hz
    have hv3 : v < 128 := by simpa using hv2
    obtain ⟨d, rfl⟩ : ∃ m, d = m + 1 := ⟨d - 1, by omega⟩
    have hP := p128 i
    have hvp : v ≤ v * 128 ^ i := by have := Int.mul_le_mul_of_nonneg_left (show 1 ≤ (128 : Int) ^ i by omega) hv; omega
    rw [show enc (0 + 1) v = [v] by rw [enc, if_neg (by omega)]]
    simp only [us]
    have hr : rd (p ++ ([v] ++ t)) (i : Int) = v := by rw [rd_app_right (by omega)]; exact rd_cons0 _ _
    have h9 : ¬ ((i : Int) = 9 ∧ 1 < v) := by
      rintro ⟨h, h2⟩
      obtain rfl : i = 9 := by omega
      rw [p9] at hs
      omega
    rw [hr, if_neg (by simp; omega), if_neg h9, if_pos hv3, if_neg (by omega), stepv_eq (by omega) ha ha2 hv (by omega) (by rw [show v % 128 = v by omega]; omega), show v % 128 = v by omega]
    simp
  | succ f ih =>
    intro d i p t acc v hp hd h0 ha ha2 hv hv2 hs hz
    obtain ⟨d, rfl⟩ : ∃ m, d = m + 1 := ⟨d - 1, by omega⟩
    have hP := p128 i
    have hvp : v ≤ v * 128 ^ i := by have := Int.mul_le_mul_of_nonneg_left (show 1 ≤ (128 : Int) ^ i by omega) hv; omega
    by_cases h : 128 ≤ v
    · have hi : i ≤ 8 := by
        rcases Nat.lt_or_ge i 9 with h' | h'
        · omega
        · exfalso
          have h1 := pow_le h'
          rw [p9] at h1
          have := Int.mul_le_mul h h1 (by omega) (by omega)
          omega
      rw [show enc (f + 1 + 1) v = (v % 128 + 128) :: enc (f + 1) (v / 128) by rw [enc, if_pos h]]
      simp only [us]
      have hr : rd (p ++ ((v % 128 + 128) :: enc (f + 1) (v / 128) ++ t)) (i : Int) = v % 128 + 128 := by rw [rd_app_right (by omega)]; exact rd_cons0 _ _
      rw [hr, if_neg (by simp; omega), if_neg (by omega), if_neg (by omega)]
      have hc : (v % 128 + 128) % 128 = v % 128 := by omega
      have hb : v % 128 * 128 ^ i < 128 ^ (i + 1) := by
        rw [Int.pow_succ]
        have := Int.mul_lt_mul_of_pos_right (show v % 128 < 128 by omega) hP
        rw [Int.mul_comm (128 ^ i)]; exact this
      have h99 := pow_le (show i + 1 ≤ 9 by omega)
      rw [p9] at h99
      rw [stepv_eq (by omega) ha ha2 (by omega) (by omega) (by rw [hc]; omega), hc]
      have e1 : (i : Int) + 1 = ((i + 1 : Nat) : Int) := by omega
      have e2 : v * 128 ^ i = v % 128 * 128 ^ i + v / 128 * 128 ^ (i + 1) := by
        rw [Int.pow_succ]
        have : v = v % 128 + 128 * (v / 128) := by omega
        have h2 : v * 128 ^ i = (v % 128 + 128 * (v / 128)) * 128 ^ i := by rw [← this]
        rw [h2, Int.add_mul]
        congr 1
        rw [Int.mul_comm (128 ^ i) 128, ← Int.mul_assoc, Int.mul_comm (v / 128) 128]
      have := ih d (i + 1) (p ++ [v % 128 + 128]) t (acc + v % 128 * 128 ^ i) (v / 128) (by simp; omega) (by omega) (by omega)
        (by have := Int.mul_nonneg (show 0 ≤ v % 128 by omega) (Int.le_of_lt hP); omega) (by
          rw [Int.pow_succ]
          have := Int.mul_le_mul_of_nonneg_right (show v % 128 ≤ 127 by omega) (Int.le_of_lt hP)
          omega) (by omega) (by rw [Int.pow_succ (128 : Int) (f + 1)] at hv2; omega) (by omega) (.inr (by omega))
      rw [List.append_assoc] at this
      rw [e1, show (p ++ ((v % 128 + 128) :: enc (f + 1) (v / 128) ++ t)) = p ++ ([v % 128 + 128] ++ (enc (f + 1) (v / 128) ++ t)) by simp, this, e2]
      simp
      constructor <;> omega
    · have hv3 : v < 128 := by omega
      rw [show enc (f + 1 + 1) v = [v] by rw [enc, if_neg h]]
      simp only [us]
      have hr : rd (p ++ ([v] ++ t)) (i : Int) = v := by rw [rd_app_right (by omega)]; exact rd_cons0 _ _
      have h9 : ¬ ((i : Int) = 9 ∧ 1 < v) := by
        rintro ⟨h, h2⟩
        obtain rfl : i = 9 := by omega
        rw [p9] at hs
        omega
      rw [hr, if_neg (by simp; omega), if_neg h9, if_pos hv3, if_neg (by omega), stepv_eq (by omega) ha ha2 hv (by omega) (by rw [show v % 128 = v by omega]; omega), show v % 128 = v by omega]
      simp
theorem uint_enc (v : Int) (h0 : 0 ≤ v) (h : v < 18446744073709551616) (t : List Int) : uint (enc 10 v ++ t) = (v, ((enc 10 v).length : Int), 0) := by
  have := us_dec 9 10 0 [] t 0 v rfl rfl (by omega) (by omega) (by decide) h0 (by omega) (by omega) (.inl rfl)
  simpa [uint] using this
end Go.Proofs.Ytjdicbffpbpenaa.Pl
