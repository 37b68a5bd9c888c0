import Derived.Test.YtjdicbffpbpenaaPf
import Derived.Test.YtjdicbffpbpenaaY2
namespace Go.Proofs.Ytjdicbffpbpenaa.Pl
open Go.RowKit Go.Proofs.Ytjdicbffpbpenaa.Y Go.Proofs.YtjdicbffpbpenaaW.PrintWords Go.Proofs.YtjdicbffpbpenaaW.PrintLast Go.Proofs.YtjdicbffpbpenaaW.PrintMore
set_option linter.unusedVariables false
set_option linter.unusedSimpArgs false

/-! Frames: what is written. -/
def be4 (c : Int) : List Int := [c / 16777216 % 256, c / 65536 % 256, c / 256 % 256, c % 256]
def fr (l : List Int) : List Int := enc 10 (l.length : Int) ++ (l ++ be4 (sum l))
theorem be4_by (c : Int) : By (be4 c) := by
  intro x hx
  simp only [be4, List.mem_cons, List.not_mem_nil, or_false] at hx
  rcases hx with rfl | rfl | rfl | rfl <;> omega
theorem fr_by {l : List Int} (hl : By l) : By (fr l) := (enc_by 10 _ (by omega)).app (hl.app (be4_by _))
theorem frame_al {l : List Int} (hl : l.length ≤ 4096) : Al (fun k => codec_Frame.f k l) (fr l, 0) := by
  have hq := enc_len 10 (l.length : Int)
  refine Al.bindE (fun k => by unfold codec_Frame.f; rw [if_neg (by omega)]) (sum_al l (by omega)) ?_
  refine Al.bindE (fun k => by rw [u64w_id (n := (l.length : Int)) (by omega) (by omega)]) (putuint [] (by simp) (l.length : Int) (by omega) (by omega)) (Al.val fun k => ?_)
  simp only [List.nil_append, Option.bind_some]
  rw [if_pos (by omega), if_pos (by simp; omega)]
  unfold fr be4
  rw [List.append_assoc]
theorem frame_long {l : List Int} (hl : ¬ l.length ≤ 4096) : Al (fun k => codec_Frame.f k l) ([], 3) := Al.val fun k => by unfold codec_Frame.f; rw [if_pos (by omega)]
theorem or_add (x y i : Nat) (h : y < 2 ^ i) : x * 2 ^ i ||| y = x * 2 ^ i + y := by
  have := Nat.shiftLeft_add_eq_or_of_lt h x
  rw [Nat.shiftLeft_eq] at this
  exact this.symm
theorem or24 (x y : Nat) (h : y < 16777216) : x * 16777216 ||| y = x * 16777216 + y := or_add x y 24 h
theorem or16 (x y : Nat) (h : y < 65536) : x * 65536 ||| y = x * 65536 + y := or_add x y 16 h
theorem or8 (x y : Nat) (h : y < 256) : x * 256 ||| y = x * 256 + y := or_add x y 8 h
theorem be_val {l : List Int} {n a b c d : Int} (ha : rd l n = a) (hb : rd l (n + 1) = b) (hc : rd l (n + 2) = c) (hd : rd l (n + 3) = d) (ra : 0 ≤ a ∧ a < 256) (rb : 0 ≤ b ∧ b < 256) (rc : 0 ≤ c ∧ c < 256) (rd' : 0 ≤ d ∧ d < 256) :
    be l n = a * 16777216 + b * 65536 + c * 256 + d := by
  unfold be
  rw [ha, hb, hc, hd]
  obtain ⟨A, rfl⟩ := Int.eq_ofNat_of_zero_le ra.1
  obtain ⟨B, rfl⟩ := Int.eq_ofNat_of_zero_le rb.1
  obtain ⟨C, rfl⟩ := Int.eq_ofNat_of_zero_le rc.1
  obtain ⟨D, rfl⟩ := Int.eq_ofNat_of_zero_le rd'.1
  rw [show (A : Int) % 4294967296 * 16777216 % 4294967296 = ((A * 16777216 : Nat) : Int) by omega, show (B : Int) % 4294967296 * 65536 % 4294967296 = ((B * 65536 : Nat) : Int) by omega, show (C : Int) % 4294967296 * 256 % 4294967296 = ((C * 256 : Nat) : Int) by omega, show (D : Int) % 4294967296 = ((D : Nat) : Int) by omega]
  have e1 : A * 16777216 ||| B * 65536 = (A * 256 + B) * 65536 := by rw [or24 A (B * 65536) (by omega)]; omega
  have e2 : (A * 256 + B) * 65536 ||| C * 256 = ((A * 256 + B) * 256 + C) * 256 := by rw [or16 (A * 256 + B) (C * 256) (by omega)]; omega
  have e3 : ((A * 256 + B) * 256 + C) * 256 ||| D = ((A * 256 + B) * 256 + C) * 256 + D := or8 _ D (by omega)
  rw [u32_or_nat _ _ (by omega) (by omega), e1, u32_or_nat _ _ (by omega) (by omega), e2, u32_or_nat _ _ (by omega) (by omega), e3]
  omega
theorem rd_at {p q : List Int} {i : Int} {j : Nat} (h : i = p.length + j) : rd (p ++ q) i = rd q (j : Int) := by
  subst h
  simp only [rd, List.getD_eq_getElem?_getD]
  rw [show ((p.length : Int) + (j : Int)).toNat = p.length + j by omega, List.getElem?_append_right (by omega)]
  simp
theorem four {b : List Int} (h : b.length = 4) : ∃ w x y z, b = [w, x, y, z] := by
  match b, h with
  | [w, x, y, z], _ => exact ⟨w, x, y, z, rfl⟩
def num4 : List Int → Int
  | [a, b, c, d] => a * 16777216 + b * 65536 + c * 256 + d
  | _ => 0
theorem be_app (p b t : List Int) (hb : By b) (h4 : b.length = 4) : be (p ++ (b ++ t)) (p.length : Int) = num4 b := by
  obtain ⟨w, x, y, z, rfl⟩ := four h4
  have m := fun v hv => hb v hv
  refine be_val ?_ ?_ ?_ ?_ (m w (by simp)) (m x (by simp)) (m y (by simp)) (m z (by simp))
  · rw [rd_at (j := 0) (by omega)]; simp [rd]
  · rw [rd_at (j := 1) (by omega)]; simp [rd]
  · rw [rd_at (j := 2) (by omega)]; simp [rd]
  · rw [rd_at (j := 3) (by omega)]; simp [rd]
theorem num4_be4 {c : Int} (h : Wd c) : num4 (be4 c) = c := by
  obtain ⟨h0, h1⟩ := h
  simp only [be4, num4]
  omega
theorem num4_inj {b c : List Int} (hb : By b) (hc : By c) (h4 : b.length = 4) (k4 : c.length = 4) (h : num4 b = num4 c) : b = c := by
  obtain ⟨w, x, y, z, rfl⟩ := four h4
  obtain ⟨w', x', y', z', rfl⟩ := four k4
  simp only [num4] at h
  have m := fun v hv => hb v hv
  have n := fun v hv => hc v hv
  have := m w (by simp)
  have := m x (by simp)
  have := m y (by simp)
  have := m z (by simp)
  have := n w' (by simp)
  have := n x' (by simp)
  have := n y' (by simp)
  have := n z' (by simp)
  obtain rfl : w = w' := by omega
  obtain rfl : x = x' := by omega
  obtain rfl : y = y' := by omega
  obtain rfl : z = z' := by omega
  rfl
/-- A payload of its length, four bytes, and whatever follows. -/
theorem unf_app (l b t : List Int) (hl : l.length ≤ 4096) (hb : By b) (h4 : b.length = 4) :
    unf (enc 10 (l.length : Int) ++ (l ++ b) ++ t) = if num4 b = sum l then (l, ((enc 10 (l.length : Int)).length : Int) + l.length + 4, 0) else ([], 0, 7) := by
  have hu := uint_enc (l.length : Int) (by omega) (by omega) ((l ++ b) ++ t)
  rw [← List.append_assoc] at hu
  have hs : szd (enc 10 (l.length : Int) ++ (l ++ b) ++ t) 4096 = (l, ((enc 10 (l.length : Int)).length : Int) + l.length, 0) := by
    unfold szd
    rw [hu]
    simp only [if_true]
    rw [if_neg (by omega), if_neg (by simp; omega)]
    congr 1
    simp only [Int.toNat_natCast]
    rw [show (((enc 10 (l.length : Int)).length : Int) + (l.length : Int)).toNat = (enc 10 (l.length : Int)).length + l.length by omega]
    rw [List.append_assoc, List.append_assoc, List.take_length_add_append, List.take_left, List.drop_left]
  unfold unf
  rw [hs]
  simp only [if_true]
  rw [if_neg (by simp; omega)]
  have hbe : be (enc 10 (l.length : Int) ++ (l ++ b) ++ t) (((enc 10 (l.length : Int)).length : Int) + l.length) = num4 b := by
    have := be_app (enc 10 (l.length : Int) ++ l) b t hb h4
    simpa [List.append_assoc] using this
  rw [hbe]
theorem fr_len (l : List Int) : (fr l).length = (enc 10 (l.length : Int)).length + l.length + 4 := by simp [fr, be4]; omega
theorem unf_fr {l : List Int} (hl : l.length ≤ 4096) (hb : By l) (t : List Int) : unf (fr l ++ t) = (l, ((fr l).length : Int), 0) := by
  have := unf_app l (be4 (sum l)) t hl (be4_by _) (by simp [be4])
  rw [if_pos (num4_be4 (sum_wd hb))] at this
  rw [fr_len]
  unfold fr
  rw [this]
  simp
theorem us_end {l : List Int} {d : Nat} {v i : Int} (h : (l.length : Int) ≤ i) : us l (d + 1) v i = (0, 0, 5) := by simp only [us]; rw [if_pos h]
theorem us_cont {l : List Int} {d : Nat} {v i : Int} (h : i < (l.length : Int)) (h2 : i ≠ 9) (h3 : 128 ≤ rd l i) : us l (d + 1) v i = us l d (stepv v (rd l i) i) (i + 1) := by
  simp only [us]
  rw [if_neg (by omega), if_neg (fun h => h2 h.1), if_neg (by omega)]
theorem enc_short (v : Int) (h0 : 0 ≤ v) (h : v < 16384) (j : Nat) (hj : j < (enc 10 v).length) : uint ((enc 10 v).take j) = (0, 0, 5) := by
  unfold uint
  by_cases h1 : 128 ≤ v
  · have e : enc 10 v = [v % 128 + 128, v / 128] := by rw [enc, if_pos h1, enc, if_neg (by omega)]
    rw [e] at hj ⊢
    simp only [List.length_cons, List.length_nil] at hj
    match j, hj with
    | 0, _ => exact us_end (d := 9) (by simp)
    | 1, _ =>
      have hr : rd [v % 128 + 128] 0 = v % 128 + 128 := rd_cons0 _ _
      refine (us_cont (l := [v % 128 + 128]) (d := 9) (v := 0) (i := 0) (by simp) (by decide) (by rw [hr]; omega)).trans ?_
      exact us_end (d := 8) (by simp)
  · have e : enc 10 v = [v] := by rw [enc, if_neg h1]
    rw [e] at hj ⊢
    simp only [List.length_cons, List.length_nil] at hj
    obtain rfl : j = 0 := by omega
    exact us_end (d := 9) (by simp)
theorem unf_short {l : List Int} (hl : l.length ≤ 4096) (j : Nat) (hj : j < (fr l).length) : unf ((fr l).take j) = ([], 0, 5) := by
  rw [fr_len] at hj
  by_cases h1 : j < (enc 10 (l.length : Int)).length
  · have : (fr l).take j = (enc 10 (l.length : Int)).take j := by
      unfold fr
      rw [List.take_append_of_le_length (by omega)]
    rw [this]
    unfold unf szd
    rw [enc_short _ (by omega) (by omega) j h1]
    simp
  · obtain ⟨m, rfl⟩ : ∃ m, j = (enc 10 (l.length : Int)).length + m := ⟨j - (enc 10 (l.length : Int)).length, by omega⟩
    have : (fr l).take ((enc 10 (l.length : Int)).length + m) = enc 10 (l.length : Int) ++ (l ++ be4 (sum l)).take m := by
      unfold fr
      rw [List.take_length_add_append]
    rw [this]
    have hu := uint_enc (l.length : Int) (by omega) (by omega) ((l ++ be4 (sum l)).take m)
    have hlen : ((l ++ be4 (sum l)).take m).length = m := by
      rw [List.length_take, List.length_append]
      have : (be4 (sum l)).length = 4 := rfl
      omega
    have hL : ((enc 10 (l.length : Int) ++ (l ++ be4 (sum l)).take m).length : Int) = (enc 10 (l.length : Int)).length + m := by
      rw [List.length_append, hlen]; omega
    unfold unf szd
    rw [hu]
    simp only [if_true, hL]
    rw [if_neg (show ¬ (4096 : Int) < (l.length : Int) by omega)]
    by_cases h2 : m < l.length
    · rw [if_pos (show ((enc 10 (l.length : Int)).length : Int) + m - (enc 10 (l.length : Int)).length < (l.length : Int) by omega)]
      simp
    · rw [if_neg (show ¬ ((enc 10 (l.length : Int)).length : Int) + m - (enc 10 (l.length : Int)).length < (l.length : Int) by omega)]
      simp only [if_true]
      rw [if_pos (by omega)]
end Go.Proofs.Ytjdicbffpbpenaa.Pl
