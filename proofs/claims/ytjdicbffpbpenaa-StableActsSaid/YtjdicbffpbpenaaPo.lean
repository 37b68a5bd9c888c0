import Derived.Test.YtjdicbffpbpenaaPm
import Derived.Test.YtjdicbffpbpenaaY1
namespace Go.Proofs.Ytjdicbffpbpenaa.Pl
open Go.RowKit Go.Proofs.Ytjdicbffpbpenaa.Y Go.Proofs.YtjdicbffpbpenaaW.PrintWords Go.Proofs.YtjdicbffpbpenaaW.PrintLast Go.Proofs.YtjdicbffpbpenaaW.PrintMore
set_option linter.unusedVariables false
set_option linter.unusedSimpArgs false

theorem Al.bindE {α β : Type} {G : Nat → Option β} {g : Nat → Option α} {f : Nat → α → Option β} {r : α} {q : β} (e : ∀ k, G k = (g k).bind (f k)) (h : Al g r) (h2 : Al (fun k => f k r) q) : Al G q := Al.congr (Al.bind h h2) e
theorem Al.val {α : Type} {G : Nat → Option α} {r : α} (e : ∀ k, G k = some r) : Al G r := ⟨0, fun k _ => e k⟩

/-! What is read, was written so. -/
theorem us_err (l : List Int) (d : Nat) : ∀ (v i : Int), (us l d v i).2.2 = 0 ∨ ∃ e, us l d v i = (0, 0, e) ∧ (e = 5 ∨ e = 6) := by
  induction d with
  | zero => intro v i; exact .inr ⟨6, rfl, .inr rfl⟩
  | succ d ih =>
    intro v i
    simp only [us]
    split
    · exact .inr ⟨5, rfl, .inl rfl⟩
    · split
      · exact .inr ⟨6, rfl, .inr rfl⟩
      · split
        · split
          · exact .inr ⟨6, rfl, .inr rfl⟩
          · exact .inl rfl
        · exact ih _ _
theorem take_drop_succ {l : List Int} {i : Nat} {c : Int} {r : List Int} (hi : i < l.length) (hc : rd l (i : Int) = c) (h : (l.drop (i + 1)).take r.length = r) : (l.drop i).take (c :: r).length = c :: r := by
  rw [List.drop_eq_getElem_cons hi, List.length_cons, List.take_succ_cons, h]
  congr 1
  rw [← hc]
  simp [rd, List.getD_eq_getElem?_getD, List.getElem?_eq_getElem hi]
theorem us_sound {l : List Int} (hl : By l) (d : Nat) : ∀ (i : Nat) (acc : Int), i + d = 10 → 0 ≤ acc → acc < 128 ^ i → (us l d acc (i : Int)).2.2 = 0 →
    ∃ v, 0 ≤ v ∧ v < 128 ^ d ∧ acc + v * 128 ^ i < 18446744073709551616 ∧ us l d acc (i : Int) = (acc + v * 128 ^ i, (i : Int) + (enc d v).length, 0) ∧ (l.drop i).take (enc d v).length = enc d v ∧ i + (enc d v).length ≤ l.length ∧ 0 < (enc d v).length ∧ (0 < i → 0 < v) := by
  induction d with
  | zero => intro i acc _ _ _ h; simp [us] at h
  | succ d ih =>
    intro i acc hd ha ha2 h
    simp only [us] at h ⊢
    by_cases h1 : (l.length : Int) ≤ (i : Int)
    · rw [if_pos h1] at h; simp at h
    rw [if_neg h1] at h ⊢
    have hc := hl.rd (show 0 ≤ (i : Int) by omega) (show (i : Int) < (l.length : Int) by omega)
    have hil : i < l.length := by omega
    by_cases h2 : (i : Int) = 9 ∧ 1 < rd l (i : Int)
    · rw [if_pos h2] at h; simp at h
    rw [if_neg h2] at h ⊢
    have hP := p128 i
    by_cases h3 : rd l (i : Int) < 128
    · rw [if_pos h3] at h ⊢
      by_cases h4 : rd l (i : Int) = 0 ∧ 0 < (i : Int)
      · rw [if_pos h4] at h; simp at h
      rw [if_neg h4] at h ⊢
      have e1 : enc (d + 1) (rd l (i : Int)) = [rd l (i : Int)] := by rw [enc, if_neg (by omega)]
      have hm : rd l (i : Int) % 128 = rd l (i : Int) := by omega
      have hs : acc + rd l (i : Int) * 128 ^ i < 18446744073709551616 := by
        by_cases h9 : i = 9
        · subst h9
          rw [p9] at ha2 ⊢
          omega
        · have h99 := pow_le (show i + 1 ≤ 9 by omega)
          rw [p9] at h99
          have := Int.mul_le_mul_of_nonneg_right (show rd l (i : Int) ≤ 127 by omega) (Int.le_of_lt hP)
          rw [Int.pow_succ] at h99
          omega
      have hnn : 0 ≤ rd l (i : Int) * 128 ^ i := Int.mul_nonneg hc.1 (Int.le_of_lt hP)
      refine ⟨rd l (i : Int), hc.1, ?_, hs, ?_, ?_, ?_, ?_, ?_⟩
      · have := pow_le (show 1 ≤ d + 1 by omega); omega
      · rw [e1, stepv_eq (by omega) ha ha2 hc.1 hc.2 (by rw [hm]; omega), hm]; rfl
      · rw [e1]
        exact take_drop_succ hil rfl (by simp)
      · rw [e1]; simp; omega
      · rw [e1]; simp
      · intro h5; omega
    · rw [if_neg h3] at h ⊢
      have h9 : i ≠ 9 := by
        rintro rfl
        omega
      have hi8 : i ≤ 8 ∨ d = 0 := by omega
      rcases hi8 with hi8 | rfl
      · have hm : rd l (i : Int) % 128 = rd l (i : Int) - 128 := by omega
        have h99 := pow_le (show i + 1 ≤ 9 by omega)
        rw [p9] at h99
        have hb : (rd l (i : Int) - 128) * 128 ^ i + 128 ^ i ≤ 128 ^ (i + 1) := by
          rw [Int.pow_succ]
          have := Int.mul_le_mul_of_nonneg_right (show rd l (i : Int) - 128 ≤ 127 by omega) (Int.le_of_lt hP)
          omega
        have hnn : 0 ≤ (rd l (i : Int) - 128) * 128 ^ i := Int.mul_nonneg (by omega) (Int.le_of_lt hP)
        have es := stepv_eq (c := rd l (i : Int)) (by omega) ha ha2 hc.1 hc.2 (by rw [hm]; omega)
        rw [hm] at es
        rw [es] at h ⊢
        have ei : (i : Int) + 1 = ((i + 1 : Nat) : Int) := by omega
        rw [ei] at h ⊢
        obtain ⟨v, v0, v1, v2, v3, v4, v5, v6, v7⟩ := ih (i + 1) _ (by omega) (by omega) (by omega) h
        have hv := v7 (by omega)
        have e1 : enc (d + 1) (rd l (i : Int) - 128 + 128 * v) = rd l (i : Int) :: enc d v := by
          rw [enc, if_pos (by omega), show (rd l (i : Int) - 128 + 128 * v) % 128 + 128 = rd l (i : Int) by omega, show (rd l (i : Int) - 128 + 128 * v) / 128 = v by omega]
        have e2 : (rd l (i : Int) - 128 + 128 * v) * 128 ^ i = (rd l (i : Int) - 128) * 128 ^ i + v * 128 ^ (i + 1) := by
          rw [Int.add_mul, Int.pow_succ, Int.mul_comm 128 v, Int.mul_assoc, Int.mul_comm 128 (128 ^ i)]
        refine ⟨rd l (i : Int) - 128 + 128 * v, by omega, ?_, ?_, ?_, ?_, ?_, ?_, fun _ => by omega⟩
        · rw [Int.pow_succ]; omega
        · rw [e2]; omega
        · rw [v3, e1, e2]
          simp
          constructor <;> omega
        · rw [e1]
          exact take_drop_succ hil rfl v4
        · rw [e1]; simp; omega
        · rw [e1]; simp
      · simp [us] at h
theorem uint_ok {l : List Int} (hl : By l) (h : (uint l).2.2 = 0) : ∃ v, 0 ≤ v ∧ v < 18446744073709551616 ∧ uint l = (v, ((enc 10 v).length : Int), 0) ∧ l.take (enc 10 v).length = enc 10 v ∧ (enc 10 v).length ≤ l.length := by
  obtain ⟨v, v0, v1, v2, v3, v4, v5, v6, v7⟩ := us_sound hl 10 0 0 (by omega) (by omega) (by decide) h
  refine ⟨v, v0, by simpa using v2, ?_, by simpa using v4, by simpa using v5⟩
  have : us l 10 0 0 = _ := v3
  simpa [uint] using this
theorem uint_err (l : List Int) (h : (uint l).2.2 ≠ 0) : ∃ e, uint l = (0, 0, e) ∧ (e = 5 ∨ e = 6) := by
  rcases us_err l 10 0 0 with h' | h'
  · exact absurd h' h
  · exact h'

/-! Sized texts. -/
def szd (l : List Int) (most : Int) : List Int × Int × Int :=
  if (uint l).2.2 = 0 then (if most < (uint l).1 then ([], 0, 3) else if (l.length : Int) - (uint l).2.1 < (uint l).1 then ([], 0, 5) else
    ((l.take ((uint l).2.1 + (uint l).1).toNat).drop (uint l).2.1.toNat, (uint l).2.1 + (uint l).1, 0)) else ([], 0, (uint l).2.2)
theorem sized_al {l : List Int} (hl : By l) (hn : l.length ≤ 140737488355328) (most : Int) (h0 : 0 ≤ most) (h1 : most ≤ 4096) : Al (fun k => codec_sized.f k l most) (szd l most) := by
  refine Al.bindE (fun k => rfl) (codec_uint hl) (Al.val fun k => ?_)
  unfold szd
  by_cases h : (uint l).2.2 = 0
  · obtain ⟨v, v0, v1, e, _, v5⟩ := uint_ok hl h
    have hq := enc_len 10 v
    rw [e]
    simp only [if_true]
    rw [u64w_id h0 (by omega)]
    by_cases h2 : most < v
    · rw [if_pos (show v > most from h2), if_pos h2]
    · rw [if_neg (show ¬ v > most from h2), if_neg h2, w64_id (n := (l.length : Int) - ((enc 10 v).length : Int)) (by omega) (by omega), w64_id (n := v) (by omega) (by omega)]
      by_cases h3 : (l.length : Int) - ((enc 10 v).length : Int) < v
      · rw [if_pos h3, if_pos h3]
      · rw [if_neg h3, if_neg h3, w64_id (n := ((enc 10 v).length : Int) + v) (by omega) (by omega), if_pos (by omega), if_pos (by omega), if_pos (by omega)]
  · rw [if_neg h, if_neg h]
/-! Frames. -/
def be (l : List Int) (n : Int) : Int := Go.bits .or .u32 (Go.bits .or .u32 (Go.bits .or .u32 ((((rd l n) % 4294967296) * 16777216) % 4294967296) ((((rd l (n + 1)) % 4294967296) * 65536) % 4294967296)) ((((rd l (n + 2)) % 4294967296) * 256) % 4294967296)) ((rd l (n + 3)) % 4294967296)
def unf (l : List Int) : List Int × Int × Int :=
  if (szd l 4096).2.2 = 0 then (if (l.length : Int) - (szd l 4096).2.1 < 4 then ([], 0, 5) else if be l (szd l 4096).2.1 = sum (szd l 4096).1 then ((szd l 4096).1, (szd l 4096).2.1 + 4, 0) else ([], 0, 7)) else ([], 0, (szd l 4096).2.2)
theorem szd_ok {l : List Int} (hl : By l) (most : Int) (h : (szd l most).2.2 = 0) : ∃ v, 0 ≤ v ∧ v ≤ most ∧ ((enc 10 v).length : Int) + v ≤ l.length ∧ uint l = (v, ((enc 10 v).length : Int), 0) ∧ szd l most = ((l.take (((enc 10 v).length : Int) + v).toNat).drop (enc 10 v).length, ((enc 10 v).length : Int) + v, 0) := by
  unfold szd at h ⊢
  by_cases h1 : (uint l).2.2 = 0
  · obtain ⟨v, v0, v1, e, _, v5⟩ := uint_ok hl h1
    rw [e] at h ⊢
    simp only [if_true] at h ⊢
    by_cases h2 : most < v
    · rw [if_pos h2] at h; simp at h
    · rw [if_neg h2] at h ⊢
      by_cases h3 : (l.length : Int) - ((enc 10 v).length : Int) < v
      · rw [if_pos h3] at h; simp at h
      · rw [if_neg h3]
        exact ⟨v, v0, by omega, by omega, rfl, by simp⟩
  · rw [if_neg h1] at h
    exact absurd h h1
theorem unframe_al {l : List Int} (hl : By l) (hn : l.length ≤ 140737488355328) : Al (fun k => codec_Unframe.f k l) (unf l) := by
  refine Al.bindE (fun k => rfl) (sized_al hl hn 4096 (by decide) (by decide)) ?_
  unfold unf
  by_cases h : (szd l 4096).2.2 = 0
  · obtain ⟨v, v0, v1, v2, _, e⟩ := szd_ok hl 4096 h
    have hq := enc_len 10 v
    rw [e]
    simp only [if_true]
    rw [w64_id (n := (l.length : Int) - (((enc 10 v).length : Int) + v)) (by omega) (by omega)]
    by_cases h2 : (l.length : Int) - (((enc 10 v).length : Int) + v) < 4
    · rw [if_pos h2]
      exact Al.val fun k => by rw [if_pos h2]
    · rw [if_neg h2]
      rw [w64_id (n := ((enc 10 v).length : Int) + v + 1) (by omega) (by omega), w64_id (n := ((enc 10 v).length : Int) + v + 2) (by omega) (by omega), w64_id (n := ((enc 10 v).length : Int) + v + 3) (by omega) (by omega), w64_id (n := ((enc 10 v).length : Int) + v + 4) (by omega) (by omega)]
      have hlen : ((l.take (((enc 10 v).length : Int) + v).toNat).drop (enc 10 v).length).length ≤ 4096 := by
        rw [List.length_drop, List.length_take]; omega
      refine Al.bindE (fun k => by rw [if_neg h2, if_pos (by omega), if_pos (by omega), if_pos (by omega), if_pos (by omega), if_pos (by omega), if_pos (by omega), if_pos (by omega), if_pos (by omega)]) (sum_al _ (by omega)) (Al.val fun k => ?_)
      simp only [Option.bind_some, List.nil_append, List.length_nil, Nat.zero_add]
      unfold be
      split
      · rw [if_pos (by omega)]
      · rfl
  · rw [if_neg h]
    exact Al.val fun k => by rw [if_neg h]
end Go.Proofs.Ytjdicbffpbpenaa.Pl
