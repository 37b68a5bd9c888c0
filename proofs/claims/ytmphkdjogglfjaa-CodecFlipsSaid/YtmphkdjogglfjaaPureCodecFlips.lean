/- For every payload and every bit of it or of its checksum in its frame: codec.Unframe of the frame with that bit changed returns ErrChecksum; no condition. -/
import Derived.Test.YtmphkdjogglfjaaPg
namespace Go.Proofs.Ytmphkdjogglfjaa.Pure
open Go.RowKit Go.Proofs.Ytmphkdjogglfjaa.Y Go.Proofs.Ytmphkdjogglfjaa.Pl Go.Proofs.YtmphkdjogglfjaaW.PrintWords Go.Proofs.YtmphkdjogglfjaaW.PrintMore
theorem flip {x : Int} {b : Int} (hx : 0 ≤ x ∧ x < 256) (h0 : 0 ≤ b) (h7 : b ≤ 7) : (0 ≤ Go.bits .xor .u8 x (shl .u8 1 (IntKind.u64.wrap b)) ∧ Go.bits .xor .u8 x (shl .u8 1 (IntKind.u64.wrap b)) < 256) ∧ Go.bits .xor .u8 x (shl .u8 1 (IntKind.u64.wrap b)) ≠ x := by
  obtain ⟨n, rfl⟩ := Int.eq_ofNat_of_zero_le hx.1
  obtain ⟨m, rfl⟩ := Int.eq_ofNat_of_zero_le h0
  rw [u64w_id (n := (m : Int)) (by omega) (by omega)]
  have hn : n < 256 := by omega
  have hm : m < 8 := by omega
  have key : ∀ m : Fin 8, shl .u8 1 (m.val : Int) = ((2 ^ m.val : Nat) : Int) ∧ 2 ^ m.val < 256 ∧ 2 ^ m.val ≠ 0 := by decide +kernel
  obtain ⟨k1, k2, k3⟩ := key ⟨m, hm⟩
  simp only at k1 k2 k3
  rw [k1, u8_xor_nat n _ hn k2]
  have hx : n ^^^ 2 ^ m < 2 ^ 8 := Nat.xor_lt_two_pow (by omega) (by omega)
  refine ⟨⟨by omega, by omega⟩, fun h => k3 ?_⟩
  have h2 : n ^^^ 2 ^ m = n := by omega
  have := congrArg (n ^^^ ·) h2
  simp [← Nat.xor_assoc] at this
theorem CodecFlips : clusterlockslaw01_CodecFlips.Pure := by
  intro l a b _ hn hw ha hb
  have hl := by_of_wf hw
  refine Al.ex (r := true) ?_
  have hj : ∀ {G : Nat → Option Bool}, Al (fun k => G (k + 1)) true → Al G true := by
    rintro G ⟨K, hK⟩
    refine ⟨K + 1, fun k hk => ?_⟩
    obtain ⟨k, rfl⟩ : ∃ m, k = m + 1 := ⟨k - 1, by omega⟩
    exact hK k (by omega)
  by_cases h : l.length ≤ 4096
  · refine Al.bindE (fun k => rfl) (frame_al h) ?_
    refine Al.bindE (fun k => rfl) awake_al ?_
    simp only [if_true]
    refine hj ?_
    simp only [clusterlockslaw01_CodecFlips.j0]
    have e1 : (((0 : Int) == 0) != decide ((l.length : Int) ≤ 4096)) = false := by rw [decide_eq_true (by omega)]; rfl
    rw [e1]
    simp only [Bool.false_eq_true, if_false]
    rw [u64w_id (n := (l.length : Int)) (by omega) (by omega)]
    refine Al.bindE (fun k => rfl) (rputuint [] (by simp) (l.length : Int) (by omega) (by omega)) ?_
    simp only [if_true, List.nil_append]
    have hq := enc_len 10 (l.length : Int)
    have hf := fr_len l
    rw [w64_id (n := ((fr l).length : Int) - _) (by omega) (by omega)]
    by_cases h1 : a < 0
    · exact Al.val fun k => by rw [if_pos h1]
    by_cases h2 : a ≥ ((fr l).length : Int) - ((enc 10 (l.length : Int)).length : Int)
    · exact Al.val fun k => by rw [if_neg h1, if_pos h2]
    by_cases h3 : b < 0
    · exact Al.val fun k => by rw [if_neg h1, if_neg h2, if_pos h3]
    by_cases h4 : b > 7
    · exact Al.val fun k => by rw [if_neg h1, if_neg h2, if_neg h3, if_pos h4]
    rw [w64_id (n := ((enc 10 (l.length : Int)).length : Int) + a) (by omega) (by omega)]
    obtain ⟨j, rfl⟩ := Int.eq_ofNat_of_zero_le (show 0 ≤ a by omega)
    have hr := (fr_by hl).rd (i := ((enc 10 (l.length : Int)).length : Int) + (j : Int)) (by omega) (by omega)
    obtain ⟨hy, hne⟩ := flip hr (show 0 ≤ b by omega) (by omega)
    have hb0 : 0 ≤ IntKind.u64.wrap b := by rw [u64w]; omega
    refine Al.bindE (r := ([], 0, 7)) (g := fun k => codec_Unframe.f k _) (f := fun k z => some (z.2.2 == 7)) (fun k => by rw [if_neg h1, if_neg h2, if_neg h3, if_neg h4, if_pos (by omega), if_pos (by omega), if_pos hb0]) ?_ (Al.val fun k => rfl)
    generalize Go.bits .xor .u8 (rd (fr l) (((enc 10 (l.length : Int)).length : Int) + (j : Int))) (shl .u8 1 (IntKind.u64.wrap b)) = y at hy hne
    have hset : (fr l).set (((enc 10 (l.length : Int)).length : Int) + (j : Int)).toNat y = enc 10 (l.length : Int) ++ (l ++ be4 (sum l)).set j y := by
      unfold fr
      rw [show (((enc 10 (l.length : Int)).length : Int) + (j : Int)).toNat = (enc 10 (l.length : Int)).length + j by omega, List.set_append_right _ _ (by omega)]
      simp
    have hby : By ((l ++ be4 (sum l)).set j y) := fun x hx => by
      rcases List.mem_or_eq_of_mem_set hx with h' | rfl
      · exact (hl.app (be4_by _)) x h'
      · exact hy
    have hrd : rd (fr l) (((enc 10 (l.length : Int)).length : Int) + (j : Int)) = rd (l ++ be4 (sum l)) (j : Int) := by unfold fr; exact rd_at rfl
    rw [hrd] at hne
    have hres : unf (enc 10 (l.length : Int) ++ (l ++ be4 (sum l)).set j y) = ([], 0, 7) := by
      by_cases hjl : j < l.length
      · rw [List.set_append_left _ _ hjl]
        have hlen : (l.set j y).length = l.length := List.length_set
        have := unf_app (l.set j y) (be4 (sum l)) [] (by omega) (be4_by _) (by simp [be4])
        rw [hlen, List.append_nil] at this
        rw [this, if_neg]
        rw [num4_be4 (sum_wd hl)]
        intro he
        have hs1 : l.set j y = l.take j ++ ([y] ++ l.drop (j + 1)) := by rw [List.set_eq_take_append_cons_drop, if_pos hjl]; rfl
        have hs2 : l = l.take j ++ ([l[j]] ++ l.drop (j + 1)) := by
          rw [List.singleton_append, ← List.drop_eq_getElem_cons hjl, List.take_append_drop]
        rw [hs1] at he
        have he2 : sum (l.take j ++ ([l[j]] ++ l.drop (j + 1))) = sum (l.take j ++ ([y] ++ l.drop (j + 1))) := by rw [← hs2]; exact he
        have := sum_burst (l.take j) [l[j]] [y] (l.drop (j + 1)) (fun x hx => hl x (List.mem_of_mem_take hx)) (fun x hx => by simp at hx; rw [hx]; exact hl _ (List.getElem_mem _)) (fun x hx => by simp at hx; rw [hx]; exact hy) (fun x hx => hl x (List.mem_of_mem_drop hx)) rfl (by simp) he2
        apply hne
        rw [rd_app_left (by omega) (by omega)]
        simp only [List.cons.injEq, and_true] at this
        rw [← this]
        simp [rd, List.getD_eq_getElem?_getD, List.getElem?_eq_getElem hjl]
      · rw [List.set_append_right _ _ (by omega)]
        have hj4 : j - l.length < 4 := by omega
        have hb4 : By ((be4 (sum l)).set (j - l.length) y) := fun x hx => by
          rcases List.mem_or_eq_of_mem_set hx with h' | rfl
          · exact be4_by _ x h'
          · exact hy
        have := unf_app l ((be4 (sum l)).set (j - l.length) y) [] h hb4 (by simp [be4])
        rw [List.append_nil] at this
        rw [this, if_neg]
        intro he
        have e2 := num4_inj hb4 (be4_by (sum l)) (by simp [be4]) (by simp [be4]) (he.trans (num4_be4 (sum_wd hl)).symm)
        apply hne
        rw [rd_at (j := j - l.length) (by omega)]
        have e3 := congrArg (fun z => rd z ((j - l.length : Nat) : Int)) e2
        simp only [rd, Int.toNat_natCast, List.getD_eq_getElem?_getD] at e3 ⊢
        rw [List.getElem?_set_self (by simp [be4]; omega)] at e3
        simpa using e3
    rw [hset, ← hres]
    refine unframe_al ((enc_by 10 _ (by omega)).app hby) ?_
    simp [be4]; omega
  · refine Al.bindE (fun k => rfl) (frame_long h) ?_
    refine Al.bindE (fun k => rfl) awake_al ?_
    simp only [if_true]
    refine hj ?_
    simp only [clusterlockslaw01_CodecFlips.j0]
    have e1 : (((3 : Int) == 0) != decide ((l.length : Int) ≤ 4096)) = false := by rw [decide_eq_false (by omega)]; rfl
    rw [e1, u64w_id (n := (l.length : Int)) (by omega) (by omega)]
    refine Al.bindE (fun k => rfl) (rputuint [] (by simp) (l.length : Int) (by omega) (by omega)) ?_
    exact Al.val fun k => rfl
end Go.Proofs.Ytmphkdjogglfjaa.Pure
