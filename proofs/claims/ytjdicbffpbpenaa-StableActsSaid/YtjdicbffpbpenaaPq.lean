import Derived.Test.YtjdicbffpbpenaaPg
import Derived.Test.YtjdicbffpbpenaaY6
import Derived.Test.YtjdicbffpbpenaaY7
namespace Go.Proofs.Ytjdicbffpbpenaa.Pl
open Go.RowKit Go.Proofs.Ytjdicbffpbpenaa.Y Go.Proofs.YtjdicbffpbpenaaW.PrintWords Go.Proofs.YtjdicbffpbpenaaW.PrintLast Go.Proofs.YtjdicbffpbpenaaW.PrintMore
set_option linter.unusedVariables false
set_option linter.unusedSimpArgs false
theorem ref_l0 {l : List Int} (hl : By l) (d : Nat) : ∀ (k : Nat) (v i : Int), 0 ≤ i → i + d = 10 → 2 * d + 1 ≤ k → clusterlocksref01_Uint.l0 k l v i = some (us l d v i) := by
  induction d with
  | zero =>
    intro k v i h0 hd hk
    obtain ⟨k, rfl⟩ : ∃ m, k = m + 1 := ⟨k - 1, by omega⟩
    simp only [clusterlocksref01_Uint.l0, us]
    rw [if_neg (by omega)]
  | succ d ih =>
    intro k v i h0 hd hk
    obtain ⟨k, rfl⟩ : ∃ m, k = m + 2 := ⟨k - 2, by omega⟩
    simp only [clusterlocksref01_Uint.l0, us]
    rw [if_pos (by omega)]
    by_cases h1 : (l.length : Int) ≤ i
    · rw [if_pos h1, if_pos h1]
    · rw [if_neg h1, if_neg h1, if_pos h0, if_pos (by omega)]
      have hc := hl.rd h0 (show i < (l.length : Int) by omega)
      have e1 : IntKind.u64.wrap (wrap64 (7 * i)) = 7 * i := by rw [w64_id (by omega) (by omega), u64w_id (by omega) (by omega)]
      have e2 : IntKind.u64.wrap (7 * IntKind.u64.wrap i) = 7 * i := by rw [u64w_id (n := i) h0 (by omega), u64w_id (by omega) (by omega)]
      have hw : wrap64 (i + 1) = i + 1 := w64_id (by omega) (by omega)
      have t1 : clusterlocksref01_Uint.j1 (k + 1) l v i (rd l i) true = some (0, 0, 6) := by simp only [clusterlocksref01_Uint.j1]; rw [if_pos trivial]
      have key : ¬ (rd l i = 0 ∧ 0 < i) → clusterlocksref01_Uint.j1 (k + 1) l v i (rd l i) false = some (if rd l i < 128 then (if rd l i = 0 ∧ 0 < i then (0, 0, 6) else (stepv v (rd l i) i, i + 1, 0)) else us l d (stepv v (rd l i) i) (i + 1)) := by
        intro hn
        simp only [clusterlocksref01_Uint.j1]
        rw [if_neg (by simp), if_pos (by omega), if_neg hn, hw, e1]
        by_cases h3 : rd l i < 128
        · rw [if_pos h3, if_pos h3]; unfold stepv; rw [e2]
        · rw [if_neg h3, if_neg h3, show Go.bits .or .u64 v (shl .u64 (IntKind.u64.wrap (Go.bits .and .u8 (rd l i) 127)) (7 * i)) = stepv v (rd l i) i by unfold stepv; rw [e2]]
          exact ih k _ _ (by omega) (by omega) (by omega)
      have key0 : (if rd l i = 0 then clusterlocksref01_Uint.j1 (k + 1) l v i (rd l i) (decide (i > 0)) else clusterlocksref01_Uint.j1 (k + 1) l v i (rd l i) false) = some (if rd l i < 128 then (if rd l i = 0 ∧ 0 < i then (0, 0, 6) else (stepv v (rd l i) i, i + 1, 0)) else us l d (stepv v (rd l i) i) (i + 1)) := by
        by_cases h3 : rd l i = 0
        · rw [if_pos h3]
          by_cases h4 : i > 0
          · rw [decide_eq_true h4, t1, if_pos (by omega), if_pos ⟨h3, h4⟩]
          · rw [decide_eq_false h4]; exact key (fun h => h4 h.2)
        · rw [if_neg h3]; exact key (fun h => h3 h.1)
      by_cases h2 : i = 9
      · rw [if_pos h2]
        by_cases h3 : rd l i > 1
        · rw [if_pos h3, if_pos ⟨h2, h3⟩, t1]
        · rw [if_neg h3, if_neg (show ¬ (i = 9 ∧ 1 < rd l i) from fun h => h3 h.2)]; exact key0
      · rw [if_neg h2, if_neg (show ¬ (i = 9 ∧ 1 < rd l i) from fun h => h2 h.1)]; exact key0

theorem ref_uint {l : List Int} (hl : By l) : Al (fun k => clusterlocksref01_Uint.f k l) (uint l) := ⟨21, fun k hk => ref_l0 hl 10 k 0 0 (by omega) (by omega) (by omega)⟩


theorem rput_l0 (f : Nat) : ∀ (k : Nat) (v : Int) (p : List Int), 0 ≤ v → v < 128 ^ f → v < 18446744073709551616 → p.length + f < 140737488355328 → 0 < f → f ≤ k → clusterlocksref01_PutUint.l0 k v p = some (p ++ enc f v) := by
  induction f with
  | zero => intro k v p _ _ _ _ h; omega
  | succ f ih =>
    intro k v p h0 h1 h2 hp _ hk
    obtain ⟨k, rfl⟩ : ∃ m, k = m + 1 := ⟨k - 1, by omega⟩
    simp only [clusterlocksref01_PutUint.l0, enc]
    have hpl : p.length < 140737488355328 := by omega
    by_cases h : 128 ≤ v
    · have hf : 0 < f := by
        rcases Nat.eq_zero_or_pos f with hf | hf
        · subst hf; simp at h1; omega
        · exact hf
      rw [if_pos (show v ≥ 128 from h), if_pos hpl, if_pos h, and127_64 h0 h2, show v % 128 % 256 = v % 128 by omega, or128 (by omega) (by omega)]
      rw [ih k (v / 128) _ (by omega) (by rw [Int.pow_succ] at h1; omega) (by omega) (by simp; omega) hf (by omega)]
      simp
    · rw [if_neg (show ¬ v ≥ 128 from h), if_pos hpl, if_neg h, show v % 256 = v by omega]
theorem rputuint (l : List Int) (hl : l.length + 20 < 140737488355328) (v : Int) (h0 : 0 ≤ v) (h : v < 18446744073709551616) : Al (fun k => clusterlocksref01_PutUint.f k l v) (l ++ enc 10 v) :=
  ⟨10, fun k hk => by
    unfold clusterlocksref01_PutUint.f
    simp only [Option.bind_some, List.nil_append, List.length_nil, Nat.zero_add]
    rw [if_pos (by omega), rput_l0 10 k v l h0 (by omega) h (by omega) (by omega) hk]⟩

theorem rsum_al (l : List Int) (hl : l.length ≤ 140737488355328) : Al (fun k => clusterlocksref01_Checksum.f k l) (sum l) := by
  have key : ∀ k, (∀ (x i : Int), 0 ≤ i → i ≤ l.length → codec_Checksum.l0 k x l (l.length : Int) i = clusterlocksref01_Checksum.l0 k l x i) ∧
      (∀ (x i j : Int), 0 ≤ i → i < l.length → codec_Checksum.l1 k x l (l.length : Int) i j = clusterlocksref01_Checksum.l1 k l x i j) := by
    intro k
    induction k with
    | zero => exact ⟨fun _ _ _ _ => by simp only [codec_Checksum.l0, clusterlocksref01_Checksum.l0], fun _ _ _ _ _ => by simp only [codec_Checksum.l1, clusterlocksref01_Checksum.l1]⟩
    | succ k ih =>
      obtain ⟨ih0, ih1⟩ := ih
      refine ⟨fun x i h0 h1 => ?_, fun x i j h0 h1 => ?_⟩
      · simp only [codec_Checksum.l0, clusterlocksref01_Checksum.l0]
        by_cases h : i < (l.length : Int)
        · rw [if_pos h, if_pos h, if_pos h0, if_pos h0, if_pos h]; exact ih1 _ _ _ h0 h
        · rw [if_neg h, if_neg h]
      · simp only [codec_Checksum.l1, clusterlocksref01_Checksum.l1]
        rw [ih1 _ _ _ h0 h1, ih1 _ _ _ h0 h1, w64_id (n := i + 1) (by omega) (by omega), ih0 _ _ (by omega) (by omega)]
  exact Al.congr (sum_al l hl) (fun k => ((key k).1 _ 0 (by omega) (by omega)).symm)
theorem runframe_al {l : List Int} (hl : By l) (hn : l.length ≤ 140737488355328) : Al (fun k => clusterlocksref01_Unframe.f k l) (unf l) := by
  refine Al.bindE (fun k => rfl) (ref_uint hl) ?_
  unfold unf szd
  by_cases h : (uint l).2.2 = 0
  · obtain ⟨v, v0, v1, e, _, v5⟩ := uint_ok hl h
    have hq := enc_len 10 v
    rw [e]
    simp only [if_true]
    by_cases h2 : 4096 < v
    · rw [if_pos h2]
      exact Al.val fun k => by rw [if_pos (show v > 4096 from h2)]; rfl
    · rw [if_neg h2, w64_id (n := (l.length : Int) - ((enc 10 v).length : Int)) (by omega) (by omega), w64_id (n := v) (by omega) (by omega), w64_id (n := v + 4) (by omega) (by omega)]
      by_cases h3 : (l.length : Int) - ((enc 10 v).length : Int) < v
      · rw [if_pos h3]
        exact Al.val fun k => by rw [if_neg (show ¬ v > 4096 from h2), if_pos (by omega)]; rfl
      · rw [if_neg h3]
        simp only [if_true]
        by_cases h4 : (l.length : Int) - (((enc 10 v).length : Int) + v) < 4
        · rw [if_pos h4]
          exact Al.val fun k => by rw [if_neg (show ¬ v > 4096 from h2), if_pos (by omega)]
        · rw [if_neg h4, w64_id (n := ((enc 10 v).length : Int) + v) (by omega) (by omega), w64_id (n := ((enc 10 v).length : Int) + v + 4) (by omega) (by omega)]
          have hlen : ((l.take (((enc 10 v).length : Int) + v).toNat).drop (enc 10 v).length).length ≤ 4096 := by
            rw [List.length_drop, List.length_take]; omega
          have hr : ∀ j : Nat, j < 4 → rd (l.drop (((enc 10 v).length : Int) + v).toNat) (j : Int) = rd l (((enc 10 v).length : Int) + v + j) := by
            intro j hj
            simp only [rd, List.getD_eq_getElem?_getD, List.getElem?_drop]
            congr 2
            omega
          have r0 := hr 0 (by omega)
          have r1 := hr 1 (by omega)
          have r2 := hr 2 (by omega)
          have r3 := hr 3 (by omega)
          simp only [Int.ofNat_zero, Int.natCast_zero, Int.add_zero, Int.natCast_one, Int.cast_ofNat_Int] at r0 r1 r2 r3
          refine Al.bindE (fun k => by
            rw [if_neg (show ¬ v > 4096 from h2), if_neg (by omega)]
            simp only [Option.bind_some, List.nil_append, List.length_nil, Nat.zero_add]
            rw [if_pos (by omega), if_pos (by omega), if_pos (by omega), if_pos (by simp only [Int.toNat_natCast]; omega), if_pos (by omega)]) (rsum_al _ (by simp only [Int.toNat_natCast]; omega)) (Al.val fun k => ?_)
          simp only [Int.toNat_natCast]
          have hl4 : 4 ≤ (l.drop (((enc 10 v).length : Int) + v).toNat).length := by rw [List.length_drop]; omega
          rw [if_pos (by omega), if_pos (by omega), if_pos (by omega), if_pos (by omega), r0, r1, r2, r3]
          unfold be
          by_cases h5 : (Go.bits .or .u32 (Go.bits .or .u32 (Go.bits .or .u32 ((((rd l (((enc 10 v).length : Int) + v)) % 4294967296) * 16777216) % 4294967296) ((((rd l (((enc 10 v).length : Int) + v + 1)) % 4294967296) * 65536) % 4294967296)) ((((rd l (((enc 10 v).length : Int) + v + 2)) % 4294967296) * 256) % 4294967296)) ((rd l (((enc 10 v).length : Int) + v + 3)) % 4294967296)) = sum ((l.take (((enc 10 v).length : Int) + v).toNat).drop (enc 10 v).length)
          · rw [if_pos h5, if_pos h5.symm]
          · rw [if_neg h5, if_neg (fun h => h5 h.symm)]
  · rw [if_neg h]
    exact Al.val fun k => by rw [if_neg h, if_neg h]
theorem rframe_al {l : List Int} (hl : l.length ≤ 4096) : Al (fun k => clusterlocksref01_Frame.f k l) (fr l, 0) := by
  have hq := enc_len 10 (l.length : Int)
  refine Al.bindE (fun k => by unfold clusterlocksref01_Frame.f; rw [if_neg (by omega), u64w_id (n := (l.length : Int)) (by omega) (by omega)]) (rputuint [] (by simp) (l.length : Int) (by omega) (by omega)) ?_
  refine Al.bindE (fun k => by simp only [List.nil_append, Option.bind_some]; rw [if_pos (by omega)]) (rsum_al l (by omega)) (Al.val fun k => ?_)
  rw [if_pos (by simp; omega)]
  unfold fr be4
  rw [List.append_assoc]
theorem rframe_long {l : List Int} (hl : ¬ l.length ≤ 4096) : Al (fun k => clusterlocksref01_Frame.f k l) ([], 3) := Al.val fun k => by unfold clusterlocksref01_Frame.f; rw [if_pos (by omega)]

end Go.Proofs.Ytjdicbffpbpenaa.Pl
