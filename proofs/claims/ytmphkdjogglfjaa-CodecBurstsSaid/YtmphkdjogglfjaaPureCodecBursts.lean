/- For every payload, place and up to four bytes: the payload with these bytes xored in at that place has the checksum of the payload exactly if all of them are zero; no condition. -/
import Derived.Test.YtmphkdjogglfjaaPf
namespace Go.Proofs.Ytmphkdjogglfjaa.Pure
open Go.RowKit Go.Proofs.Ytmphkdjogglfjaa.Y Go.Proofs.Ytmphkdjogglfjaa.Pl Go.Proofs.YtmphkdjogglfjaaW.PrintWords
theorem Al.step {G : Nat → Option Bool} (h : Al (fun k => G (k + 1)) true) : Al G true := by
  obtain ⟨K, hK⟩ := h
  refine ⟨K + 1, fun k hk => ?_⟩
  obtain ⟨k, rfl⟩ : ∃ m, k = m + 1 := ⟨k - 1, by omega⟩
  exact hK k (by omega)
theorem xor_by {x y : Int} (hx : 0 ≤ x ∧ x < 256) (hy : 0 ≤ y ∧ y < 256) : (0 ≤ Go.bits .xor .u8 x y ∧ Go.bits .xor .u8 x y < 256) ∧ (Go.bits .xor .u8 x y = x ↔ y = 0) := by
  obtain ⟨n, rfl⟩ := Int.eq_ofNat_of_zero_le hx.1
  obtain ⟨m, rfl⟩ := Int.eq_ofNat_of_zero_le hy.1
  rw [u8_xor_nat n m (by omega) (by omega)]
  have hz : n ^^^ m < 2 ^ 8 := Nat.xor_lt_two_pow (by omega) (by omega)
  refine ⟨⟨by omega, by omega⟩, fun h => ?_, fun h => ?_⟩
  · have h2 : n ^^^ m = n := by omega
    have h3 := congrArg (n ^^^ ·) h2
    simp only [← Nat.xor_assoc, Nat.xor_self, Nat.zero_xor] at h3
    omega
  · have : m = 0 := by omega
    subst this
    simp
/-- What is held behind i bytes: the payload is p ++ l ++ q, the other text p ++ m ++ q. -/
structure Held (pay : List Int) (a : Int) (i : Nat) (o : List Int) (s : Bool) : Prop where
  ex : ∃ p l m q, pay = p ++ (l ++ q) ∧ o = p ++ (m ++ q) ∧ (p.length : Int) = a ∧ l.length = i ∧ m.length = i ∧ By m ∧ (s = true ↔ l = m)
theorem Held.ends {pay : List Int} {a : Int} {i : Nat} {o : List Int} {s : Bool} (h : Held pay a i o s) (hp : By pay) (hn : pay.length ≤ 140737488351232) (h4 : i ≤ 4) : Al (fun k => (clusterlockslaw01_awake.f k).bind fun t => (if t = true then ((codec_Checksum.f k o).bind fun x => ((codec_Checksum.f k pay).bind fun y => (some ((x == y) == s)))) else (some false))) true := by
  obtain ⟨p, l, m, q, e1, e2, h1, h2, h3, hm, hs⟩ := h.ex
  refine Al.bind awake_al ?_
  simp only [if_true]
  have hpp : By p := fun x hx => hp x (by rw [e1]; simp [hx])
  have hl : By l := fun x hx => hp x (by rw [e1]; simp [hx])
  have hq : By q := fun x hx => hp x (by rw [e1]; simp [hx])
  refine Al.bind (sum_al o ?_) (Al.bind (sum_al pay (by omega)) ⟨0, fun k _ => ?_⟩)
  · have : o.length = pay.length := by rw [e1, e2]; simp; omega
    omega
  · have : (sum o == sum pay) = s := by
      rw [Bool.eq_iff_iff, hs, beq_iff_eq]
      refine ⟨fun h => ?_, fun h => by rw [e1, e2, h]⟩
      rw [e1, e2] at h
      exact sum_burst p l m q hpp hl hm hq (by omega) (by omega) h.symm
    simp [this]
theorem burst_l0 (pay by' : List Int) (a : Int) (hp : By pay) (hb : By by') (hn : pay.length ≤ 140737488351232) (h0 : 0 ≤ a) (h1 : a < pay.length) (d : Nat) : ∀ (i : Nat) (o : List Int) (s : Bool), i + d = 4 → Held pay a i o s → Al (fun k => clusterlockslaw01_CodecBursts.l0 k pay a by' o s (i : Int)) true := by
  induction d with
  | zero =>
    intro i o s hd h
    refine Al.step ?_
    simp only [clusterlockslaw01_CodecBursts.l0]
    refine Al.congr (h.ends hp hn (by omega)) (fun k => ?_)
    rw [if_neg (by omega)]
  | succ d ih =>
    intro i o s hd h
    refine Al.step ?_
    simp only [clusterlockslaw01_CodecBursts.l0]
    by_cases hi : (i : Int) < (by'.length : Int)
    · by_cases hj : wrap64 (a + (i : Int)) < (pay.length : Int)
      · obtain ⟨p, l, m, q, e1, e2, h1', h2, h3, hm, hs⟩ := h.ex
        have hw : wrap64 (a + (i : Int)) = a + i := w64_id (by omega) (by omega)
        have hol : o.length = pay.length := by rw [e1, e2]; simp; omega
        rw [hw] at hj ⊢
        rw [w64_id (n := (i : Int) + 1) (by omega) (by omega)]
        have hpl : pay.length = p.length + (i + q.length) := by rw [e1]; simp; omega
        obtain ⟨b, r, rfl⟩ : ∃ b r, q = b :: r := by
          cases q with
          | nil => simp at hpl; omega
          | cons b r => exact ⟨b, r, rfl⟩
        have hbb : 0 ≤ b ∧ b < 256 := hp b (by rw [e1]; simp)
        have hy := hb.rd (show 0 ≤ (i : Int) by omega) hi
        obtain ⟨hx, hxe⟩ := xor_by hbb hy
        have hrd : rd o (a + (i : Int)) = b := by
          rw [e2, rd_app2 (j := i) (by omega), rd_app_right (by omega)]
          exact rd_cons0 _ _
        have hset : o.set (a + (i : Int)).toNat (Go.bits .xor .u8 (rd o (a + (i : Int))) (rd by' (i : Int))) = p ++ ((m ++ [Go.bits .xor .u8 b (rd by' (i : Int))]) ++ r) := by
          rw [hrd, e2, show (a + (i : Int)).toNat = p.length + i by omega, List.set_append_right _ _ (by omega), show p.length + i - p.length = i by omega, List.set_append_right _ _ (by omega), show i - m.length = 0 by omega]
          simp
        have hH : ∀ s', (s' = true ↔ (s = true ∧ rd by' (i : Int) = 0)) → Held pay a (i + 1) (p ++ ((m ++ [Go.bits .xor .u8 b (rd by' (i : Int))]) ++ r)) s' := by
          intro s' hs'
          refine ⟨p, l ++ [b], m ++ [Go.bits .xor .u8 b (rd by' (i : Int))], r, by rw [e1]; simp, rfl, h1', by simp; omega, by simp; omega, fun x hx' => ?_, ?_⟩
          · rcases List.mem_append.1 hx' with h' | h'
            · exact hm x h'
            · simp at h'; rw [h']; exact hx
          · rw [hs', hs, ← hxe]
            constructor
            · rintro ⟨rfl, h'⟩; rw [h']
            · intro h'
              have := List.append_inj h' (by omega)
              refine ⟨this.1, ?_⟩
              have := this.2
              simp at this
              exact this.symm
        refine Al.congr (g := fun k => if s = true then clusterlockslaw01_CodecBursts.l0 k pay a by' (p ++ ((m ++ [Go.bits .xor .u8 b (rd by' (i : Int))]) ++ r)) (rd by' (i : Int) == 0) ((i : Int) + 1) else clusterlockslaw01_CodecBursts.l0 k pay a by' (p ++ ((m ++ [Go.bits .xor .u8 b (rd by' (i : Int))]) ++ r)) false ((i : Int) + 1)) ?_ (fun k => by
          rw [if_pos (by omega), if_pos hi, if_pos hj, if_pos (by omega), if_pos (by omega), if_pos (by omega), hset]; rfl)
        have e3 : (i : Int) + 1 = ((i + 1 : Nat) : Int) := by omega
        rw [e3]
        by_cases hst : s = true
        · simp only [if_pos hst]
          exact ih (i + 1) _ _ (by omega) (hH _ (by rw [beq_iff_eq]; exact ⟨fun h => ⟨hst, h⟩, fun h => h.2⟩))
        · simp only [if_neg hst]
          exact ih (i + 1) _ _ (by omega) (hH _ (by simp [hst]))
      · refine Al.congr (h.ends hp hn (by omega)) (fun k => ?_)
        rw [if_pos (by omega), if_pos hi, if_neg hj]
    · refine Al.congr (h.ends hp hn (by omega)) (fun k => ?_)
      rw [if_pos (by omega), if_neg hi]
theorem CodecBursts : clusterlockslaw01_CodecBursts.Pure := by
  intro pay a by' _ hn hw ha _ _ hwb
  have hp := by_of_wf hw
  have hb := by_of_wf hwb
  refine Al.ex (r := true) ?_
  have out : Al (fun k => clusterlockslaw01_CodecBursts.j0 k pay a by' true) true := by
    refine Al.step ?_
    simp only [clusterlockslaw01_CodecBursts.j0, if_true]
    exact Al.bind awake_al (Al.const true)
  by_cases h0 : a < 0
  · exact Al.congr out (fun k => by unfold clusterlockslaw01_CodecBursts.f; rw [if_pos h0])
  · by_cases h1 : a ≥ (pay.length : Int)
    · exact Al.congr out (fun k => by unfold clusterlockslaw01_CodecBursts.f; rw [if_neg h0, decide_eq_true h1])
    · refine Al.congr (g := fun k => clusterlockslaw01_CodecBursts.j0 k pay a by' false) ?_ (fun k => by unfold clusterlockslaw01_CodecBursts.f; rw [if_neg h0, decide_eq_false h1])
      refine Al.step ?_
      simp only [clusterlockslaw01_CodecBursts.j0]
      have hb' := burst_l0 pay by' a hp hb (by omega) (by omega) (by omega) 4 0 pay true rfl ⟨pay.take a.toNat, [], [], pay.drop a.toNat, by simp, by simp, by simp; omega, rfl, rfl, fun x hx => by simp at hx, by simp⟩
      refine Al.congr hb' (fun k => ?_)
      simp only [Bool.false_eq_true, if_false, Option.bind_some, List.nil_append, List.length_nil, Nat.zero_add]
      rw [if_pos (by omega)]
      rfl
end Go.Proofs.Ytmphkdjogglfjaa.Pure
