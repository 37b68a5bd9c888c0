import Derived.Test.YtnhdppfmdhdmdaaPa
import Derived.Test.YtnhdppfmdhdmdaaY3
import Derived.Test.YtnhdppfmdhdmdaaY2
import Derived.Test.YtnhdppfmdhdmdaaY1
namespace Go.Proofs.Ytnhdppfmdhdmdaa.Pc
open Go Go.RowKit Go.Proofs.Ytnhdppfmdhdmdaa.Y Go.Proofs.Ytnhdppfmdhdmdaa.Pa Go.Proofs.YtnhdppfmdhdmdaaW.PrintWords Go.Proofs.YtnhdppfmdhdmdaaW.PrintLast Go.Proofs.YtnhdppfmdhdmdaaW.PrintMore
set_option linter.unusedVariables false
set_option linter.unusedSimpArgs false
theorem awake_eval : clusterlockslaw23_awake.f 40 = some true := by decide +kernel
theorem awake_al : Al (fun k => clusterlockslaw23_awake.f k) true := Al.of (fun k => clusterlockslaw23_awake.mono k) awake_eval
theorem rd_at {l : List (List Int)} {i : Nat} (h : i < l.length) : rd_L1 l (i : Int) = l[i] := by
  unfold rd_L1
  rw [Int.toNat_natCast, List.getD_eq_getElem?_getD, List.getElem?_eq_getElem h]
  rfl
theorem drop_at {l : List (List Int)} {i : Nat} (h : i < l.length) : l.drop i = rd_L1 l (i : Int) :: l.drop (i + 1) := by rw [rd_at h, List.drop_eq_getElem_cons h]
def one (x : List Int) : Bool := channel_Valid.one x
def vld (l : List (List Int)) : Bool := decide ((l.length : Int) ≤ 8) && l.all one
theorem packet_eq (x : List Int) : channel_validPacket.f x = some (one x) := by
  unfold channel_validPacket.f one channel_Valid.one
  by_cases h : 1 ≤ (x.length : Int)
  · rw [if_pos (show (x.length : Int) ≥ 1 from h), decide_eq_true h]; rfl
  · rw [if_neg (show ¬ (x.length : Int) ≥ 1 from h), decide_eq_false h]; rfl
theorem rpacket_eq (x : List Int) : clusterlocksref23_packet.f x = some (one x) := packet_eq x
theorem idx_any (p : List Int → Bool) : ∀ l : List (List Int), decide (0 ≤ Xw.idx_ p l) = l.any p
  | [] => rfl
  | x :: t => by
    have ih := idx_any p t
    have hg := Xw.idx_ge p t
    rw [Bool.eq_iff_iff] at ih ⊢
    simp only [decide_eq_true_eq] at ih ⊢
    simp only [Xw.idx_, List.any_cons, Bool.or_eq_true, ← ih]
    by_cases hx : p x = true
    · simp [hx]
    · rw [if_neg hx]
      by_cases h : Xw.idx_ p t = -1
      · rw [if_pos h]; simp [hx, h]
      · rw [if_neg h]
        constructor
        · intro _; exact Or.inr (by omega)
        · intro _; omega
theorem valid_eq (l : List (List Int)) : channel_Valid.f l = some (vld l) := by
  unfold channel_Valid.f vld
  rw [idx_any]
  congr 2
  induction l with
  | nil => rfl
  | cons x t ih =>
    simp only [List.any_cons, List.all_cons, Bool.not_or, Bool.not_not, ih]
    rfl
theorem rvalid_l0 (l : List (List Int)) (hl : l.length ≤ 1000000) (d : Nat) : ∀ i : Nat, i + d = l.length → Al (fun k => clusterlocksref23_Valid.l0 k l (l.length : Int) (i : Int)) ((l.drop i).all one) := by
  induction d with
  | zero =>
    intro i hi
    refine Al.succV (fun k => ?_)
    rw [clusterlocksref23_Valid.l0, if_neg (by omega), List.drop_eq_nil_of_le (by omega)]
    rfl
  | succ d ih =>
    intro i hi
    rw [drop_at (show i < l.length by omega), List.all_cons]
    cases h : one (rd_L1 l (i : Int)) with
    | true =>
      refine Al.succ (ih (i + 1) (by omega)) (fun k => ?_)
      rw [clusterlocksref23_Valid.l0, if_pos (by omega), if_pos (by omega), if_pos (by omega), rpacket_eq, h, Option.bind_some, if_pos rfl, w64_id (by omega) (by omega)]
      rfl
    | false =>
      refine Al.succV (fun k => ?_)
      rw [clusterlocksref23_Valid.l0, if_pos (by omega), if_pos (by omega), if_pos (by omega), rpacket_eq, h, Option.bind_some, if_neg (by decide)]
      rfl
theorem rvalid_al (l : List (List Int)) : Al (fun k => clusterlocksref23_Valid.f k l) (vld l) := by
  unfold vld
  by_cases h : (l.length : Int) > 8
  · rw [decide_eq_false (by omega)]
    exact Al.val fun k => by unfold clusterlocksref23_Valid.f; rw [if_pos h]; rfl
  · rw [decide_eq_true (by omega), Bool.true_and]
    exact Al.congr (rvalid_l0 l (by omega) l.length 0 (by omega)) (fun k => by unfold clusterlocksref23_Valid.f; rw [if_neg h]; rfl)
/-- Short enough to be copied. -/
def Ok (l : List (List Int)) : Prop := l.length ≤ 1000 ∧ ∀ y ∈ l, y.length ≤ 100000
theorem Ok.at {l : List (List Int)} (h : Ok l) {i : Nat} (hi : i < l.length) : (rd_L1 l (i : Int)).length ≤ 100000 := by rw [rd_at hi]; exact h.2 _ (List.getElem_mem hi)
theorem clone_ok {l : List Int} (h : l.length < 140737488355328) : slices_Clone_byte_byte.f l = some l := by unfold slices_Clone_byte_byte.f; rw [if_pos h]
theorem copied_l0 {l : List (List Int)} (hl : Ok l) (d : Nat) : ∀ (i : Nat) (x : List (List Int)), i + d = l.length → x.length = l.length → (∀ j : Nat, j < i → x[j]? = l[j]?) → Al (fun k => channel_copied.l0 k l x (l.length : Int) (i : Int)) l := by
  have h1 := hl.1
  induction d with
  | zero =>
    intro i x hi hx hj
    refine Al.succV (fun k => ?_)
    rw [channel_copied.l0, if_neg (by omega)]
    congr 1
    apply List.ext_getElem?
    intro j
    by_cases h : j < i
    · exact hj j h
    · rw [List.getElem?_eq_none (by omega), List.getElem?_eq_none (by omega)]
  | succ d ih =>
    intro i x hi hx hj
    refine Al.succ (ih (i + 1) (x.set i (rd_L1 l (i : Int))) (by omega) (by simpa using hx) ?_) (fun k => ?_)
    · intro j hj2
      by_cases e : j = i
      · subst e
        rw [List.getElem?_set_self (by omega), List.getElem?_eq_getElem (by omega), rd_at (by omega)]
      · rw [List.getElem?_set_ne (by omega)]
        exact hj j (by omega)
    · have := hl.at (show i < l.length by omega)
      rw [channel_copied.l0, if_pos (by omega), if_pos (by omega), if_pos (by omega), clone_ok (by omega), Option.bind_some, if_pos (by omega), Int.toNat_natCast, w64_id (by omega) (by omega)]
      rfl
theorem copied_al {l : List (List Int)} (hl : Ok l) : Al (fun k => channel_copied.f k l) l := by
  have h1 := hl.1
  refine Al.congr (copied_l0 hl l.length 0 (List.replicate l.length []) (by omega) (by simp) (fun j hj => absurd hj (Nat.not_lt_zero _))) (fun k => ?_)
  unfold channel_copied.f
  rw [if_pos (by omega), Int.toNat_natCast, if_pos (by omega)]
  rfl
theorem copy_l0 {l : List (List Int)} (hl : Ok l) (d : Nat) : ∀ (i : Nat), i + d = l.length → Al (fun k => clusterlocksref23_Copy.l0 k (l.take i) l (l.length : Int) (i : Int)) l := by
  have h1 := hl.1
  induction d with
  | zero =>
    intro i hi
    refine Al.succV (fun k => ?_)
    rw [clusterlocksref23_Copy.l0, if_neg (by omega), List.take_of_length_le (by omega)]
  | succ d ih =>
    intro i hi
    refine Al.succ (ih (i + 1) (by omega)) (fun k => ?_)
    have := hl.at (show i < l.length by omega)
    rw [clusterlocksref23_Copy.l0, if_pos (by omega), if_pos (by omega), if_pos (by omega), if_pos (by simpa using (by omega)), if_pos (by rw [List.length_take]; omega), w64_id (by omega) (by omega)]
    rw [rd_at (show i < l.length by omega), List.nil_append, List.take_append_getElem]
    rfl
theorem copy_al {l : List (List Int)} (hl : Ok l) : Al (fun k => clusterlocksref23_Copy.f k l) l := copy_l0 hl l.length 0 (by omega)
theorem same_l0 (l : List (List Int)) (hl : l.length ≤ 1000000) (d : Nat) : ∀ i : Nat, i + d = l.length → Al (fun k => clusterlocksref23_Same.l0 k l l (i : Int)) true := by
  induction d with
  | zero =>
    intro i hi
    exact Al.succV (fun k => by rw [clusterlocksref23_Same.l0, if_neg (by omega)])
  | succ d ih =>
    intro i hi
    refine Al.succ (ih (i + 1) (by omega)) (fun k => ?_)
    rw [clusterlocksref23_Same.l0, if_pos (by omega), if_pos (by omega), if_pos (by omega)]
    unfold clusterlocksref23_SameBytes.f
    rw [beq_self_eq_true, Option.bind_some, if_pos rfl, w64_id (by omega) (by omega)]
    rfl
theorem same_al {l m : List (List Int)} (hl : l.length ≤ 1000000) (e : l = m) : Al (fun k => clusterlocksref23_Same.f k l m) true := by
  subst e
  exact Al.congr (same_l0 l hl l.length 0 (by omega)) (fun k => by unfold clusterlocksref23_Same.f; rw [if_pos rfl]; rfl)
theorem short_l0 (l : List (List Int)) (hl : l.length ≤ 1000000) (d : Nat) : ∀ i : Nat, i + d = l.length → Al (fun k => clusterlockslaw23_short.l0 k l (l.length : Int) (i : Int)) ((l.drop i).all (fun y => decide ((y.length : Int) ≤ 10000))) := by
  induction d with
  | zero =>
    intro i hi
    refine Al.succV (fun k => ?_)
    rw [clusterlockslaw23_short.l0, if_neg (by omega), List.drop_eq_nil_of_le (by omega)]
    rfl
  | succ d ih =>
    intro i hi
    rw [drop_at (show i < l.length by omega), List.all_cons]
    by_cases h : ((rd_L1 l (i : Int)).length : Int) ≤ 10000
    · rw [decide_eq_true h, Bool.true_and]
      refine Al.succ (ih (i + 1) (by omega)) (fun k => ?_)
      rw [clusterlockslaw23_short.l0, if_pos (by omega), if_pos (by omega), if_pos (by omega), if_neg (by omega), w64_id (by omega) (by omega)]
      rfl
    · rw [decide_eq_false h, Bool.false_and]
      refine Al.succV (fun k => ?_)
      rw [clusterlockslaw23_short.l0, if_pos (by omega), if_pos (by omega), if_pos (by omega), if_pos (by omega)]
theorem short_al (l : List (List Int)) : ∃ b, Al (fun k => clusterlockslaw23_short.f k l) b ∧ (b = true → l.length ≤ 12 ∧ ∀ y ∈ l, y.length ≤ 10000) := by
  by_cases h : (l.length : Int) > 12
  · exact ⟨false, Al.val fun k => by unfold clusterlockslaw23_short.f; rw [if_pos h], fun h => by cases h⟩
  · refine ⟨_, Al.congr (short_l0 l (by omega) l.length 0 (by omega)) (fun k => by unfold clusterlockslaw23_short.f; rw [if_neg h]; rfl), fun hb => ⟨by omega, fun y hy => ?_⟩⟩
    rw [List.drop_zero, List.all_eq_true] at hb
    have := of_decide_eq_true (hb y hy)
    omega

/-! What the functions answer. -/
def chk (l : List (List Int)) (i : Int) : Int := if vld l = true then (if i < 0 then 1 else if i ≥ (l.length : Int) then 1 else 0) else 2
theorem check_eq (l : List (List Int)) (i : Int) : channel_check.f l i = some (chk l i) := by
  unfold channel_check.f chk
  rw [valid_eq, Option.bind_some]
  split
  · split
    · rfl
    · split <;> rfl
  · rfl
theorem rcheck_al (l : List (List Int)) (i : Int) : Al (fun k => clusterlocksref23_check.f k l i) (chk l i) := by
  refine Al.bindE (fun k => rfl) (rvalid_al l) (Al.val fun k => ?_)
  unfold chk
  split
  · split
    · rfl
    · split <;> rfl
  · rfl
theorem chk_ok {l : List (List Int)} {i : Int} (h : chk l i = 0) : vld l = true ∧ 0 ≤ i ∧ i < (l.length : Int) := by
  unfold chk at h
  split at h
  · rename_i hv
    split at h
    · omega
    · split at h
      · omega
      · exact ⟨hv, by omega, by omega⟩
  · omega
def snd (l : List (List Int)) (b : List Int) : List (List Int) × Int := if vld l = true then (if one b = true then (if (l.length : Int) = 8 then ([], 20) else (l ++ [b], 0)) else ([], 1)) else ([], 2)
theorem send_al {l : List (List Int)} {b : List Int} (hl : Ok l) (hb : b.length ≤ 100000) : Al (fun k => channel_Send.f k l b) (snd l b) := by
  have h1 := hl.1
  unfold snd
  by_cases h : vld l = true
  · rw [if_pos h]
    by_cases h2 : one b = true
    · rw [if_pos h2]
      by_cases h3 : (l.length : Int) = 8
      · rw [if_pos h3]
        exact Al.val fun k => by unfold channel_Send.f; rw [valid_eq, Option.bind_some, if_pos h, packet_eq, Option.bind_some, if_pos h2, if_pos h3]
      · rw [if_neg h3]
        refine Al.bindE (g := fun k => channel_copied.f k l) (fun k => by unfold channel_Send.f; rw [valid_eq, Option.bind_some, if_pos h, packet_eq, Option.bind_some, if_pos h2, if_neg h3]) (copied_al hl) (Al.val fun k => ?_)
        rw [clone_ok (by omega), Option.bind_some, if_pos (by omega)]
    · rw [if_neg h2]
      exact Al.val fun k => by unfold channel_Send.f; rw [valid_eq, Option.bind_some, if_pos h, packet_eq, Option.bind_some, if_neg h2]
  · rw [if_neg h]
    exact Al.val fun k => by unfold channel_Send.f; rw [valid_eq, Option.bind_some, if_neg h]
theorem rsend_al {l : List (List Int)} {b : List Int} (hl : Ok l) (hb : b.length ≤ 100000) : Al (fun k => clusterlocksref23_Send.f k l b) (snd l b) := by
  have h1 := hl.1
  refine Al.bindE (fun k => rfl) (rvalid_al l) ?_
  unfold snd
  by_cases h : vld l = true
  · rw [if_pos h]
    by_cases h2 : one b = true
    · rw [if_pos h2]
      by_cases h3 : (l.length : Int) = 8
      · rw [if_pos h3]
        exact Al.val fun k => by rw [if_pos h, rpacket_eq, Option.bind_some, if_pos h2, if_pos h3]
      · rw [if_neg h3]
        refine Al.bindE (g := fun k => clusterlocksref23_Copy.f k l) (fun k => by rw [if_pos h, rpacket_eq, Option.bind_some, if_pos h2, if_neg h3]) (copy_al hl) (Al.val fun k => ?_)
        rw [if_pos (by simpa using (by omega)), if_pos (by omega), List.nil_append]
    · rw [if_neg h2]
      exact Al.val fun k => by rw [if_pos h, rpacket_eq, Option.bind_some, if_neg h2]
  · rw [if_neg h]
    exact Al.val fun k => by rw [if_neg h]
def dlv (l : List (List Int)) (i : Int) : List Int × List (List Int) × Int := if chk l i = 0 then (rd_L1 l i, l.take i.toNat ++ l.drop (i.toNat + 1), 0) else ([], [], chk l i)
theorem deliver_al {l : List (List Int)} (hl : Ok l) (i : Int) : Al (fun k => channel_Deliver.f k l i) (dlv l i) := by
  have h1 := hl.1
  unfold dlv
  by_cases h : chk l i = 0
  · obtain ⟨_, h2, h3⟩ := chk_ok h
    rw [if_pos h]
    exact Al.bindE (g := fun k => channel_copied.f k l) (fun k => by unfold channel_Deliver.f; rw [check_eq, Option.bind_some, if_pos h]) (copied_al hl) (Al.val fun k => by rw [if_pos ⟨h2, h3, by omega⟩])
  · rw [if_neg h]
    exact Al.val fun k => by unfold channel_Deliver.f; rw [check_eq, Option.bind_some, if_neg h]
theorem rdeliver_al {l : List (List Int)} (hl : Ok l) (i : Int) : Al (fun k => clusterlocksref23_Deliver.f k l i) (dlv l i) := by
  have h1 := hl.1
  refine Al.bindE (fun k => rfl) (rcheck_al l i) ?_
  unfold dlv
  by_cases h : chk l i = 0
  · obtain ⟨_, h2, h3⟩ := chk_ok h
    rw [if_pos h]
    exact Al.bindE (g := fun k => clusterlocksref23_Copy.f k l) (fun k => by rw [if_pos h]) (copy_al hl) (Al.val fun k => by rw [if_pos ⟨h2, h3, by omega⟩])
  · rw [if_neg h]
    exact Al.val fun k => by rw [if_neg h]
theorem lose_al {l : List (List Int)} (hl : Ok l) (i : Int) : Al (fun k => channel_Lose.f k l i) ((dlv l i).2.1, (dlv l i).2.2) := Al.bindE (fun k => rfl) (deliver_al hl i) (Al.val fun k => rfl)
theorem rlose_al {l : List (List Int)} (hl : Ok l) (i : Int) : Al (fun k => clusterlocksref23_Lose.f k l i) ((dlv l i).2.1, (dlv l i).2.2) := Al.bindE (fun k => rfl) (rdeliver_al hl i) (Al.val fun k => rfl)
def dbl (l : List (List Int)) (i : Int) : List (List Int) × Int := if chk l i = 0 then snd l (rd_L1 l i) else ([], chk l i)
theorem rd_len {l : List (List Int)} (hl : Ok l) {i : Int} (h0 : 0 ≤ i) (h1 : i < (l.length : Int)) : (rd_L1 l i).length ≤ 100000 := by
  have := hl.at (show i.toNat < l.length by omega)
  rwa [Int.toNat_of_nonneg h0] at this
theorem double_al {l : List (List Int)} (hl : Ok l) (i : Int) : Al (fun k => channel_Double.f k l i) (dbl l i) := by
  unfold dbl
  by_cases h : chk l i = 0
  · obtain ⟨_, h2, h3⟩ := chk_ok h
    rw [if_pos h]
    exact Al.bindE (g := fun k => channel_Send.f k l (rd_L1 l i)) (fun k => by unfold channel_Double.f; rw [check_eq, Option.bind_some, if_pos h, if_pos h2, if_pos h3]) (send_al hl (rd_len hl h2 h3)) (Al.val fun k => rfl)
  · rw [if_neg h]
    exact Al.val fun k => by unfold channel_Double.f; rw [check_eq, Option.bind_some, if_neg h]
theorem rdouble_al {l : List (List Int)} (hl : Ok l) (i : Int) : Al (fun k => clusterlocksref23_Double.f k l i) (dbl l i) := by
  refine Al.bindE (fun k => rfl) (rcheck_al l i) ?_
  unfold dbl
  by_cases h : chk l i = 0
  · obtain ⟨_, h2, h3⟩ := chk_ok h
    rw [if_pos h]
    exact Al.bindE (g := fun k => clusterlocksref23_Send.f k l (rd_L1 l i)) (fun k => by rw [if_pos h, if_pos h2, if_pos h3]) (rsend_al hl (rd_len hl h2 h3)) (Al.val fun k => rfl)
  · rw [if_neg h]
    exact Al.val fun k => by rw [if_neg h]
theorem vld_row {l : List (List Int)} (h : vld l = true) {i : Int} (h0 : 0 ≤ i) (h1 : i < (l.length : Int)) : 1 ≤ ((rd_L1 l i).length : Int) ∧ ((rd_L1 l i).length : Int) ≤ 8192 := by
  unfold vld at h
  rw [Bool.and_eq_true, List.all_eq_true] at h
  have hm : rd_L1 l i ∈ l := by
    have := rd_at (l := l) (show i.toNat < l.length by omega)
    rw [Int.toNat_of_nonneg h0] at this
    rw [this]
    exact List.getElem_mem _
  have := h.2 _ hm
  unfold one channel_Valid.one at this
  rw [Bool.and_eq_true] at this
  exact ⟨of_decide_eq_true this.1, of_decide_eq_true this.2⟩
def pos (a n : Int) : Int := if Int.tmod a n < 0 then Int.tmod a n + n else Int.tmod a n
theorem tmod_range (a : Int) {n : Int} (h : 0 < n) : -n < Int.tmod a n ∧ Int.tmod a n < n := by
  refine ⟨?_, Int.tmod_lt_of_pos a h⟩
  have := Int.tmod_lt_of_pos (-a) h
  rw [Int.neg_tmod] at this
  omega
theorem pos_range (a : Int) {n : Int} (h : 0 < n) : 0 ≤ pos a n ∧ pos a n < n := by
  have := tmod_range a h
  unfold pos
  split <;> omega
theorem pos_eq (a : Int) {n : Int} (h : 0 < n) (hn : n ≤ 10000) : Int.tmod (wrap64 (Int.tmod a n + n)) n = pos a n := by
  have := tmod_range a h
  rw [w64_id (by omega) (by omega)]
  unfold pos
  by_cases hs : Int.tmod a n < 0
  · rw [if_pos hs]
    exact Int.tmod_eq_of_lt (by omega) (by omega)
  · rw [if_neg hs, Int.tmod_eq_emod_of_nonneg (by omega), Int.add_emod_right, Int.emod_eq_of_lt (by omega) (by omega)]
def spl (l : List (List Int)) (i a b : Int) : List (List Int) × Int :=
  if chk l i = 0 then (l.set i.toNat ((rd_L1 l i).set (pos a ((rd_L1 l i).length : Int)).toNat (Go.bits .xor .u8 (rd (rd_L1 l i) (pos a ((rd_L1 l i).length : Int))) (b % 256))), 0) else ([], chk l i)
theorem spoil_al {l : List (List Int)} (hl : Ok l) (i a b : Int) : Al (fun k => channel_Spoil.f k l i a b) (spl l i a b) := by
  unfold spl
  by_cases h : chk l i = 0
  · obtain ⟨hv, h2, h3⟩ := chk_ok h
    obtain ⟨r0, r1⟩ := vld_row hv h2 h3
    have hp := pos_range a (n := ((rd_L1 l i).length : Int)) (by omega)
    have he := pos_eq a (n := ((rd_L1 l i).length : Int)) (by omega) (by omega)
    rw [if_pos h]
    refine Al.bindE (g := fun k => channel_copied.f k l) (fun k => by unfold channel_Spoil.f; rw [check_eq, Option.bind_some, if_pos h]) (copied_al hl) (Al.val fun k => ?_)
    rw [he, if_pos h2, if_pos h3, if_neg (by omega), if_pos hp.1, if_pos hp.2]
  · rw [if_neg h]
    exact Al.val fun k => by unfold channel_Spoil.f; rw [check_eq, Option.bind_some, if_neg h]
theorem rspoil_al {l : List (List Int)} (hl : Ok l) (i a b : Int) : Al (fun k => clusterlocksref23_Spoil.f k l i a b) (spl l i a b) := by
  refine Al.bindE (fun k => rfl) (rcheck_al l i) ?_
  unfold spl
  by_cases h : chk l i = 0
  · obtain ⟨hv, h2, h3⟩ := chk_ok h
    obtain ⟨r0, r1⟩ := vld_row hv h2 h3
    have hp := pos_range a (n := ((rd_L1 l i).length : Int)) (by omega)
    have ht := tmod_range a (n := ((rd_L1 l i).length : Int)) (by omega)
    rw [if_pos h]
    refine Al.bindE (g := fun k => clusterlocksref23_Copy.f k l) (fun k => by rw [if_pos h]) (copy_al hl) (Al.val fun k => ?_)
    rw [if_pos h2, if_pos h3, if_neg (by omega)]
    unfold pos at hp ⊢
    by_cases hs : Int.tmod a ((rd_L1 l i).length : Int) < 0
    · rw [if_pos hs, if_pos hs, w64_id (by omega) (by omega), if_pos (by omega), if_pos (by omega)]
    · rw [if_neg hs, if_neg hs, if_pos (by omega), if_pos (by omega)]
  · rw [if_neg h]
    exact Al.val fun k => by rw [if_neg h]
theorem snd_len {l : List (List Int)} {b : List Int} (h : l.length ≤ 1000) : (snd l b).1.length ≤ 1000000 := by
  unfold snd
  (repeat' split) <;> simp <;> omega
theorem dlv_len {l : List (List Int)} (h : l.length ≤ 1000) (i : Int) : (dlv l i).2.1.length ≤ 1000000 := by
  unfold dlv
  split
  · simp only [List.length_append, List.length_take, List.length_drop]; omega
  · simp
theorem dbl_len {l : List (List Int)} (h : l.length ≤ 1000) (i : Int) : (dbl l i).1.length ≤ 1000000 := by
  unfold dbl
  split
  · exact snd_len h
  · simp
theorem spl_len {l : List (List Int)} (h : l.length ≤ 1000) (i a b : Int) : (spl l i a b).1.length ≤ 1000000 := by
  unfold spl
  split
  · simp only [List.length_set]; omega
  · simp
end Go.Proofs.Ytnhdppfmdhdmdaa.Pc
