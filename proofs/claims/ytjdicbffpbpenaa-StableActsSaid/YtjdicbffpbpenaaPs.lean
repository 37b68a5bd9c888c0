import Derived.Test.YtjdicbffpbpenaaPg
import Derived.Test.YtjdicbffpbpenaaY2
import Derived.Test.YtjdicbffpbpenaaY3
import Derived.Test.YtjdicbffpbpenaaY4
import Derived.Test.YtjdicbffpbpenaaY5
import Derived.Test.YtjdicbffpbpenaaY11
namespace Go.Proofs.Ytjdicbffpbpenaa.Pl
open Go.RowKit Go.Proofs.Ytjdicbffpbpenaa.Y Go.Proofs.YtjdicbffpbpenaaW.PrintWords Go.Proofs.YtjdicbffpbpenaaW.PrintLast Go.Proofs.YtjdicbffpbpenaaW.PrintMore
set_option linter.unusedVariables false
set_option linter.unusedSimpArgs false

theorem Al.succ {α : Type} {G G' : Nat → Option α} {r : α} (h : Al G' r) (e : ∀ k, G (k + 1) = G' k) : Al G r := by
  obtain ⟨K, h⟩ := h
  refine ⟨K + 1, fun k hk => ?_⟩
  obtain ⟨m, rfl⟩ : ∃ m, k = m + 1 := ⟨k - 1, by omega⟩
  rw [e]
  exact h m (by omega)
theorem Al.succV {α : Type} {G : Nat → Option α} {r : α} (e : ∀ k, G (k + 1) = some r) : Al G r := Al.succ (G' := fun _ => some r) (Al.val fun _ => rfl) e
theorem Al.succB {α β : Type} {G : Nat → Option β} {g : Nat → Option α} {f : Nat → α → Option β} {r : α} {q : β} (e : ∀ k, G (k + 1) = (g k).bind (f k)) (h : Al g r) (h2 : Al (fun k => f k r) q) : Al G q := Al.succ (Al.bind h h2) e
theorem Al.eq {α : Type} {g : Nat → Option α} {r r' : α} (h : Al g r) (e : r = r') : Al g r' := e ▸ h

theorem awake_eval : clusterlockslaw26_awake.f 150 = some true := by decide +kernel
theorem awake_al : Al (fun k => clusterlockslaw26_awake.f k) true := Al.of (fun k => clusterlockslaw26_awake.mono k) awake_eval

/-! What a copy holds. -/
def wh (l : List Int) : List Int × Int × Bool :=
  if (unf l).2.2 = 0 ∧ (unf l).2.1 = (l.length : Int) then
    (if (uint (unf l).1).2.2 = 0 ∧ 1 ≤ (uint (unf l).1).1 ∧ (uint (unf l).1).1 ≤ 1073741824 ∧ ((unf l).1.length : Int) - (uint (unf l).1).2.1 ≤ 512
      then ((unf l).1.drop (uint (unf l).1).2.1.toNat, (uint (unf l).1).1, true) else ([], 0, false))
  else ([], 0, false)
theorem wh_v (l : List Int) : 0 ≤ (wh l).2.1 ∧ (wh l).2.1 ≤ 1073741824 := by
  unfold wh
  split
  · split
    · rename_i h; exact ⟨by simp only; omega, h.2.2.1⟩
    · simp
  · simp
theorem unf_by {l : List Int} (hl : By l) : By (unf l).1 ∧ (unf l).1.length ≤ 4096 := by
  have nil : By ([] : List Int) := fun x hx => absurd hx (by simp)
  unfold unf
  split
  · rename_i h
    obtain ⟨v, v0, v1, v2, _, e⟩ := szd_ok hl 4096 h
    split
    · exact ⟨nil, by simp⟩
    · split
      · rw [e]
        refine ⟨fun x hx => hl x (List.mem_of_mem_take (List.mem_of_mem_drop hx)), ?_⟩
        simp only [List.length_drop, List.length_take]
        omega
      · exact ⟨nil, by simp⟩
  · exact ⟨nil, by simp⟩
theorem whole_true (x : List Int) : Al (fun k => stable_whole.j0 k x true) ([], 0, false) := Al.succV fun k => by rw [stable_whole.j0]; rw [if_pos rfl]
theorem clone_ok {l : List Int} (h : l.length < 140737488355328) : slices_Clone_byte_byte.f l = some l := by unfold slices_Clone_byte_byte.f; rw [if_pos h]
theorem whole_al {l : List Int} (hl : By l) (hn : l.length ≤ 140737488355328) : Al (fun k => stable_whole.f k l) (wh l) := by
  refine Al.bindE (fun k => rfl) (unframe_al hl hn) ?_
  unfold wh
  by_cases h1 : (unf l).2.2 = 0
  · by_cases h2 : (unf l).2.1 = (l.length : Int)
    · rw [if_pos ⟨h1, h2⟩]
      have hub := (unf_by hl).1
      have hul := (unf_by hl).2
      have e0 : ((unf l).2.1 != (l.length : Int)) = false := by simp [h2]
      by_cases h3 : (uint (unf l).1).2.2 = 0
      · obtain ⟨v, v0, v1, e, _, v5⟩ := uint_ok hub h3
        have hq := enc_len 10 v
        refine Al.succB (g := fun k => codec_Uint.f k (unf l).1) (fun k => by rw [if_pos h1, e0, stable_whole.j0, if_neg (by decide)]) (codec_uint hub) (Al.val fun k => ?_)
        rw [e]
        simp only [if_true]
        by_cases h4 : 1 ≤ v
        · rw [if_neg (by omega)]
          by_cases h5 : v ≤ 1073741824
          · rw [if_neg (by omega), w64_id (n := ((unf l).1.length : Int) - ((enc 10 v).length : Int)) (by omega) (by omega)]
            by_cases h6 : ((unf l).1.length : Int) - ((enc 10 v).length : Int) ≤ 512
            · rw [if_neg (by omega), if_pos (by omega), if_pos (by omega), clone_ok (by simp only [List.length_drop]; omega), if_pos ⟨trivial, h4, h5, h6⟩, w64_id (by omega) (by omega)]
              rfl
            · rw [if_pos (by omega), if_neg (fun h => h6 h.2.2.2)]
          · rw [if_pos (by omega), if_neg (fun h => h5 h.2.2.1)]
        · rw [if_pos (by omega), if_neg (fun h => h4 h.2.1)]
      · refine Al.succB (g := fun k => codec_Uint.f k (unf l).1) (fun k => by rw [if_pos h1, e0, stable_whole.j0, if_neg (by decide)]) (codec_uint hub) (Al.val fun k => ?_)
        rw [if_neg h3, if_neg (fun h => h3 h.1)]
    · rw [if_neg (fun h => h2 h.2)]
      refine Al.congr (whole_true (unf l).1) (fun k => ?_)
      have e0 : ((unf l).2.1 != (l.length : Int)) = true := by simp [h2]
      show (if (unf l).2.2 = 0 then _ else _) = _
      rw [if_pos h1, e0]
  · rw [if_neg (fun h => h1 h.1)]
    refine Al.congr (whole_true (unf l).1) (fun k => ?_)
    show (if (unf l).2.2 = 0 then _ else _) = _
    rw [if_neg h1]

/-! A store. -/
def pres (a b : List Int) : List Int × Int × Int × Bool :=
  if ((wh b).2.2 && (!(wh a).2.2 || decide ((wh b).2.1 > (wh a).2.1))) = true then ((wh b).1, (wh b).2.1, 1, (wh b).2.2) else ((wh a).1, (wh a).2.1, 0, (wh a).2.2)
theorem pres_v (a b : List Int) : 0 ≤ (pres a b).2.1 ∧ (pres a b).2.1 ≤ 1073741824 := by
  unfold pres
  split
  · exact wh_v b
  · exact wh_v a
theorem present_al {a b : List Int} (ha : By a) (hb : By b) (na : a.length ≤ 140737488355328) (nb : b.length ≤ 140737488355328) : Al (fun k => stable_present.f k a b) (pres a b) := by
  refine Al.bindE (fun k => rfl) (whole_al ha na) (Al.bindE (fun k => rfl) (whole_al hb nb) (Al.val fun k => ?_))
  unfold pres
  split <;> rfl
def rdr (a b : List Int) : List Int × Int × Int := if (pres a b).2.2.2 = true then ((pres a b).1, (pres a b).2.1, 0) else ([], 0, 10)
theorem read_al {a b : List Int} (ha : By a) (hb : By b) (na : a.length ≤ 140737488355328) (nb : b.length ≤ 140737488355328) : Al (fun k => stable_Read.f k a b) (rdr a b) := by
  refine Al.bindE (fun k => rfl) (present_al ha hb na nb) (Al.val fun k => ?_)
  unfold rdr
  split <;> rfl
def cpy (v : Int) (rec : List Int) : List Int := fr (enc 10 v ++ rec)
def cutn (n : Int) (l : List Int) : Nat := (mn (mx n 0) (l.length : Int)).toNat
def tor (a b rec : List Int) (n : Int) : List Int × List Int × Int :=
  if rec.length > 512 then ([], [], 3) else if (pres a b).2.1 ≥ 1073741824 then ([], [], 16) else
    if (pres a b).2.2.2 = true ∧ (pres a b).2.2.1 = 0 then (a, (cpy ((pres a b).2.1 + 1) rec).take (cutn n (cpy ((pres a b).2.1 + 1) rec)), 0)
    else ((cpy ((pres a b).2.1 + 1) rec).take (cutn n (cpy ((pres a b).2.1 + 1) rec)), b, 0)
theorem cut_ok (n : Int) (l : List Int) : 0 ≤ mn (mx n 0) (l.length : Int) ∧ mn (mx n 0) (l.length : Int) ≤ (l.length : Int) := by
  unfold mn mx
  (repeat' split) <;> omega
theorem number_t : stable_number.f true = some 1 := rfl
theorem number_f : stable_number.f false = some 0 := rfl
theorem torn_al {a b rec : List Int} (ha : By a) (hb : By b) (hr : By rec) (na : a.length < 140737488355328) (nb : b.length < 140737488355328) (n : Int) : Al (fun k => stable_Torn.f k a b rec n) (tor a b rec n) := by
  unfold tor
  by_cases h1 : rec.length > 512
  · rw [if_pos h1]
    exact Al.val fun k => by unfold stable_Torn.f; rw [if_pos (by omega)]
  rw [if_neg h1]
  refine Al.bindE (fun k => by unfold stable_Torn.f; rw [if_neg (by omega)]) (present_al ha hb (by omega) (by omega)) ?_
  by_cases h2 : (pres a b).2.1 ≥ 1073741824
  · rw [if_pos h2]
    exact Al.val fun k => by rw [if_pos h2]
  rw [if_neg h2]
  have hv := pres_v a b
  have hq := enc_len 10 ((pres a b).2.1 + 1)
  refine Al.bindE (fun k => by rw [if_neg h2, w64_id (by omega) (by omega), u64w_id (by omega) (by omega)]) (putuint [] (by simp) ((pres a b).2.1 + 1) (by omega) (by omega)) ?_
  simp only [List.nil_append]
  refine Al.bindE (fun k => by rw [if_pos (by omega)]) (frame_al (l := enc 10 ((pres a b).2.1 + 1) ++ rec) (by rw [List.length_append]; omega)) (Al.val fun k => ?_)
  obtain ⟨c0, c1⟩ := cut_ok n (cpy ((pres a b).2.1 + 1) rec)
  unfold cpy at c0 c1
  simp only [if_true, clone_ok na, clone_ok nb, Option.bind_some]
  by_cases h3 : (pres a b).2.2.2 = true
  · rw [if_pos h3]
    by_cases h4 : (pres a b).2.2.1 = 0
    · rw [if_pos ⟨h3, h4⟩, show ((pres a b).2.2.1 == 0) = true by simp [h4], number_t]
      simp only [Option.bind_some]
      rw [if_pos c0, if_pos c1, if_neg (by decide)]
      rfl
    · rw [if_neg (fun h => h4 h.2), show ((pres a b).2.2.1 == 0) = false by simp [h4], number_f]
      simp only [Option.bind_some]
      rw [if_pos c0, if_pos c1, if_pos trivial]
      rfl
  · rw [if_neg h3, if_neg (fun h => h3 h.1), number_f]
    simp only [Option.bind_some]
    rw [if_pos c0, if_pos c1, if_pos trivial]
    rfl
theorem cpy_len {v : Int} {rec : List Int} (h : rec.length ≤ 512) : (cpy v rec).length ≤ 536 := by
  unfold cpy
  rw [fr_len, List.length_append]
  have h1 := enc_len 10 v
  have h2 := enc_len 10 (((enc 10 v ++ rec).length : Nat) : Int)
  rw [List.length_append] at h2
  omega
theorem cut_all {l : List Int} (h : l.length ≤ 8192) : l.take (cutn 8192 l) = l := by
  apply List.take_of_length_le
  unfold cutn
  unfold mn mx
  (repeat' split) <;> omega
def wri (a b rec : List Int) : List Int × List Int × Int :=
  if rec.length > 512 then ([], [], 3) else if (pres a b).2.1 ≥ 1073741824 then ([], [], 16) else
    if (pres a b).2.2.2 = true ∧ (pres a b).2.2.1 = 0 then (a, cpy ((pres a b).2.1 + 1) rec, 0) else (cpy ((pres a b).2.1 + 1) rec, b, 0)
theorem tor_wri (a b rec : List Int) : tor a b rec 8192 = wri a b rec := by
  unfold tor wri
  split
  · rfl
  split
  · rfl
  rw [cut_all (by have := cpy_len (v := (pres a b).2.1 + 1) (rec := rec) (by omega); omega)]
theorem write_al {a b rec : List Int} (ha : By a) (hb : By b) (hr : By rec) (na : a.length < 140737488355328) (nb : b.length < 140737488355328) : Al (fun k => stable_Write.f k a b rec) (wri a b rec) := by
  refine Al.bindE (fun k => rfl) (torn_al ha hb hr na nb 8192) (Al.val fun k => ?_)
  rw [tor_wri]

/-! What is written is read back, and what is cut off is not whole. -/
theorem wh_cpy {v : Int} {rec : List Int} (h0 : 1 ≤ v) (h1 : v ≤ 1073741824) (hr : rec.length ≤ 512) (hb : By rec) : wh (cpy v rec) = (rec, v, true) := by
  have hq := enc_len 10 v
  have hu := unf_fr (l := enc 10 v ++ rec) (by rw [List.length_append]; omega) ((enc_by 10 v (by omega)).app hb) []
  rw [List.append_nil] at hu
  have he := uint_enc v (by omega) (by omega) rec
  unfold wh cpy
  rw [hu]
  simp only [true_and, if_true]
  rw [he]
  simp only [true_and]
  rw [if_pos ⟨h0, h1, by rw [List.length_append]; omega⟩]
  simp
theorem wh_short {v : Int} {rec : List Int} (hr : rec.length ≤ 512) (j : Nat) (hj : j < (cpy v rec).length) : wh ((cpy v rec).take j) = ([], 0, false) := by
  have hq := enc_len 10 v
  have hu := unf_short (l := enc 10 v ++ rec) (by rw [List.length_append]; omega) j hj
  unfold wh cpy
  rw [hu, if_neg (fun h => absurd h.1 (by decide))]
theorem cpy_by {v : Int} {rec : List Int} (h0 : 0 ≤ v) (hb : By rec) : By (cpy v rec) := fr_by ((enc_by 10 v h0).app hb)
theorem nil_by : By ([] : List Int) := fun x hx => absurd hx (by simp)
theorem wh_nil : wh [] = ([], 0, false) := by decide +kernel
theorem new_ok : stable_New.f = some ([], []) := rfl
theorem str_eq {p q : List Int} (h : p = q) : ((strOfNums p).toList == (strOfNums q).toList) = true := by subst h; exact beq_self_eq_true _
theorem mod_ok (x y : Int) (h : 1 ≤ y) (hx : -9223372036854775808 ≤ x ∧ x ≤ 9223372036854775807) (hy : y ≤ 9223372036854775807) : ∃ r, clusterlocksmill_Mod.f x y = some r ∧ 0 ≤ r ∧ r < y := by
  unfold clusterlocksmill_Mod.f
  rw [if_neg (by omega), if_neg (by omega)]
  have a1 : Int.tmod x y < y := Int.tmod_lt_of_pos x (by omega)
  have a2 : -y < Int.tmod x y := by
    have := Int.tmod_lt_of_pos (-x) (b := y) (by omega)
    rw [Int.neg_tmod] at this
    omega
  by_cases h0 : Int.tmod x y < 0
  · rw [if_pos h0, w64_id (by omega) (by omega)]
    exact ⟨_, rfl, by omega, by omega⟩
  · rw [if_neg h0]
    exact ⟨_, rfl, by omega, a1⟩
theorem wf_i64 {x : Int} (h : (Lit.int .i64 x).wf = true) : -9223372036854775808 ≤ x ∧ x ≤ 9223372036854775807 := by
  have h1 : IntKind.i64.min ≤ x ∧ x ≤ IntKind.i64.max := by simpa [Lit.wf] using h
  have e1 : IntKind.i64.min = -9223372036854775808 := by decide
  have e2 : IntKind.i64.max = 9223372036854775807 := by decide
  omega
end Go.Proofs.Ytjdicbffpbpenaa.Pl
