import Derived.Test.YtjdicbffpbpenaaY1
import Derived.Laws.BitsAllLaws
namespace Go.Proofs.Ytjdicbffpbpenaa.Pl
open Go.RowKit Go.Proofs.Ytjdicbffpbpenaa.Y Go.Proofs.YtjdicbffpbpenaaW.PrintWords Go.Proofs.YtjdicbffpbpenaaW.PrintLast Go.Proofs.YtjdicbffpbpenaaW.PrintMore
set_option linter.unusedVariables false
set_option linter.unusedSimpArgs false

/-! Numbers. -/
theorem u64w (n : Int) : IntKind.u64.wrap n = n % 18446744073709551616 := by simp [IntKind.wrap, IntKind.bits, IntKind.signed]
theorem u64w_id {n : Int} (h0 : 0 ≤ n) (h : n < 18446744073709551616) : IntKind.u64.wrap n = n := by rw [u64w]; omega
theorem w64_id {n : Int} (h0 : -9223372036854775808 ≤ n) (h : n ≤ 9223372036854775807) : wrap64 n = n := by unfold wrap64; omega
theorem wf_u8 {x : Int} (h : (Lit.int .u8 x).wf = true) : 0 ≤ x ∧ x < 256 := by
  have h1 : IntKind.u8.min ≤ x ∧ x ≤ IntKind.u8.max := by simpa [Lit.wf] using h
  have e1 : IntKind.u8.min = 0 := by decide
  have e2 : IntKind.u8.max = 255 := by decide
  omega
theorem rd_mem {l : List Int} {i : Int} (h0 : 0 ≤ i) (h : i < (l.length : Int)) : rd l i ∈ l := by
  unfold rd
  rw [List.getD_eq_getElem?_getD, List.getElem?_eq_getElem (by omega)]
  exact List.getElem_mem _
theorem rd_app_right {p q : List Int} {i : Int} (h : i = p.length) : rd (p ++ q) i = rd q 0 := by
  subst h
  simp only [rd, List.getD_eq_getElem?_getD, Int.toNat_natCast, Int.toNat_zero]
  rw [List.getElem?_append_right (Nat.le_refl _), Nat.sub_self]
theorem rd_app_left {p q : List Int} {i : Int} (h0 : 0 ≤ i) (h : i < (p.length : Int)) : rd (p ++ q) i = rd p i := by
  simp only [rd, List.getD_eq_getElem?_getD]
  rw [List.getElem?_append_left (by omega)]
theorem rd_cons0 (x : Int) (q : List Int) : rd (x :: q) 0 = x := by simp [rd]

/-- The list holds bytes. -/
def By (l : List Int) : Prop := ∀ x ∈ l, 0 ≤ x ∧ x < 256
theorem by_of_wf {l : List Int} (h : ∀ x ∈ l, (Lit.int .u8 x).wf = true) : By l := fun x hx => wf_u8 (h x hx)
theorem By.rd {l : List Int} (h : By l) {i : Int} (h0 : 0 ≤ i) (h1 : i < (l.length : Int)) : 0 ≤ rd l i ∧ rd l i < 256 := h _ (rd_mem h0 h1)
theorem By.app {p q : List Int} (h : By p) (k : By q) : By (p ++ q) := fun x hx => by
  rcases List.mem_append.1 hx with h' | h'
  · exact h x h'
  · exact k x h'

/-- From some number of rounds on it answers r. -/
def Al {α : Type} (g : Nat → Option α) (r : α) : Prop := ∃ K, ∀ k, K ≤ k → g k = some r
theorem Al.of {α : Type} {g : Nat → Option α} (hm : ∀ k, LeO (g k) (g (k + 1))) {k : Nat} {r : α} (h : g k = some r) : Al g r := ⟨k, fun _ hk => at_rounds hm hk h⟩
theorem Al.ex {α : Type} {g : Nat → Option α} {r : α} (h : Al g r) : ∃ k, g k = some r := by
  obtain ⟨K, h⟩ := h
  exact ⟨K, h K (Nat.le_refl _)⟩
theorem Al.const {α : Type} (r : α) : Al (fun _ => some r) r := ⟨0, fun _ _ => rfl⟩
theorem Al.bind {α β : Type} {g : Nat → Option α} {f : Nat → α → Option β} {r : α} {q : β} (h : Al g r) (h2 : Al (fun k => f k r) q) : Al (fun k => (g k).bind (f k)) q := by
  obtain ⟨K, h⟩ := h
  obtain ⟨K2, h2⟩ := h2
  refine ⟨max K K2, fun k hk => ?_⟩
  show (g k).bind (f k) = some q
  rw [h k (by omega)]
  exact h2 k (by omega)
theorem Al.congr {α : Type} {g g' : Nat → Option α} {r : α} (h : Al g r) (e : ∀ k, g' k = g k) : Al g' r := by
  obtain ⟨K, h⟩ := h
  exact ⟨K, fun k hk => (e k).trans (h k hk)⟩

/-! What a reading of a varint does. -/
def stepv (v c : Int) (i : Int) : Int := Go.bits .or .u64 v (shl .u64 (IntKind.u64.wrap (Go.bits .and .u8 c 127)) (IntKind.u64.wrap (7 * (IntKind.u64.wrap i))))
def us (l : List Int) : Nat → Int → Int → Int × Int × Int
  | 0, _, _ => (0, 0, 6)
  | d + 1, v, i => if (l.length : Int) ≤ i then (0, 0, 5) else if i = 9 ∧ 1 < rd l i then (0, 0, 6) else
    if rd l i < 128 then (if rd l i = 0 ∧ 0 < i then (0, 0, 6) else (stepv v (rd l i) i, i + 1, 0)) else us l d (stepv v (rd l i) i) (i + 1)

theorem and128 {c : Int} (h0 : 0 ≤ c) (h : c < 256) : Go.bits .and .u8 c 128 = if c < 128 then 0 else 128 := by
  obtain ⟨n, rfl⟩ := Int.eq_ofNat_of_zero_le h0
  have hn : n < 256 := by omega
  rw [show (128 : Int) = ((128 : Nat) : Int) from rfl, u8_and_nat n 128 hn (by decide)]
  have : ∀ n : Fin 256, n.val &&& 128 = if n.val < 128 then 0 else 128 := by decide +kernel
  have := this ⟨n, hn⟩
  simp only at this
  rw [this]
  by_cases h : n < 128
  · rw [if_pos h, if_pos (by omega)]; rfl
  · rw [if_neg h, if_neg (by omega)]

theorem codec_l0 {l : List Int} (hl : By l) (d : Nat) : ∀ (k : Nat) (v i : Int), 0 ≤ i → i + d = 10 → 2 * d + 1 ≤ k → codec_Uint.l0 k l v i = some (us l d v i) := by
  induction d with
  | zero =>
    intro k v i h0 hd hk
    obtain ⟨k, rfl⟩ : ∃ m, k = m + 1 := ⟨k - 1, by omega⟩
    simp only [codec_Uint.l0, us]
    rw [if_neg (by omega)]
  | succ d ih =>
    intro k v i h0 hd hk
    obtain ⟨k, rfl⟩ : ∃ m, k = m + 2 := ⟨k - 2, by omega⟩
    simp only [codec_Uint.l0, us]
    rw [if_pos (by omega)]
    by_cases h1 : (l.length : Int) ≤ i
    · rw [if_pos h1, if_pos h1]
    · rw [if_neg h1, if_neg h1, if_pos h0, if_pos (by omega)]
      have hc := hl.rd h0 (show i < (l.length : Int) by omega)
      have e1 : IntKind.u64.wrap (7 * IntKind.u64.wrap i) = 7 * i := by rw [u64w_id (n := i) h0 (by omega), u64w_id (by omega) (by omega)]
      have hw : wrap64 (i + 1) = i + 1 := w64_id (by omega) (by omega)
      have key : codec_Uint.j1 (k + 1) l v i (rd l i) false = some (if rd l i < 128 then (if rd l i = 0 ∧ 0 < i then (0, 0, 6) else (stepv v (rd l i) i, i + 1, 0)) else us l d (stepv v (rd l i) i) (i + 1)) := by
        simp only [codec_Uint.j1]
        rw [if_neg (by simp), if_pos (by omega), and128 hc.1 hc.2]
        by_cases h3 : rd l i < 128
        · rw [if_pos h3, if_pos rfl, if_pos h3]
          by_cases h4 : rd l i = 0
          · rw [if_pos h4]
            by_cases h5 : i > 0
            · rw [if_pos h5, if_pos ⟨h4, h5⟩]
            · rw [if_neg h5, if_neg (fun h => h5 h.2), hw]; rfl
          · rw [if_neg h4, if_neg (fun h => h4 h.1), hw]; rfl
        · rw [if_neg h3, if_neg (by omega), if_neg h3, hw]
          exact ih k _ _ (by omega) (by omega) (by omega)
      by_cases h2 : i = 9
      · rw [if_pos h2]
        by_cases h3 : rd l i > 1
        · rw [if_pos ⟨h2, h3⟩, decide_eq_true h3]; simp only [codec_Uint.j1]; rw [if_pos trivial]
        · rw [if_neg (fun h => h3 h.2), decide_eq_false h3]; exact key
      · rw [if_neg h2, if_neg (fun h => h2 h.1)]; exact key

def uint (l : List Int) : Int × Int × Int := us l 10 0 0
theorem codec_uint {l : List Int} (hl : By l) : Al (fun k => codec_Uint.f k l) (uint l) := ⟨21, fun k hk => codec_l0 hl 10 k 0 0 (by omega) (by omega) (by omega)⟩
/-! The checksum: what the loops compute. -/
def crc1 (x : Int) : Int := if Go.bits .and .u32 x 1 = 1 then Go.bits .xor .u32 (x / 2) 3988292384 else x / 2
def crcN : Nat → Int → Int
  | 0, x => x
  | n + 1, x => crcN n (crc1 x)
def crcL : List Int → Int → Int
  | [], x => x
  | b :: r, x => crcL r (crcN 8 (Go.bits .xor .u32 x (b % 4294967296)))
def sum (l : List Int) : Int := Go.bits .xor .u32 4294967295 (crcL l 4294967295)
theorem crc_l1 (l : List Int) (n : Nat) : ∀ (d k : Nat) (x i j : Int), 0 ≤ j → j + d = 8 → n + d + 1 ≤ k → codec_Checksum.l1 k x l (l.length : Int) i j = codec_Checksum.l0 (k - d - 1) (crcN d x) l (l.length : Int) (wrap64 (i + 1))
  | 0, k, x, i, j, h0, hj, hk => by
    obtain ⟨k, rfl⟩ : ∃ m, k = m + 1 := ⟨k - 1, by omega⟩
    simp only [codec_Checksum.l1, crcN]
    rw [if_neg (by omega)]; rfl
  | d + 1, k, x, i, j, h0, hj, hk => by
    obtain ⟨k, rfl⟩ : ∃ m, k = m + 1 := ⟨k - 1, by omega⟩
    simp only [codec_Checksum.l1, crcN, crc1]
    rw [if_pos (by omega), w64_id (n := j + 1) (by omega) (by omega)]
    have ih := fun y => crc_l1 l n d k y i (j + 1) (by omega) (by omega) (by omega)
    rw [show k + 1 - (d + 1) - 1 = k - d - 1 by omega]
    by_cases h : Go.bits .and .u32 x 1 = 1
    · rw [if_pos h, if_pos h]; exact ih _
    · rw [if_neg h, if_neg h]; exact ih _
theorem crc_l0 (l : List Int) (hl : l.length ≤ 140737488355328) (d : Nat) : ∀ (k : Nat) (x i : Int), 0 ≤ i → i + d = l.length → 10 * d + 1 ≤ k → codec_Checksum.l0 k x l (l.length : Int) i = some (Go.bits .xor .u32 4294967295 (crcL (l.drop i.toNat) x)) := by
  induction d with
  | zero =>
    intro k x i h0 hd hk
    obtain ⟨k, rfl⟩ : ∃ m, k = m + 1 := ⟨k - 1, by omega⟩
    simp only [codec_Checksum.l0]
    rw [if_neg (by omega), List.drop_eq_nil_of_le (by omega)]; rfl
  | succ d ih =>
    intro k x i h0 hd hk
    obtain ⟨k, rfl⟩ : ∃ m, k = m + 1 := ⟨k - 1, by omega⟩
    simp only [codec_Checksum.l0]
    have hi : i.toNat < l.length := by omega
    rw [if_pos (by omega), if_pos h0, if_pos (by omega), crc_l1 l (10 * d + 1) 8 k _ i 0 (by omega) (by omega) (by omega), w64_id (n := i + 1) (by omega) (by omega), ih _ _ _ (by omega) (by omega) (by omega)]
    rw [List.drop_eq_getElem_cons hi, show (i + 1).toNat = i.toNat + 1 by omega]
    simp only [crcL]
    rw [show rd l i = l[i.toNat] by simp [rd, List.getD_eq_getElem?_getD, List.getElem?_eq_getElem hi]]
theorem sum_al (l : List Int) (hl : l.length ≤ 140737488355328) : Al (fun k => codec_Checksum.f k l) (sum l) := ⟨10 * l.length + 1, fun k hk => by
  show codec_Checksum.l0 k 4294967295 l (l.length : Int) 0 = _
  rw [crc_l0 l hl l.length k _ 0 (by omega) (by omega) hk]; rfl⟩
theorem checksum_ends (l : List Int) (hl : l.length ≤ 140737488355328) : ∃ r, Al (fun k => codec_Checksum.f k l) r := ⟨_, sum_al l hl⟩
end Go.Proofs.Ytjdicbffpbpenaa.Pl
