import Derived.Test.YtjdicbffpbpenaaPo
namespace Go.Proofs.Ytjdicbffpbpenaa.Pl
open Go.RowKit Go.Proofs.Ytjdicbffpbpenaa.Y Go.Proofs.YtjdicbffpbpenaaW.PrintWords Go.Proofs.YtjdicbffpbpenaaW.PrintLast Go.Proofs.YtjdicbffpbpenaaW.PrintMore
set_option linter.unusedVariables false
set_option linter.unusedSimpArgs false

/-! The checksum as a machine of words of 32 bits. -/
def P32 : BitVec 32 := 0xEDB88320#32
def c1 (x : BitVec 32) : BitVec 32 := if x.getLsbD 0 = true then (x >>> 1) ^^^ P32 else x >>> 1
theorem c1_inj {x y : BitVec 32} (h : c1 x = c1 y) : x = y := by
  have hm : ∀ z : BitVec 32, (c1 z).getLsbD 31 = z.getLsbD 0 := by
    intro z
    unfold c1
    split
    · rename_i h0
      rw [h0, BitVec.getLsbD_xor, BitVec.getLsbD_ushiftRight, show P32.getLsbD 31 = true by decide]
      simp
    · rename_i h0
      rw [BitVec.getLsbD_ushiftRight]
      simp at h0 ⊢
      exact h0
  have h0 : x.getLsbD 0 = y.getLsbD 0 := by rw [← hm x, ← hm y, h]
  have hs : x >>> 1 = y >>> 1 := by
    unfold c1 at h
    by_cases hb : x.getLsbD 0 = true
    · rw [if_pos hb, if_pos (h0 ▸ hb)] at h
      have := congrArg (· ^^^ P32) h
      simpa [BitVec.xor_assoc] using this
    · rw [if_neg hb, if_neg (h0 ▸ hb)] at h
      exact h
  apply BitVec.eq_of_getLsbD_eq
  intro i hi
  rcases Nat.eq_zero_or_pos i with rfl | hp
  · exact h0
  · have := congrArg (fun z : BitVec 32 => z.getLsbD (i - 1)) hs
    simp only [BitVec.getLsbD_ushiftRight] at this
    rw [show 1 + (i - 1) = i by omega] at this
    exact this
theorem c1_lin {x z : BitVec 32} (hz : z.getLsbD 31 = false) : c1 (x ^^^ (z <<< 1)) = c1 x ^^^ z := by
  have h0 : (x ^^^ (z <<< 1)).getLsbD 0 = x.getLsbD 0 := by
    rw [BitVec.getLsbD_xor, BitVec.getLsbD_shiftLeft]
    simp
  have hs : (x ^^^ (z <<< 1)) >>> 1 = (x >>> 1) ^^^ z := by
    apply BitVec.eq_of_getLsbD_eq
    intro i hi
    rw [BitVec.getLsbD_xor, BitVec.getLsbD_ushiftRight, BitVec.getLsbD_ushiftRight, BitVec.getLsbD_xor, BitVec.getLsbD_shiftLeft]
    by_cases h31 : i = 31
    · subst h31
      rw [hz]
      simp
    · have : 1 + i < 32 := by omega
      simp [this]
  unfold c1
  rw [h0, hs]
  split
  · rw [BitVec.xor_assoc, BitVec.xor_assoc, BitVec.xor_comm z P32]
  · rfl
def cN : Nat → BitVec 32 → BitVec 32
  | 0, x => x
  | n + 1, x => cN n (c1 x)
theorem cN_inj (n : Nat) : ∀ {x y : BitVec 32}, cN n x = cN n y → x = y := by
  induction n with
  | zero => intro x y h; exact h
  | succ n ih => intro x y h; exact c1_inj (ih h)
theorem cN_add (m n : Nat) : ∀ x, cN (m + n) x = cN n (cN m x) := by
  induction m with
  | zero => intro x; simp [cN]
  | succ m ih => intro x; rw [show m + 1 + n = (m + n) + 1 by omega]; simp only [cN]; exact ih _
/-- n steps over a word that lies n places up. -/
theorem cN_lin (n : Nat) : ∀ (x z : BitVec 32), (∀ i, 32 ≤ i + n → z.getLsbD i = false) → cN n (x ^^^ (z <<< n)) = cN n x ^^^ z := by
  induction n with
  | zero => intro x z _; simp [cN]
  | succ n ih =>
    intro x z hz
    simp only [cN]
    have e : z <<< (n + 1) = (z <<< n) <<< 1 := by rw [BitVec.shiftLeft_add]
    rw [e, c1_lin, ih _ _ (fun i hi => hz i (by omega))]
    rw [BitVec.getLsbD_shiftLeft]
    by_cases h : 31 < n
    · simp [h]
    · rw [hz (31 - n) (by omega)]
      simp
def cL : List (BitVec 32) → BitVec 32 → BitVec 32
  | [], x => x
  | b :: r, x => cL r (cN 8 (x ^^^ b))
theorem cL_inj (l : List (BitVec 32)) : ∀ {x y : BitVec 32}, cL l x = cL l y → x = y := by
  induction l with
  | nil => intro x y h; exact h
  | cons b r ih =>
    intro x y h
    have := cN_inj 8 (ih h)
    have := congrArg (· ^^^ b) this
    simpa [BitVec.xor_assoc] using this
theorem cL_app (p q : List (BitVec 32)) : ∀ x, cL (p ++ q) x = cL q (cL p x) := by
  induction p with
  | nil => intro x; rfl
  | cons b r ih => intro x; exact ih _
/-- The word that a few bytes make. -/
def word : List (BitVec 32) → BitVec 32
  | [] => 0
  | b :: r => b ^^^ (word r <<< 8)
def Small (b : BitVec 32) : Prop := ∀ i, 8 ≤ i → b.getLsbD i = false
theorem word_small (l : List (BitVec 32)) (hs : ∀ b ∈ l, Small b) (i : Nat) : 8 * l.length ≤ i → (word l).getLsbD i = false := by
  induction l generalizing i with
  | nil => intro _; simp [word]
  | cons b r ih =>
    intro hi
    simp only [List.length_cons] at hi
    simp only [word]
    rw [BitVec.getLsbD_xor, hs b List.mem_cons_self i (by omega), BitVec.getLsbD_shiftLeft]
    rw [ih (fun b hb => hs b (List.mem_cons_of_mem _ hb)) (i - 8) (by omega)]
    simp
/-- Up to four bytes go in as one word. -/
theorem cL_word (l : List (BitVec 32)) (hs : ∀ b ∈ l, Small b) : l.length ≤ 4 → ∀ x, cL l x = cN (8 * l.length) (x ^^^ word l) := by
  induction l with
  | nil => intro _ x; simp [cL, cN, word]
  | cons b r ih =>
    intro h4 x
    simp only [List.length_cons] at h4
    have hs' := fun b hb => hs b (List.mem_cons_of_mem _ hb)
    simp only [cL, word, List.length_cons]
    rw [ih hs' (by omega), show 8 * (r.length + 1) = 8 + 8 * r.length by omega, cN_add, ← BitVec.xor_assoc, cN_lin]
    intro i hi
    exact word_small r hs' i (by omega)
theorem word_inj (l : List (BitVec 32)) : ∀ (m : List (BitVec 32)), l.length = m.length → l.length ≤ 4 → (∀ b ∈ l, Small b) → (∀ b ∈ m, Small b) → word l = word m → l = m := by
  induction l with
  | nil => intro m hl _ _ _ _; exact (List.eq_nil_of_length_eq_zero hl.symm).symm
  | cons b r ih =>
    intro m hl h4 hs ht h
    cases m with
    | nil => simp at hl
    | cons c q =>
      simp only [List.length_cons] at hl h4
      have hb : b = c := by
        apply BitVec.eq_of_getLsbD_eq
        intro i hi
        rcases Nat.lt_or_ge i 8 with h8 | h8
        · have := congrArg (fun z : BitVec 32 => z.getLsbD i) h
          simpa [word, BitVec.getLsbD_xor, BitVec.getLsbD_shiftLeft, h8] using this
        · rw [hs b List.mem_cons_self i h8, ht c List.mem_cons_self i h8]
      subst hb
      have hw : word r <<< 8 = word q <<< 8 := by
        have := congrArg (b ^^^ ·) h
        simpa [word, ← BitVec.xor_assoc] using this
      have hr : word r = word q := by
        apply BitVec.eq_of_getLsbD_eq
        intro i hi
        rcases Nat.lt_or_ge i 24 with h8 | h8
        · have := congrArg (fun z : BitVec 32 => z.getLsbD (i + 8)) hw
          simp only [BitVec.getLsbD_shiftLeft, show i + 8 < 32 by omega, show ¬ i + 8 < 8 by omega, decide_true, decide_false, Bool.not_false, Bool.true_and, Nat.add_sub_cancel] at this
          exact this
        · rw [word_small r (fun b hb => hs b (List.mem_cons_of_mem _ hb)) i (by omega), word_small q (fun b hb => ht b (List.mem_cons_of_mem _ hb)) i (by omega)]
      rw [ih q (by omega) (by omega) (fun b hb => hs b (List.mem_cons_of_mem _ hb)) (fun b hb => ht b (List.mem_cons_of_mem _ hb)) hr]
/-- Two texts that differ in at most four neighbouring bytes alone. -/
theorem burst (p l m q : List (BitVec 32)) (hl : l.length = m.length) (h4 : l.length ≤ 4) (hs : ∀ b ∈ l, Small b) (ht : ∀ b ∈ m, Small b) (x : BitVec 32) (h : cL (p ++ (l ++ q)) x = cL (p ++ (m ++ q)) x) : l = m := by
  rw [cL_app, cL_app p, cL_app, cL_app m] at h
  have h1 := cL_inj q h
  rw [cL_word l hs h4, cL_word m ht (by omega), hl] at h1
  have h2 := cN_inj _ h1
  refine word_inj l m hl h4 hs ht ?_
  have := congrArg (cL p x ^^^ ·) h2
  simpa [← BitVec.xor_assoc] using this

/-! The printed words are these. -/
def b32 (x : Int) : BitVec 32 := BitVec.ofInt 32 x
theorem toNat_b32 {x : Int} (h0 : 0 ≤ x) (h : x < 4294967296) : ((b32 x).toNat : Int) = x := by
  obtain ⟨n, rfl⟩ := Int.eq_ofNat_of_zero_le h0
  unfold b32
  rw [BitVec.ofInt_natCast, BitVec.toNat_ofNat]
  omega
theorem b32_inj {x y : Int} (h0 : 0 ≤ x) (h : x < 4294967296) (k0 : 0 ≤ y) (k : y < 4294967296) (e : b32 x = b32 y) : x = y := by
  rw [← toNat_b32 h0 h, ← toNat_b32 k0 k, e]
def Wd (x : Int) : Prop := 0 ≤ x ∧ x < 4294967296
theorem xor_wd {a b : Int} (ha : Wd a) (hb : Wd b) : Wd (Go.bits .xor .u32 a b) ∧ b32 (Go.bits .xor .u32 a b) = b32 a ^^^ b32 b := by
  obtain ⟨a0, a1⟩ := ha
  obtain ⟨b0, b1⟩ := hb
  obtain ⟨n, rfl⟩ := Int.eq_ofNat_of_zero_le a0
  obtain ⟨m, rfl⟩ := Int.eq_ofNat_of_zero_le b0
  rw [u32_xor_nat n m (by omega) (by omega)]
  have : n ^^^ m < 2 ^ 32 := Nat.xor_lt_two_pow (by omega) (by omega)
  refine ⟨⟨by omega, by omega⟩, ?_⟩
  apply BitVec.eq_of_toNat_eq
  unfold b32
  rw [BitVec.toNat_xor, BitVec.ofInt_natCast, BitVec.ofInt_natCast, BitVec.ofInt_natCast, BitVec.toNat_ofNat, BitVec.toNat_ofNat, BitVec.toNat_ofNat]
  rw [Nat.mod_eq_of_lt this, Nat.mod_eq_of_lt (by omega), Nat.mod_eq_of_lt (by omega)]
theorem half_wd {a : Int} (ha : Wd a) : Wd (a / 2) ∧ b32 (a / 2) = b32 a >>> 1 := by
  obtain ⟨a0, a1⟩ := ha
  obtain ⟨n, rfl⟩ := Int.eq_ofNat_of_zero_le a0
  refine ⟨⟨by omega, by omega⟩, ?_⟩
  apply BitVec.eq_of_toNat_eq
  unfold b32
  rw [show ((n : Int) / 2) = ((n / 2 : Nat) : Int) by omega, BitVec.toNat_ushiftRight, BitVec.ofInt_natCast, BitVec.ofInt_natCast, BitVec.toNat_ofNat, BitVec.toNat_ofNat, Nat.shiftRight_eq_div_pow]
  omega
theorem odd_wd {a : Int} (ha : Wd a) : (Go.bits .and .u32 a 1 = 1) ↔ (b32 a).getLsbD 0 = true := by
  obtain ⟨a0, a1⟩ := ha
  obtain ⟨n, rfl⟩ := Int.eq_ofNat_of_zero_le a0
  rw [show (1 : Int) = ((1 : Nat) : Int) from rfl, u32_and_nat n 1 (by omega) (by decide)]
  unfold b32
  rw [BitVec.ofInt_natCast, BitVec.getLsbD_ofNat]
  simp [Nat.testBit, Nat.and_one_is_mod]
  omega
theorem crc1_wd {x : Int} (hx : Wd x) : Wd (crc1 x) ∧ b32 (crc1 x) = c1 (b32 x) := by
  unfold crc1 c1
  obtain ⟨h1, h2⟩ := half_wd hx
  by_cases h : Go.bits .and .u32 x 1 = 1
  · rw [if_pos h, if_pos ((odd_wd hx).1 h), ← h2]
    exact xor_wd h1 ⟨by decide, by decide⟩
  · rw [if_neg h, if_neg (fun h' => h ((odd_wd hx).2 h'))]
    exact ⟨h1, h2⟩
theorem crcN_wd (n : Nat) : ∀ {x : Int}, Wd x → Wd (crcN n x) ∧ b32 (crcN n x) = cN n (b32 x) := by
  induction n with
  | zero => intro x hx; exact ⟨hx, rfl⟩
  | succ n ih =>
    intro x hx
    obtain ⟨h1, h2⟩ := crc1_wd hx
    obtain ⟨h3, h4⟩ := ih h1
    exact ⟨h3, by simp only [crcN, cN]; rw [h4, h2]⟩
theorem crcL_wd (l : List Int) : ∀ {x : Int}, By l → Wd x → Wd (crcL l x) ∧ b32 (crcL l x) = cL (l.map b32) (b32 x) := by
  induction l with
  | nil => intro x _ hx; exact ⟨hx, rfl⟩
  | cons b r ih =>
    intro x hb hx
    have hbb := hb b List.mem_cons_self
    have hbw : Wd b := ⟨hbb.1, by omega⟩
    obtain ⟨h1, h2⟩ := xor_wd hx hbw
    obtain ⟨h3, h4⟩ := crcN_wd 8 h1
    obtain ⟨h5, h6⟩ := ih (fun y hy => hb y (List.mem_cons_of_mem _ hy)) h3
    simp only [crcL, List.map_cons, cL]
    rw [show b % 4294967296 = b by omega]
    exact ⟨h5, by rw [h6, h4, h2]⟩
theorem sum_wd {l : List Int} (hl : By l) : Wd (sum l) := (xor_wd ⟨by decide, by decide⟩ (crcL_wd l hl ⟨by decide, by decide⟩).1).1
theorem small_b32 {x : Int} (h0 : 0 ≤ x) (h : x < 256) : Small (b32 x) := by
  obtain ⟨n, rfl⟩ := Int.eq_ofNat_of_zero_le h0
  intro i hi
  unfold b32
  rw [BitVec.ofInt_natCast, BitVec.getLsbD_ofNat]
  rw [Nat.testBit_lt_two_pow (show n < 2 ^ i from Nat.lt_of_lt_of_le (show n < 2 ^ 8 by omega) (Nat.pow_le_pow_right (by decide) hi))]
  simp
theorem map_b32_inj : ∀ {l m : List Int}, By l → By m → l.map b32 = m.map b32 → l = m
  | [], [], _, _, _ => rfl
  | [], _ :: _, _, _, h => by simp at h
  | _ :: _, [], _, _, h => by simp at h
  | a :: l, b :: m, hl, hm, h => by
    simp only [List.map_cons, List.cons.injEq] at h
    have ha := hl a List.mem_cons_self
    have hb := hm b List.mem_cons_self
    rw [b32_inj ha.1 (by omega) hb.1 (by omega) h.1, map_b32_inj (fun x hx => hl x (List.mem_cons_of_mem _ hx)) (fun x hx => hm x (List.mem_cons_of_mem _ hx)) h.2]
/-- Texts that differ in at most four neighbouring bytes have different checksums. -/
theorem sum_burst (p l m q : List Int) (hp : By p) (hl : By l) (hm : By m) (hq : By q) (hlen : l.length = m.length) (h4 : l.length ≤ 4) (h : sum (p ++ (l ++ q)) = sum (p ++ (m ++ q))) : l = m := by
  have w0 : Wd (4294967295 : Int) := ⟨by decide, by decide⟩
  have c1 := crcL_wd (p ++ (l ++ q)) (hp.app (hl.app hq)) w0
  have c2 := crcL_wd (p ++ (m ++ q)) (hp.app (hm.app hq)) w0
  have h1 := congrArg b32 h
  unfold sum at h1
  rw [(xor_wd w0 c1.1).2, (xor_wd w0 c2.1).2, c1.2, c2.2] at h1
  have h2 : cL ((p ++ (l ++ q)).map b32) (b32 4294967295) = cL ((p ++ (m ++ q)).map b32) (b32 4294967295) := by
    have := congrArg (b32 4294967295 ^^^ ·) h1
    simpa only [← BitVec.xor_assoc, BitVec.xor_self, BitVec.zero_xor] using this
  simp only [List.map_append] at h2
  refine map_b32_inj hl hm (burst _ _ _ _ (by simpa using hlen) (by simpa using h4) ?_ ?_ _ h2)
  · intro b hb
    obtain ⟨x, hx, rfl⟩ := List.mem_map.1 hb
    exact small_b32 (hl x hx).1 (hl x hx).2
  · intro b hb
    obtain ⟨x, hx, rfl⟩ := List.mem_map.1 hb
    exact small_b32 (hm x hx).1 (hm x hx).2
theorem rd_app2 {p q : List Int} {i : Int} {j : Nat} (h : i = p.length + j) : rd (p ++ q) i = rd q (j : Int) := by
  subst h
  simp only [rd, List.getD_eq_getElem?_getD]
  rw [show ((p.length : Int) + (j : Int)).toNat = p.length + j by omega, List.getElem?_append_right (by omega)]
  simp
end Go.Proofs.Ytjdicbffpbpenaa.Pl
