-- Laid by a program of this session's (xprint.py, which runs the kit's print.py with patches of its own). Lean checks it.
import Derived.Test.YtjdicbffpbpenaaY0
namespace Go.Proofs.Ytjdicbffpbpenaa.Y
open Go.RowKit Go.Proofs.YtjdicbffpbpenaaW.PrintWords Go.Proofs.YtjdicbffpbpenaaW.PrintLast Go.Proofs.YtjdicbffpbpenaaW.PrintMore
attribute [local go_sem] max2_int min2_int max_two min_two max_three min_three max_four min_four   -- for this text's walks alone
set_option linter.unusedVariables false
set_option linter.unusedSimpArgs false

/-! ### stable_number: function 26 -/
def stable_number.f (a0 : Bool) : Option (Int) := if a0 = true then (some 1) else (some 0)
set_option maxHeartbeats 8000000 in
set_option maxRecDepth 100000 in
theorem stable_number.calls (a0 : Bool) (r : Int) (w : World) (h : stable_number.f a0 = some r) :
  Calls Try.prog 26 #[.bool a0] w fun e w' => e = .returned (.int .i64 r) ∧ Drawn0 w w' := by
 have H : (if a0 = true then (some 1) else (some 0)) = some r := h
 clear h
 by_cases c2 : a0 = true
 ·subst c2
  have H1 : (some 1) = some r := by rw [if_pos rfl] at H; exact H
  clear H
  have H := H1
  clear H1
  obtain rfl := Option.some.inj H
  go_enter Try.func26, Try.ntmps26
  go_wp2
  go_ret
  exact ⟨by first | rfl | (simp; done) | (simp [*]; done), by repeat (first | exact Drawn0.refl _ | apply Drawn0.step)⟩
 ·replace c2 := Bool.eq_false_iff.mpr c2
  subst c2
  have H1 : (some 0) = some r := by rw [if_neg (show ¬ (false = true) by decide)] at H; exact H
  clear H
  have H := H1
  clear H1
  obtain rfl := Option.some.inj H
  go_enter Try.func26, Try.ntmps26
  go_wp2
  go_ret
  exact ⟨by first | rfl | (simp; done) | (simp [*]; done), by repeat (first | exact Drawn0.refl _ | apply Drawn0.step)⟩

/-! ### slices_Clone_byte_byte: function 25 -/
def slices_Clone_byte_byte.f (l0 : List Int) : Option (List Int) := if l0.length < 140737488355328 then (some l0) else (none)
set_option maxHeartbeats 8000000 in
theorem slices_Clone_byte_byte.calls (A0 : Option Addr) (c0 : Nat) (l0 : List Int) (r : List Int) (w : World) (hr0 : Kd.C (Kd.int .u8) w A0 l0.length l0) (hc0 : l0.length ≤ c0) (h : slices_Clone_byte_byte.f l0 = some r) :
  Calls Try.prog 25 #[.slice A0 l0.length c0] w fun e w' => ∃ v0_ : Value, e = .returned (v0_) ∧ Kd.R (Kd.int .u8) 5 w' w.heap.size (fun _ => True) v0_ r ∧ Below w.heap.size w w' := by
 unfold slices_Clone_byte_byte.f at h
 by_cases h1 : l0.length < 140737488355328
 ·rw [if_pos h1] at h
  injection h with h
  subst h
  have HR0 := Aside0.mk hr0
  have HL := Aside0.mk h1
  clear hr0 h1
  have q22 := fun (w : World) (a : Option Addr) (n c : Nat) => Go.run_eql_slice_nil (P := Try.prog) w 22 5 a n c Try.underlying22
  cases A0 with
  | none =>
   have hn : l0 = [] := by
    rcases HR0.out with ⟨_, _, h3⟩
    cases l0 with
    | nil => rfl
    | cons a t => obtain ⟨ad, e, _⟩ := h3 (by simp); cases e
   subst hn
   go_enter Try.func25, Try.ntmps25
   go_wp2
   go_ret
   exact ⟨_, rfl, Kd.R_nil _ _ _ _ _, Below.refl _ _⟩
  | some ad =>
   go_enter Try.func25, Try.ntmps25
   go_wp2_with (first | ((with_reducible refine gate_dst (N := 5) rfl ?_); refine Kd.R_lit (Kd.int .u8) _ 5 ?hg (N := 5) ?hd (xs := []) (inner := []) (ok := fun _ => True) (okp := fun _ => True) ?hr ?hp (fun _ hk => hk) trivial (Below.refl _ _) (Nat.le_refl _) (by simp) ?_; (case hd => rfl); (case hg => rfl); (case hr => first | (go_simp; done) | (go_simp; rfl)); (case hp => exact (Reps.none _ _)); intro v1 w1 ho hb hg_ hnew_; have HO := Aside0.mk ho; have HB := Aside0.mk hb; clear ho hb hg_ hnew_) | ((with_reducible refine gate_builtin (b := .append) (xs := #[.tmp 5, .tmp 6]) rfl ?_); at_builtin; refine Kd.R_append_rows (Kd.int .u8) (w0 := w) w.heap.size rfl (.tmp 5) (.tmp 6) 22 5 (.int .u8 0) 1 rfl Try.underlying22 info5 rfl (by decide) (by omega) v1 [] l0 _ _ _ (fun _ => True) (fun _ => False) rfl rfl ?aO ?aR (fun _ _ h => h) (fun _ h => h.elim) ?aF ?aB ?aS ?aL ?_; (case aR => exact (Kd.C_below HR0.out HB.out)); (case aO => exact HO.out); (case aF => exact fun _ _ => trivial); (case aB => exact HB.out); (case aS => exact below_size HB.out); (case aL => have := HL.out; simp; omega); intro v2 w2 ho2 hb2 hg hat; rw [List.nil_append] at ho2; have HO2 := Aside0.mk ho2; have HB2 := Aside0.mk hb2; clear ho2 hb2 hg hat))
   go_ret
   exact ⟨_, rfl, HO2.out, HB2.out⟩
 ·rw [if_neg h1] at h; cases h


/-! ### codec_Checksum: function 31 -/
mutual
def codec_Checksum.l0 : Nat → Int → List Int → Int → Int → Option (Int)
 | 0, _, _, _, _ => none
 | k + 1, x3, x6, x7, x8 => if x8 < x7 then (if 0 ≤ x8 then (if x8 < (x6.length : Int) then (codec_Checksum.l1 k (Go.bits .xor .u32 x3 ((rd x6 x8) % 4294967296)) x6 x7 x8 0) else (none)) else (none)) else (some (Go.bits .xor .u32 4294967295 x3))
def codec_Checksum.l1 : Nat → Int → List Int → Int → Int → Int → Option (Int)
 | 0, _, _, _, _, _ => none
 | k + 1, x3, x6, x7, x8, x16 => if x16 < 8 then (if (Go.bits .and .u32 x3 1) = 1 then (codec_Checksum.l1 k (Go.bits .xor .u32 (x3 / 2) 3988292384) x6 x7 x8 (wrap64 (x16 + 1))) else (codec_Checksum.l1 k (x3 / 2) x6 x7 x8 (wrap64 (x16 + 1)))) else (codec_Checksum.l0 k x3 x6 x7 (wrap64 (x8 + 1)))
end
def codec_Checksum.f (k : Nat) (l0 : List Int) : Option (Int) := codec_Checksum.l0 k 4294967295 l0 (l0.length : Int) 0
theorem codec_Checksum.mono_l : ∀ k, (∀ y0 y1 y2 y3, LeO (codec_Checksum.l0 k y0 y1 y2 y3) (codec_Checksum.l0 (k + 1) y0 y1 y2 y3)) ∧ (∀ y0 y1 y2 y3 y4, LeO (codec_Checksum.l1 k y0 y1 y2 y3 y4) (codec_Checksum.l1 (k + 1) y0 y1 y2 y3 y4))
 | 0 => ⟨fun _ _ _ _ r h => by simp [codec_Checksum.l0] at h, fun _ _ _ _ _ r h => by simp [codec_Checksum.l1] at h⟩
 | k + 1 => by
  obtain ⟨ih0, ih1⟩ := codec_Checksum.mono_l k
  refine ⟨?_, ?_⟩
  ·intro y0 y1 y2 y3
   unfold codec_Checksum.l0
   repeat' first
   | (with_reducible exact ih0 _ _ _ _)
   | (with_reducible exact ih1 _ _ _ _ _)
   | (with_reducible exact LeO.refl _)
   | (with_reducible exact LeO.none _)
   | (with_reducible refine LeO.ite ?_ ?_)
   | (with_reducible refine LeO.bind ?_ (fun _ => ?_))
   | exact ih0 _ _ _ _
   | exact ih1 _ _ _ _ _
   | exact LeO.none _
   | refine LeO.ite ?_ ?_
   | refine LeO.bind ?_ (fun _ => ?_)
  ·intro y0 y1 y2 y3 y4
   unfold codec_Checksum.l1
   repeat' first
   | (with_reducible exact ih0 _ _ _ _)
   | (with_reducible exact ih1 _ _ _ _ _)
   | (with_reducible exact LeO.refl _)
   | (with_reducible exact LeO.none _)
   | (with_reducible refine LeO.ite ?_ ?_)
   | (with_reducible refine LeO.bind ?_ (fun _ => ?_))
   | exact ih0 _ _ _ _
   | exact ih1 _ _ _ _ _
   | exact LeO.none _
   | refine LeO.ite ?_ ?_
   | refine LeO.bind ?_ (fun _ => ?_)
theorem codec_Checksum.mono : ∀ a0 k, LeO (codec_Checksum.f k a0) (codec_Checksum.f (k + 1) a0) := by
 intro a0 k
 obtain ⟨ih0, ih1⟩ := codec_Checksum.mono_l k
 unfold codec_Checksum.f
 repeat' first
   | (with_reducible exact ih0 _ _ _ _)
   | (with_reducible exact ih1 _ _ _ _ _)
   | (with_reducible exact LeO.refl _)
   | (with_reducible exact LeO.none _)
   | (with_reducible refine LeO.ite ?_ ?_)
   | (with_reducible refine LeO.bind ?_ (fun _ => ?_))
   | exact ih0 _ _ _ _
   | exact ih1 _ _ _ _ _
   | exact LeO.none _
   | refine LeO.ite ?_ ?_
   | refine LeO.bind ?_ (fun _ => ?_)
set_option maxHeartbeats 8000000 in
set_option maxRecDepth 100000 in
theorem codec_Checksum.calls (k : Nat) (A0 : Option Addr) (c0 : Nat) (l0 : List Int) (r : Int) (w : World) (hr0 : Kd.C (Kd.int .u8) w A0 l0.length l0) (hc0 : l0.length ≤ c0) (h : codec_Checksum.f k l0 = some r) :
  Calls Try.prog 31 #[.slice A0 l0.length c0] w fun e w' => e = .returned (.int .u32 r) ∧ Drawn0 w w' := by
 have HR0 := Aside0.mk hr0
 have HC0 := Aside0.mk hc0
 clear hr0 hc0
 have H : (codec_Checksum.l0 k 4294967295 l0 (l0.length : Int) 0) = some r := h
 clear h
 have H' := Aside0.mk H
 clear H
 go_enter Try.func31, Try.ntmps31
 go_wp2
 go_loopg [3, 8] k (fun kq v3 v8 w' => ∃ (x3_1 : Int) (x8_1 : Int), v3 = .int .u32 x3_1 ∧ v8 = .int .i64 x8_1 ∧ Aside0 (codec_Checksum.l0 kq x3_1 l0 (l0.length : Int) x8_1 = some r) ∧ Aside0 (kq ≤ k) ∧ Drawn0 w w')
 case atStart => exact ⟨(4294967295), (0), (by first | rfl | (simp; done) | (simp [*]; done)), (by first | rfl | (simp; done) | (simp [*]; done)), H', ⟨Nat.le_refl _⟩, by repeat (first | exact Drawn0.refl _ | apply Drawn0.step)⟩
 case round =>
  clear H'
  obtain ⟨x3_1, x8_1, rfl, rfl, HA, HK1, ⟨m1, rfl⟩⟩ := hrel
  cases gk with
  | zero => exact absurd HA.out (by simp [codec_Checksum.l0])
  | succ k1 =>
   have H := HA.out
   clear HA
   simp only [codec_Checksum.l0] at H
   by_cases c2 : x8_1 < (l0.length : Int)
   ·rw [if_pos c2] at H
    have c2b0 : decide (x8_1 < (l0.length : Int)) = true := decide_eq_true c2
    clear c2
    by_cases c3 : 0 ≤ x8_1
    ·rw [if_pos c3] at H
     have c3b0 : decide (0 ≤ x8_1) = true := decide_eq_true c3
     clear c3
     by_cases c4 : x8_1 < (l0.length : Int)
     ·rw [if_pos c4] at H
      have c4b0 : decide (x8_1 < (l0.length : Int)) = true := decide_eq_true c4
      clear c4
      have H' := Aside0.mk H
      clear H
      have p101 : 0 ≤ (x8_1 : Int) := of_decide_eq_true (by first | (with_reducible assumption) | assumption)
      have q101 : x8_1 < (l0.length : Int) := of_decide_eq_true (by first | (with_reducible assumption) | assumption)
      obtain ⟨ad101, e101, hx101_0⟩ := Kd.at_int HR0.out x8_1 p101 q101
      cases e101
      replace p101 := eq_true p101
      replace q101 := eq_true q101
      go_wp2
      go_loopg [3, 16] k1 (fun kq v3 v16 w' => ∃ (x3_2 : Int) (x16_2 : Int), v3 = .int .u32 x3_2 ∧ v16 = .int .i64 x16_2 ∧ Aside0 (codec_Checksum.l1 kq x3_2 l0 (l0.length : Int) x8_1 x16_2 = some r) ∧ Aside0 (kq ≤ k1) ∧ Drawn0 w w')
      case atStart => exact ⟨(Go.bits .xor .u32 x3_1 ((rd l0 x8_1) % 4294967296)), (0), (by first | rfl | (simp; done) | (simp [*]; done)), (by first | rfl | (simp; done) | (simp [*]; done)), H', ⟨Nat.le_refl _⟩, by repeat (first | exact Drawn0.refl _ | apply Drawn0.step)⟩
      case round =>
       clear H'
       try clear p1
       try clear q1
       try clear hx1
       try clear c2
       try clear c2b0
       try clear p2
       try clear c3
       try clear c3b0
       try clear c4
       try clear c4b0
       try clear hx101_0
       try clear p101
       try clear q101
       obtain ⟨x3_2, x16_2, rfl, rfl, HA, HK2, ⟨m2, rfl⟩⟩ := hrel
       cases gk with
       | zero => exact absurd HA.out (by simp [codec_Checksum.l1])
       | succ k2 =>
        have H := HA.out
        clear HA
        simp only [codec_Checksum.l1] at H
        by_cases c5 : x16_2 < 8
        ·rw [if_pos c5] at H
         have c5b0 : decide (x16_2 < 8) = true := decide_eq_true c5
         clear c5
         by_cases c6 : (Go.bits .and .u32 x3_2 1) = 1
         ·rw [if_pos c6] at H
          have c6b0 : ((Go.bits .and .u32 x3_2 1) == 1) = true := beq_iff_eq.mpr c6
          have c6b1 : ((Go.bits .and .u32 x3_2 1) != 1) = false := bne_eq_false_iff_eq.mpr c6
          clear c6
          have H' := Aside0.mk H
          clear H
          go_wp2
          go_roundg k2
          case measure => have := HK1.out; have := HK2.out; omega
          case rel => exact ⟨(Go.bits .xor .u32 (x3_2 / 2) 3988292384), (wrap64 (x16_2 + 1)), (by first | rfl | (simp; done) | (simp [*]; done)), (by first | rfl | (simp; done) | (simp [*]; done)), H', ⟨by have := HK1.out; have := HK2.out; omega⟩, by repeat (first | exact Drawn0.refl _ | apply Drawn0.step)⟩
         ·rw [if_neg c6] at H
          have c6b0 : ((Go.bits .and .u32 x3_2 1) == 1) = false := beq_eq_false_iff_ne.mpr c6
          have c6b1 : ((Go.bits .and .u32 x3_2 1) != 1) = true := bne_iff_ne.mpr c6
          have H' := Aside0.mk H
          clear H
          go_wp2
          go_roundg k2
          case measure => have := HK1.out; have := HK2.out; omega
          case rel => exact ⟨(x3_2 / 2), (wrap64 (x16_2 + 1)), (by first | rfl | (simp; done) | (simp [*]; done)), (by first | rfl | (simp; done) | (simp [*]; done)), H', ⟨by have := HK1.out; have := HK2.out; omega⟩, by repeat (first | exact Drawn0.refl _ | apply Drawn0.step)⟩
        ·rw [if_neg c5] at H
         have c5b0 : decide (x16_2 < 8) = false := decide_eq_false c5
         clear c5
         have H' := Aside0.mk H
         clear H
         go_wp2
         go_roundg k2
         case measure => have := HK1.out; have := HK2.out; omega
         case rel => exact ⟨(x3_2), (wrap64 (x8_1 + 1)), (by first | rfl | (simp; done) | (simp [*]; done)), (by first | rfl | (simp; done) | (simp [*]; done)), H', ⟨by have := HK1.out; have := HK2.out; omega⟩, by repeat (first | exact Drawn0.refl _ | apply Drawn0.step)⟩
     ·rw [if_neg c4] at H
      exact absurd H (by simp)
    ·rw [if_neg c3] at H
     exact absurd H (by simp)
   ·rw [if_neg c2] at H
    have c2b0 : decide (x8_1 < (l0.length : Int)) = false := decide_eq_false c2
    clear c2
    obtain rfl := Option.some.inj H
    go_wp2
    go_ret
    exact ⟨by first | rfl | (simp; done) | (simp [*]; done), by repeat (first | exact Drawn0.refl _ | apply Drawn0.step)⟩

/-! ### codec_Uint: function 36 -/
mutual
def codec_Uint.l0 : Nat → List Int → Int → Int → Option (Int × Int × Int)
 | 0, _, _, _ => none
 | k + 1, x0, x5, x6 => if x6 < 10 then (if x6 ≥ (x0.length : Int) then (some (0, 0, 5)) else (if 0 ≤ x6 then (if x6 < (x0.length : Int) then (if x6 = 9 then (codec_Uint.j1 k x0 x5 x6 (rd x0 x6) (decide ((rd x0 x6) > 1))) else (codec_Uint.j1 k x0 x5 x6 (rd x0 x6) false)) else (none)) else (none))) else (some (0, 0, 6))
def codec_Uint.j1 : Nat → List Int → Int → Int → Int → Bool → Option (Int × Int × Int)
 | 0, _, _, _, _, _ => none
 | k + 1, x0, x5, x6, x7, x25 => if x25 = true then (some (0, 0, 6)) else (if 0 ≤ (IntKind.u64.wrap (7 * (IntKind.u64.wrap (x6)))) then (if (Go.bits .and .u8 x7 128) = 0 then (if x7 = 0 then (if x6 > 0 then (some (0, 0, 6)) else (some (Go.bits .or .u64 x5 (shl .u64 (IntKind.u64.wrap (Go.bits .and .u8 x7 127)) (IntKind.u64.wrap (7 * (IntKind.u64.wrap (x6))))), wrap64 (x6 + 1), 0))) else (some (Go.bits .or .u64 x5 (shl .u64 (IntKind.u64.wrap (Go.bits .and .u8 x7 127)) (IntKind.u64.wrap (7 * (IntKind.u64.wrap (x6))))), wrap64 (x6 + 1), 0))) else (codec_Uint.l0 k x0 (Go.bits .or .u64 x5 (shl .u64 (IntKind.u64.wrap (Go.bits .and .u8 x7 127)) (IntKind.u64.wrap (7 * (IntKind.u64.wrap (x6)))))) (wrap64 (x6 + 1)))) else (none))
end
def codec_Uint.f (k : Nat) (l0 : List Int) : Option (Int × Int × Int) := codec_Uint.l0 k l0 0 0
theorem codec_Uint.mono_l : ∀ k, (∀ y0 y1 y2, LeO (codec_Uint.l0 k y0 y1 y2) (codec_Uint.l0 (k + 1) y0 y1 y2)) ∧ (∀ y0 y1 y2 y3 y4, LeO (codec_Uint.j1 k y0 y1 y2 y3 y4) (codec_Uint.j1 (k + 1) y0 y1 y2 y3 y4))
 | 0 => ⟨fun _ _ _ r h => by simp [codec_Uint.l0] at h, fun _ _ _ _ _ r h => by simp [codec_Uint.j1] at h⟩
 | k + 1 => by
  obtain ⟨ih0, ih1⟩ := codec_Uint.mono_l k
  refine ⟨?_, ?_⟩
  ·intro y0 y1 y2
   unfold codec_Uint.l0
   repeat' first
   | (with_reducible exact ih0 _ _ _)
   | (with_reducible exact ih1 _ _ _ _ _)
   | (with_reducible exact LeO.refl _)
   | (with_reducible exact LeO.none _)
   | (with_reducible refine LeO.ite ?_ ?_)
   | (with_reducible refine LeO.bind ?_ (fun _ => ?_))
   | exact ih0 _ _ _
   | exact ih1 _ _ _ _ _
   | exact LeO.none _
   | refine LeO.ite ?_ ?_
   | refine LeO.bind ?_ (fun _ => ?_)
  ·intro y0 y1 y2 y3 y4
   unfold codec_Uint.j1
   repeat' first
   | (with_reducible exact ih0 _ _ _)
   | (with_reducible exact ih1 _ _ _ _ _)
   | (with_reducible exact LeO.refl _)
   | (with_reducible exact LeO.none _)
   | (with_reducible refine LeO.ite ?_ ?_)
   | (with_reducible refine LeO.bind ?_ (fun _ => ?_))
   | exact ih0 _ _ _
   | exact ih1 _ _ _ _ _
   | exact LeO.none _
   | refine LeO.ite ?_ ?_
   | refine LeO.bind ?_ (fun _ => ?_)
theorem codec_Uint.mono : ∀ a0 k, LeO (codec_Uint.f k a0) (codec_Uint.f (k + 1) a0) := by
 intro a0 k
 obtain ⟨ih0, ih1⟩ := codec_Uint.mono_l k
 unfold codec_Uint.f
 repeat' first
   | (with_reducible exact ih0 _ _ _)
   | (with_reducible exact ih1 _ _ _ _ _)
   | (with_reducible exact LeO.refl _)
   | (with_reducible exact LeO.none _)
   | (with_reducible refine LeO.ite ?_ ?_)
   | (with_reducible refine LeO.bind ?_ (fun _ => ?_))
   | exact ih0 _ _ _
   | exact ih1 _ _ _ _ _
   | exact LeO.none _
   | refine LeO.ite ?_ ?_
   | refine LeO.bind ?_ (fun _ => ?_)
set_option maxHeartbeats 8000000 in
set_option maxRecDepth 100000 in
theorem codec_Uint.calls (k : Nat) (A0 : Option Addr) (c0 : Nat) (l0 : List Int) (r1 : Int) (r2 : Int) (r3 : Int) (w : World) (hr0 : Kd.C (Kd.int .u8) w A0 l0.length l0) (hc0 : l0.length ≤ c0) (h : codec_Uint.f k l0 = some (r1, r2, r3)) :
  Calls Try.prog 36 #[.slice A0 l0.length c0] w fun e w' => e = .returned (.tuple #[.int .u64 r1, .int .i64 r2, .int .i64 r3]) ∧ Drawn0 w w' := by
 have HR0 := Aside0.mk hr0
 have HC0 := Aside0.mk hc0
 clear hr0 hc0
 have H : (codec_Uint.l0 k l0 0 0) = some (r1, r2, r3) := h
 clear h
 have H' := Aside0.mk H
 clear H
 go_enter Try.func36, Try.ntmps36
 go_wp2
 go_loopg [5, 6] k (fun kq v5 v6 w' => ∃ (x5_1 : Int) (x6_1 : Int), v5 = .int .u64 x5_1 ∧ v6 = .int .i64 x6_1 ∧ Aside0 (codec_Uint.l0 kq l0 x5_1 x6_1 = some (r1, r2, r3)) ∧ Aside0 (kq ≤ k) ∧ Drawn0 w w')
 case atStart => exact ⟨(0), (0), (by first | rfl | (simp; done) | (simp [*]; done)), (by first | rfl | (simp; done) | (simp [*]; done)), H', ⟨Nat.le_refl _⟩, by repeat (first | exact Drawn0.refl _ | apply Drawn0.step)⟩
 case round =>
  clear H'
  obtain ⟨x5_1, x6_1, rfl, rfl, HA, HK1, ⟨m1, rfl⟩⟩ := hrel
  cases gk with
  | zero => exact absurd HA.out (by simp [codec_Uint.l0])
  | succ k1 =>
   have H := HA.out
   clear HA
   simp only [codec_Uint.l0] at H
   by_cases c2 : x6_1 < 10
   ·rw [if_pos c2] at H
    have c2b0 : decide (x6_1 < 10) = true := decide_eq_true c2
    clear c2
    by_cases c3 : x6_1 ≥ (l0.length : Int)
    ·rw [if_pos c3] at H
     have c3b0 : decide ((l0.length : Int) ≤ x6_1) = true := decide_eq_true c3
     clear c3
     simp only [Option.some.injEq, Prod.mk.injEq] at H
     obtain ⟨rfl, rfl, rfl⟩ := H
     go_wp2
     go_ret3
     exact ⟨by first | rfl | (simp; done) | (simp [*]; done), by repeat (first | exact Drawn0.refl _ | apply Drawn0.step)⟩
    ·rw [if_neg c3] at H
     have c3b0 : decide ((l0.length : Int) ≤ x6_1) = false := decide_eq_false c3
     clear c3
     by_cases c4 : 0 ≤ x6_1
     ·rw [if_pos c4] at H
      have c4b0 : decide (0 ≤ x6_1) = true := decide_eq_true c4
      clear c4
      by_cases c5 : x6_1 < (l0.length : Int)
      ·rw [if_pos c5] at H
       have c5b0 : decide (x6_1 < (l0.length : Int)) = true := decide_eq_true c5
       clear c5
       have HC6 := Aside0.mk H
       clear H
       have p102 : 0 ≤ (x6_1 : Int) := of_decide_eq_true (by first | (with_reducible assumption) | assumption)
       have q102 : x6_1 < (l0.length : Int) := of_decide_eq_true (by first | (with_reducible assumption) | assumption)
       obtain ⟨ad102, e102, hx102_0⟩ := Kd.at_int HR0.out x6_1 p102 q102
       cases e102
       replace p102 := eq_true p102
       replace q102 := eq_true q102
       go_upto_region 8 with (fail)
       go_cut [25] (fun v25 wc => ∃ (kq : Nat) (x25_5 : Bool), v25 = .bool x25_5 ∧ Aside0 (codec_Uint.j1 kq l0 x5_1 x6_1 (rd l0 x6_1) x25_5 = some (r1, r2, r3)) ∧ Aside0 (kq ≤ k1) ∧ Drawn0 w wc)
       case first =>
        have H := HC6.out
        clear HC6
        by_cases c7 : x6_1 = 9
        ·rw [if_pos c7] at H
         have c7b0 : (x6_1 == 9) = true := beq_iff_eq.mpr c7
         have c7b1 : (x6_1 != 9) = false := bne_eq_false_iff_eq.mpr c7
         clear c7
         (first | rw [c7b0] | (simp only [i64_w, i32_w]; rw [c7b0]) | skip)
         have H' := Aside0.mk H
         clear H
         go_wp2
         go_meet
         case rel => exact ⟨_, (decide ((rd l0 x6_1) > 1)), (by first | rfl | (simp; done) | (simp [*]; done)), H', ⟨by have := HK1.out; first | omega | exact Nat.le_refl _⟩, by repeat (first | exact Drawn0.refl _ | apply Drawn0.step)⟩
        ·rw [if_neg c7] at H
         have c7b0 : (x6_1 == 9) = false := beq_eq_false_iff_ne.mpr c7
         have c7b1 : (x6_1 != 9) = true := bne_iff_ne.mpr c7
         (first | rw [c7b0] | (simp only [i64_w, i32_w]; rw [c7b0]) | skip)
         have H' := Aside0.mk H
         clear H
         go_wp2
         go_meet
         case rel => exact ⟨_, (false), (by first | rfl | (simp; done) | (simp [*]; done)), H', ⟨by have := HK1.out; first | omega | exact Nat.le_refl _⟩, by repeat (first | exact Drawn0.refl _ | apply Drawn0.step)⟩
       case rest =>
        clear HC6
        try clear p1
        try clear q1
        try clear hx1
        try clear c2
        try clear c2b0
        try clear p2
        try clear c3
        try clear c3b0
        try clear c4
        try clear c4b0
        try clear c5
        try clear c5b0
        try clear c7
        try clear c7b0
        try clear c7b1
        try clear hx102_0
        try clear p102
        try clear q102
        obtain ⟨kq, x25_5, rfl, HA, HJ5, ⟨mc5, rfl⟩⟩ := hcut
        cases kq with
        | zero => exact absurd HA.out (by simp [codec_Uint.j1])
        | succ kj5 =>
         have H := HA.out
         clear HA
         simp only [codec_Uint.j1] at H
         by_cases c8 : x25_5 = true
         ·subst c8
          have H1 : (some (0, 0, 6)) = some (r1, r2, r3) := by rw [if_pos rfl] at H; exact H
          clear H
          have H := H1
          clear H1
          simp only [Option.some.injEq, Prod.mk.injEq] at H
          obtain ⟨rfl, rfl, rfl⟩ := H
          go_wp2
          go_ret3
          exact ⟨by first | rfl | (simp; done) | (simp [*]; done), by repeat (first | exact Drawn0.refl _ | apply Drawn0.step)⟩
         ·replace c8 := Bool.eq_false_iff.mpr c8
          subst c8
          have H1 : (if 0 ≤ (IntKind.u64.wrap (7 * (IntKind.u64.wrap (x6_1)))) then (if (Go.bits .and .u8 (rd l0 x6_1) 128) = 0 then (if (rd l0 x6_1) = 0 then (if x6_1 > 0 then (some (0, 0, 6)) else (some (Go.bits .or .u64 x5_1 (shl .u64 (IntKind.u64.wrap (Go.bits .and .u8 (rd l0 x6_1) 127)) (IntKind.u64.wrap (7 * (IntKind.u64.wrap (x6_1))))), wrap64 (x6_1 + 1), 0))) else (some (Go.bits .or .u64 x5_1 (shl .u64 (IntKind.u64.wrap (Go.bits .and .u8 (rd l0 x6_1) 127)) (IntKind.u64.wrap (7 * (IntKind.u64.wrap (x6_1))))), wrap64 (x6_1 + 1), 0))) else (codec_Uint.l0 kj5 l0 (Go.bits .or .u64 x5_1 (shl .u64 (IntKind.u64.wrap (Go.bits .and .u8 (rd l0 x6_1) 127)) (IntKind.u64.wrap (7 * (IntKind.u64.wrap (x6_1)))))) (wrap64 (x6_1 + 1)))) else (none)) = some (r1, r2, r3) := by rw [if_neg (show ¬ (false = true) by decide)] at H; exact H
          clear H
          have H := H1
          clear H1
          obtain ⟨ji9, hji9⟩ : ∃ j_ : Int, (IntKind.u64.wrap (7 * (IntKind.u64.wrap (x6_1)))) = j_ := ⟨_, rfl⟩
          replace H : (if 0 ≤ (ji9) then (if (Go.bits .and .u8 (rd l0 x6_1) 128) = 0 then (if (rd l0 x6_1) = 0 then (if x6_1 > 0 then (some (0, 0, 6)) else (some (Go.bits .or .u64 x5_1 (shl .u64 (IntKind.u64.wrap (Go.bits .and .u8 (rd l0 x6_1) 127)) (ji9)), wrap64 (x6_1 + 1), 0))) else (some (Go.bits .or .u64 x5_1 (shl .u64 (IntKind.u64.wrap (Go.bits .and .u8 (rd l0 x6_1) 127)) (ji9)), wrap64 (x6_1 + 1), 0))) else (codec_Uint.l0 kj5 l0 (Go.bits .or .u64 x5_1 (shl .u64 (IntKind.u64.wrap (Go.bits .and .u8 (rd l0 x6_1) 127)) (ji9))) (wrap64 (x6_1 + 1)))) else (none)) = some (r1, r2, r3) := by first | (rw [hji9] at H; exact H) | (simp only [hji9] at H ⊢; exact H)
          by_cases c10 : 0 ≤ (ji9)
          ·rw [if_pos c10] at H
           have c10b0 := eq_true c10
           have c10b1 : decide (0 ≤ (ji9)) = true := decide_eq_true c10
           clear c10
           obtain ⟨ji11, hji11⟩ : ∃ j_ : Int, (shl .u64 (IntKind.u64.wrap (Go.bits .and .u8 (rd l0 x6_1) 127)) (ji9)) = j_ := ⟨_, rfl⟩
           replace H : (if (Go.bits .and .u8 (rd l0 x6_1) 128) = 0 then (if (rd l0 x6_1) = 0 then (if x6_1 > 0 then (some (0, 0, 6)) else (some (Go.bits .or .u64 x5_1 (ji11), wrap64 (x6_1 + 1), 0))) else (some (Go.bits .or .u64 x5_1 (ji11), wrap64 (x6_1 + 1), 0))) else (codec_Uint.l0 kj5 l0 (Go.bits .or .u64 x5_1 (ji11)) (wrap64 (x6_1 + 1)))) = some (r1, r2, r3) := by first | (rw [hji11] at H; exact H) | (simp only [hji11] at H ⊢; exact H)
           have hji11_ : (IntKind.u64.wrap ((IntKind.u64.wrap (Go.bits .and .u8 (rd l0 x6_1) 127)) * 2 ^ min (ji9).toNat 64)) = ji11 := hji11
           have hji11z : (ji9) ≤ 64 → (IntKind.u64.wrap ((IntKind.u64.wrap (Go.bits .and .u8 (rd l0 x6_1) 127)) * 2 ^ (ji9).toNat)) = ji11 := shl_small hji11
           by_cases c12 : (Go.bits .and .u8 (rd l0 x6_1) 128) = 0
           ·rw [if_pos c12] at H
            have c12b0 : ((Go.bits .and .u8 (rd l0 x6_1) 128) == 0) = true := beq_iff_eq.mpr c12
            have c12b1 : ((Go.bits .and .u8 (rd l0 x6_1) 128) != 0) = false := bne_eq_false_iff_eq.mpr c12
            clear c12
            by_cases c13 : (rd l0 x6_1) = 0
            ·rw [if_pos c13] at H
             have c13b0 : ((rd l0 x6_1) == 0) = true := beq_iff_eq.mpr c13
             have c13b1 : ((rd l0 x6_1) != 0) = false := bne_eq_false_iff_eq.mpr c13
             clear c13
             by_cases c14 : x6_1 > 0
             ·rw [if_pos c14] at H
              have c14b0 : decide (0 < x6_1) = true := decide_eq_true c14
              clear c14
              simp only [Option.some.injEq, Prod.mk.injEq] at H
              obtain ⟨rfl, rfl, rfl⟩ := H
              go_wp2
              go_ret3
              exact ⟨by first | rfl | (simp; done) | (simp only [← hji9, ← hji11] <;> (first | rfl | simp)) | (simp [*]; done), by repeat (first | exact Drawn0.refl _ | apply Drawn0.step)⟩
             ·rw [if_neg c14] at H
              have c14b0 : decide (0 < x6_1) = false := decide_eq_false c14
              clear c14
              simp only [Option.some.injEq, Prod.mk.injEq] at H
              obtain ⟨rfl, rfl, rfl⟩ := H
              go_wp2
              go_ret3
              exact ⟨by first | rfl | (simp; done) | (simp only [← hji9, ← hji11] <;> (first | rfl | simp)) | (simp [*]; done), by repeat (first | exact Drawn0.refl _ | apply Drawn0.step)⟩
            ·rw [if_neg c13] at H
             have c13b0 : ((rd l0 x6_1) == 0) = false := beq_eq_false_iff_ne.mpr c13
             have c13b1 : ((rd l0 x6_1) != 0) = true := bne_iff_ne.mpr c13
             simp only [Option.some.injEq, Prod.mk.injEq] at H
             obtain ⟨rfl, rfl, rfl⟩ := H
             go_wp2
             go_ret3
             exact ⟨by first | rfl | (simp; done) | (simp only [← hji9, ← hji11] <;> (first | rfl | simp)) | (simp [*]; done), by repeat (first | exact Drawn0.refl _ | apply Drawn0.step)⟩
           ·rw [if_neg c12] at H
            have c12b0 : ((Go.bits .and .u8 (rd l0 x6_1) 128) == 0) = false := beq_eq_false_iff_ne.mpr c12
            have c12b1 : ((Go.bits .and .u8 (rd l0 x6_1) 128) != 0) = true := bne_iff_ne.mpr c12
            have H' := Aside0.mk H
            clear H
            go_wp2
            go_roundg kj5
            case measure => have := HK1.out; have := HJ5.out; omega
            case rel => exact ⟨(Go.bits .or .u64 x5_1 (ji11)), (wrap64 (x6_1 + 1)), (by first | rfl | (simp; done) | (simp only [← hji11] <;> (first | rfl | simp)) | (simp [*]; done)), (by first | rfl | (simp; done) | (simp [*]; done)), H', ⟨by have := HK1.out; have := HJ5.out; omega⟩, by repeat (first | exact Drawn0.refl _ | apply Drawn0.step)⟩
          ·rw [if_neg c10] at H
           exact absurd H (by simp)
      ·rw [if_neg c5] at H
       exact absurd H (by simp)
     ·rw [if_neg c4] at H
      exact absurd H (by simp)
   ·rw [if_neg c2] at H
    have c2b0 : decide (x6_1 < 10) = false := decide_eq_false c2
    clear c2
    simp only [Option.some.injEq, Prod.mk.injEq] at H
    obtain ⟨rfl, rfl, rfl⟩ := H
    go_wp2
    go_ret3
    exact ⟨by first | rfl | (simp; done) | (simp [*]; done), by repeat (first | exact Drawn0.refl _ | apply Drawn0.step)⟩

/-! ### codec_sized: function 38 -/
def codec_sized.f (k : Nat) (l0 : List Int) (a1 : Int) : Option (List Int × Int × Int) := (codec_Uint.f k l0).bind fun bt103 => (if bt103.2.2 = 0 then (if bt103.1 > (IntKind.u64.wrap (a1)) then (some (([] : List Int), 0, 3)) else (if (wrap64 ((l0.length : Int) - bt103.2.1)) < (wrap64 (bt103.1)) then (some (([] : List Int), 0, 5)) else (if 0 ≤ bt103.2.1 then (if bt103.2.1 ≤ (wrap64 (bt103.2.1 + (wrap64 (bt103.1)))) then (if (wrap64 (bt103.2.1 + (wrap64 (bt103.1)))) ≤ (l0.length : Int) then (some (((l0.take ((wrap64 (bt103.2.1 + (wrap64 (bt103.1)))) : Int).toNat).drop (bt103.2.1 : Int).toNat), wrap64 (bt103.2.1 + (wrap64 (bt103.1))), 0)) else (none)) else (none)) else (none)))) else (some (([] : List Int), 0, bt103.2.2)))
theorem codec_sized.mono : ∀ a0 a1 k, LeO (codec_sized.f k a0 a1) (codec_sized.f (k + 1) a0 a1) := by
 intro a0 a1 k
 unfold codec_sized.f
 repeat' first
   | (with_reducible exact codec_Uint.mono _ _)
   | (with_reducible exact LeO.refl _)
   | (with_reducible exact LeO.none _)
   | (with_reducible refine LeO.ite ?_ ?_)
   | (with_reducible refine LeO.bind ?_ (fun _ => ?_))
   | exact codec_Uint.mono _ _
   | exact LeO.none _
   | refine LeO.ite ?_ ?_
   | refine LeO.bind ?_ (fun _ => ?_)
set_option maxHeartbeats 8000000 in
set_option maxRecDepth 100000 in
theorem codec_sized.calls (k : Nat) (P0_ : Nat → Prop) (A0 : Option Addr) (c0 : Nat) (l0 : List Int) (a1 : Int) (r1 : List Int) (r2 : Int) (r3 : Int) (w : World) (hs0 : Kd.V (Kd.int .u8) 5 w w.heap.size (fun k_ => P0_ k_) (.slice A0 l0.length c0) l0) (h : codec_sized.f k l0 a1 = some (r1, r2, r3)) :
  Calls Try.prog 38 #[.slice A0 l0.length c0, .int .i64 a1] w fun e w' => ∃ v0_ : Value, e = .returned (.tuple #[v0_, .int .i64 r2, .int .i64 r3]) ∧ Kd.V (Kd.int .u8) 5 w' w.heap.size (fun k_ => (P0_ k_ ∨ w.heap.size ≤ k_)) v0_ r1 ∧ Below w.heap.size w w' := by
 have HO0 := am (show Kd.V (Kd.int .u8) 5 w w.heap.size (fun k_ => (P0_ k_ ∨ w.heap.size ≤ k_)) (.slice A0 l0.length c0) l0 from Kd.V_mono hs0 (fun k_ hk => .inl hk))
 have HB := am (Below.refl w.heap.size w)
 have H : ((codec_Uint.f k l0).bind fun bt103 => (if bt103.2.2 = 0 then (if bt103.1 > (IntKind.u64.wrap (a1)) then (some (([] : List Int), 0, 3)) else (if (wrap64 ((l0.length : Int) - bt103.2.1)) < (wrap64 (bt103.1)) then (some (([] : List Int), 0, 5)) else (if 0 ≤ bt103.2.1 then (if bt103.2.1 ≤ (wrap64 (bt103.2.1 + (wrap64 (bt103.1)))) then (if (wrap64 (bt103.2.1 + (wrap64 (bt103.1)))) ≤ (l0.length : Int) then (some (((l0.take ((wrap64 (bt103.2.1 + (wrap64 (bt103.1)))) : Int).toNat).drop (bt103.2.1 : Int).toNat), wrap64 (bt103.2.1 + (wrap64 (bt103.1))), 0)) else (none)) else (none)) else (none)))) else (some (([] : List Int), 0, bt103.2.2)))) = some (r1, r2, r3) := h
 clear h
 replace H := Option.bind_eq_some_iff.mp H
 obtain ⟨⟨t103, t104, t105⟩, A30, H⟩ := H
 replace H : (if t105 = 0 then (if t103 > (IntKind.u64.wrap (a1)) then (some (([] : List Int), 0, 3)) else (if (wrap64 ((l0.length : Int) - t104)) < (wrap64 (t103)) then (some (([] : List Int), 0, 5)) else (if 0 ≤ t104 then (if t104 ≤ (wrap64 (t104 + (wrap64 (t103)))) then (if (wrap64 (t104 + (wrap64 (t103)))) ≤ (l0.length : Int) then (some (((l0.take ((wrap64 (t104 + (wrap64 (t103)))) : Int).toNat).drop (t104 : Int).toNat), wrap64 (t104 + (wrap64 (t103))), 0)) else (none)) else (none)) else (none)))) else (some (([] : List Int), 0, t105))) = some (r1, r2, r3) := H
 have A3 := Aside0.mk A30
 clear A30
 by_cases c4 : t105 = 0
 ·rw [if_pos c4] at H
  have c4b0 : (t105 == 0) = true := beq_iff_eq.mpr c4
  have c4b1 : (t105 != 0) = false := bne_eq_false_iff_eq.mpr c4
  clear c4
  by_cases c5 : t103 > (IntKind.u64.wrap (a1))
  ·rw [if_pos c5] at H
   have c5b0 : decide ((IntKind.u64.wrap (a1)) < t103) = true := decide_eq_true c5
   clear c5
   simp only [Option.some.injEq, Prod.mk.injEq] at H
   obtain ⟨rfl, rfl, rfl⟩ := H
   go_enter Try.func38, Try.ntmps38
   go_wp2_with (first | ((with_reducible refine gate_callee (f := 36) rfl ?_); refine goesL_ (some 13) rfl rfl Try.func36 (by kernel_rfl) rfl #[.slice A0 l0.length c0] rfl (by (try simp only [List.map_toArray, List.map_cons, List.map_nil]); first | done | rfl | (simp only [List.length_drop, List.length_take]; rfl)) ?_; (with_reducible refine (codec_Uint.calls k _ _ l0 t103 t104 t105 _ ?side1 ?side2 A3.out).mono ?_); (case side1 => exact zC (Kd.V_reads' HO0.out).2.2); (case side2 => exact (Kd.V_reads' HO0.out).2.1); rintro e w' ⟨rfl, ⟨nd, rfl⟩⟩; refine ⟨_, rfl, ?_⟩))
   go_ret3
   exact ⟨_, by first | rfl | (simp [errW_none, errW_some] <;> rfl) | (simp [*, errW_none, errW_some] <;> rfl), Kd.V_nil _ _ _ _ _, zL HB.out⟩
  ·rw [if_neg c5] at H
   have c5b0 : decide ((IntKind.u64.wrap (a1)) < t103) = false := decide_eq_false c5
   clear c5
   by_cases c6 : (wrap64 ((l0.length : Int) - t104)) < (wrap64 (t103))
   ·rw [if_pos c6] at H
    have c6b0 : decide ((wrap64 ((l0.length : Int) - t104)) < (wrap64 (t103))) = true := decide_eq_true c6
    clear c6
    simp only [Option.some.injEq, Prod.mk.injEq] at H
    obtain ⟨rfl, rfl, rfl⟩ := H
    go_enter Try.func38, Try.ntmps38
    go_wp2_with (first | ((with_reducible refine gate_callee (f := 36) rfl ?_); refine goesL_ (some 13) rfl rfl Try.func36 (by kernel_rfl) rfl #[.slice A0 l0.length c0] rfl (by (try simp only [List.map_toArray, List.map_cons, List.map_nil]); first | done | rfl | (simp only [List.length_drop, List.length_take]; rfl)) ?_; (with_reducible refine (codec_Uint.calls k _ _ l0 t103 t104 t105 _ ?side1 ?side2 A3.out).mono ?_); (case side1 => exact zC (Kd.V_reads' HO0.out).2.2); (case side2 => exact (Kd.V_reads' HO0.out).2.1); rintro e w' ⟨rfl, ⟨nd, rfl⟩⟩; refine ⟨_, rfl, ?_⟩))
    go_ret3
    exact ⟨_, by first | rfl | (simp [errW_none, errW_some] <;> rfl) | (simp [*, errW_none, errW_some] <;> rfl), Kd.V_nil _ _ _ _ _, zL HB.out⟩
   ·rw [if_neg c6] at H
    have c6b0 : decide ((wrap64 ((l0.length : Int) - t104)) < (wrap64 (t103))) = false := decide_eq_false c6
    clear c6
    by_cases c7 : 0 ≤ t104
    ·rw [if_pos c7] at H
     have c7b0 := eq_true c7
     have c7b1 : decide (0 ≤ t104) = true := decide_eq_true c7
     clear c7
     by_cases c8 : t104 ≤ (wrap64 (t104 + (wrap64 (t103))))
     ·rw [if_pos c8] at H
      have c8b0 := eq_true c8
      have c8b1 : decide (t104 ≤ (wrap64 (t104 + (wrap64 (t103))))) = true := decide_eq_true c8
      by_cases c9 : (wrap64 (t104 + (wrap64 (t103)))) ≤ (l0.length : Int)
      ·rw [if_pos c9] at H
       have c9b0 := eq_true c9
       have c9b1 : decide ((wrap64 (t104 + (wrap64 (t103)))) ≤ (l0.length : Int)) = true := decide_eq_true c9
       obtain ⟨y106, hy106⟩ : ∃ y_ : List Int, y_ = ((l0.take ((wrap64 (t104 + (wrap64 (t103)))) : Int).toNat).drop (t104 : Int).toNat) := ⟨_, rfl⟩
       replace H : (some (y106, wrap64 (t104 + (wrap64 (t103))), 0)) = some (r1, r2, r3) := by first | (rw [hy106]; with_reducible exact H) | (have H2_ := (Option.bind_some _ _).symm.trans H; rw [hy106]; with_reducible exact H2_) | (have H2_ := (Option.bind_some _ _).symm.trans H; with_reducible exact H2_) | with_reducible exact H | (rw [hy106]; exact H) | exact H
       have Ny106 := Aside0.mk hy106
       clear hy106
       simp only [Option.some.injEq, Prod.mk.injEq] at H
       obtain ⟨rfl, rfl, rfl⟩ := H
       go_enter Try.func38, Try.ntmps38
       go_wp2_with (first | ((with_reducible refine gate_callee (f := 36) rfl ?_); refine goesL_ (some 13) rfl rfl Try.func36 (by kernel_rfl) rfl #[.slice A0 l0.length c0] rfl (by (try simp only [List.map_toArray, List.map_cons, List.map_nil]); first | done | rfl | (simp only [List.length_drop, List.length_take]; rfl)) ?_; (with_reducible refine (codec_Uint.calls k _ _ l0 t103 t104 t105 _ ?side1 ?side2 A3.out).mono ?_); (case side1 => exact zC (Kd.V_reads' HO0.out).2.2); (case side2 => exact (Kd.V_reads' HO0.out).2.1); rintro e w' ⟨rfl, ⟨nd, rfl⟩⟩; refine ⟨_, rfl, ?_⟩; have q10 : ((wrap64 (t104 + (wrap64 (t103)))) : Int) ≤ ((l0.length : Int) : Int) := of_decide_eq_true (by first | (with_reducible assumption) | assumption); obtain ⟨i010, hi010, _, hsz10, _⟩ := info_parts info5; have hroom10 : l0.length ≤ c0 := (Kd.V_reads' HO0.out).2.1; have hC10 : Kd.F (Kd.int .u8) _ _ A0 l0.length l0 := (Kd.V_at (base := w.heap.size) HO0.out).2.2; have ql10 : (t104 : Int) ≤ ((wrap64 (t104 + (wrap64 (t103)))) : Int) := of_decide_eq_true (by first | (with_reducible assumption) | assumption); have q010 : (0 : Int) ≤ (t104 : Int) := of_decide_eq_true (by first | (with_reducible assumption) | assumption); have hcut10 := Xw.cut_mid3 (P := Try.prog) 22 5 .i64 .i64 .i64 Try.underlying22 hi010 1 hsz10 A0 l0.length c0 t104 (wrap64 (t104 + (wrap64 (t103)))) q010 ql10 q10 hroom10; have hr10 := Xw.F_mid3 (lo := (t104 : Int).toNat) (hi := ((wrap64 (t104 + (wrap64 (t103)))) : Int).toNat) hC10 (by omega) (by omega); obtain ⟨A10, hA10⟩ : ∃ A1, A1 = (if ((wrap64 (t104 + (wrap64 (t103)))) : Int).toNat = (t104 : Int).toNat then A0 else (A0 : Option Addr).map (·.add ((t104 : Int).toNat * 1))) := ⟨_, rfl⟩; have hy10 : y106.length = ((wrap64 (t104 + (wrap64 (t103)))) : Int).toNat - (t104 : Int).toNat := (by rw [Ny106.out, List.length_drop, List.length_take] <;> omega); rw [show ((l0).take ((wrap64 (t104 + (wrap64 (t103)))) : Int).toNat).drop (t104 : Int).toNat = y106 from Ny106.out.symm] at hr10; replace hr10 : Kd.F (Kd.int .u8) _ _ A10 y106.length y106 := (by rw [hA10]; exact hr10); rw [← hy10, ← hA10] at hcut10; have HO110 := am (show Kd.V (Kd.int .u8) 5 _ w.heap.size _ (.slice A10 y106.length y106.length) y106 from Kd.V_mk (Nat.le_refl _) hr10); have HC110 := am (Nat.le_refl y106.length); clear hr10 hC10 hroom10 hi010 hsz10; have KY10 := Aside0.mk hy10; have KA10 := Aside0.mk hA10; clear hy10 hA10; replace q10 := eq_true q10))
       go_ret3
       exact ⟨_, by first | rfl | (simp [errW_none, errW_some] <;> rfl) | (simp [*, errW_none, errW_some] <;> rfl), by (with_reducible repeat (first | apply Kd.V_alloc | apply Kd.V_drewN | apply Kd.V_drew)); exact HO110.out, zL HB.out⟩
      ·rw [if_neg c9] at H
       exact absurd H (by simp)
     ·rw [if_neg c8] at H
      exact absurd H (by simp)
    ·rw [if_neg c7] at H
     exact absurd H (by simp)
 ·rw [if_neg c4] at H
  have c4b0 : (t105 == 0) = false := beq_eq_false_iff_ne.mpr c4
  have c4b1 : (t105 != 0) = true := bne_iff_ne.mpr c4
  simp only [Option.some.injEq, Prod.mk.injEq] at H
  obtain ⟨rfl, rfl, rfl⟩ := H
  go_enter Try.func38, Try.ntmps38
  go_wp2_with (first | ((with_reducible refine gate_callee (f := 36) rfl ?_); refine goesL_ (some 13) rfl rfl Try.func36 (by kernel_rfl) rfl #[.slice A0 l0.length c0] rfl (by (try simp only [List.map_toArray, List.map_cons, List.map_nil]); first | done | rfl | (simp only [List.length_drop, List.length_take]; rfl)) ?_; (with_reducible refine (codec_Uint.calls k _ _ l0 t103 t104 t105 _ ?side1 ?side2 A3.out).mono ?_); (case side1 => exact zC (Kd.V_reads' HO0.out).2.2); (case side2 => exact (Kd.V_reads' HO0.out).2.1); rintro e w' ⟨rfl, ⟨nd, rfl⟩⟩; refine ⟨_, rfl, ?_⟩))
  go_ret3
  exact ⟨_, by first | rfl | (simp [errW_none, errW_some] <;> rfl) | (simp [*, errW_none, errW_some] <;> rfl), Kd.V_nil _ _ _ _ _, zL HB.out⟩

/-! ### codec_Unframe: function 35 -/
def codec_Unframe.f (k : Nat) (l0 : List Int) : Option (List Int × Int × Int) := (codec_sized.f k l0 4096).bind fun bt111 => (if bt111.2.2 = 0 then (if (wrap64 ((l0.length : Int) - bt111.2.1)) < 4 then (some (([] : List Int), 0, 5)) else (if 0 ≤ bt111.2.1 then (if bt111.2.1 < (l0.length : Int) then (if 0 ≤ (wrap64 (bt111.2.1 + 1)) then (if (wrap64 (bt111.2.1 + 1)) < (l0.length : Int) then (if 0 ≤ (wrap64 (bt111.2.1 + 2)) then (if (wrap64 (bt111.2.1 + 2)) < (l0.length : Int) then (if 0 ≤ (wrap64 (bt111.2.1 + 3)) then (if (wrap64 (bt111.2.1 + 3)) < (l0.length : Int) then ((codec_Checksum.f k bt111.1).bind fun t120 => (if (Go.bits .or .u32 (Go.bits .or .u32 (Go.bits .or .u32 ((((rd l0 bt111.2.1) % 4294967296) * 16777216) % 4294967296) ((((rd l0 (wrap64 (bt111.2.1 + 1))) % 4294967296) * 65536) % 4294967296)) ((((rd l0 (wrap64 (bt111.2.1 + 2))) % 4294967296) * 256) % 4294967296)) ((rd l0 (wrap64 (bt111.2.1 + 3))) % 4294967296)) = t120 then ((some (([] : List Int) : List Int)).bind fun y121 => (if y121.length + bt111.1.length < 140737488355328 then (some ((y121 ++ bt111.1), wrap64 (bt111.2.1 + 4), 0)) else (none))) else (some (([] : List Int), 0, 7)))) else (none)) else (none)) else (none)) else (none)) else (none)) else (none)) else (none)) else (none))) else (some (([] : List Int), 0, bt111.2.2)))
theorem codec_Unframe.mono : ∀ a0 k, LeO (codec_Unframe.f k a0) (codec_Unframe.f (k + 1) a0) := by
 intro a0 k
 unfold codec_Unframe.f
 repeat' first
   | (with_reducible exact codec_Checksum.mono _ _)
   | (with_reducible exact codec_sized.mono _ _ _)
   | (with_reducible exact LeO.refl _)
   | (with_reducible exact LeO.none _)
   | (with_reducible refine LeO.ite ?_ ?_)
   | (with_reducible refine LeO.bind ?_ (fun _ => ?_))
   | exact codec_Checksum.mono _ _
   | exact codec_sized.mono _ _ _
   | exact LeO.none _
   | refine LeO.ite ?_ ?_
   | refine LeO.bind ?_ (fun _ => ?_)
set_option maxHeartbeats 8000000 in
set_option maxRecDepth 100000 in
theorem codec_Unframe.calls (k : Nat) (A0 : Option Addr) (c0 : Nat) (l0 : List Int) (r1 : List Int) (r2 : Int) (r3 : Int) (w : World) (hr0 : Kd.C (Kd.int .u8) w A0 l0.length l0) (hc0 : l0.length ≤ c0) (h : codec_Unframe.f k l0 = some (r1, r2, r3)) :
  Calls Try.prog 35 #[.slice A0 l0.length c0] w fun e w' => ∃ v0_ : Value, e = .returned (.tuple #[v0_, .int .i64 r2, .int .i64 r3]) ∧ Kd.R (Kd.int .u8) 5 w' w.heap.size (fun _ => True) v0_ r1 ∧ Below w.heap.size w w' := by
 have HR0 := Aside0.mk hr0
 have HC0 := Aside0.mk hc0
 clear hr0 hc0
 have HB := am (Below.refl w.heap.size w)
 have H : ((codec_sized.f k l0 4096).bind fun bt111 => (if bt111.2.2 = 0 then (if (wrap64 ((l0.length : Int) - bt111.2.1)) < 4 then (some (([] : List Int), 0, 5)) else (if 0 ≤ bt111.2.1 then (if bt111.2.1 < (l0.length : Int) then (if 0 ≤ (wrap64 (bt111.2.1 + 1)) then (if (wrap64 (bt111.2.1 + 1)) < (l0.length : Int) then (if 0 ≤ (wrap64 (bt111.2.1 + 2)) then (if (wrap64 (bt111.2.1 + 2)) < (l0.length : Int) then (if 0 ≤ (wrap64 (bt111.2.1 + 3)) then (if (wrap64 (bt111.2.1 + 3)) < (l0.length : Int) then ((codec_Checksum.f k bt111.1).bind fun t120 => (if (Go.bits .or .u32 (Go.bits .or .u32 (Go.bits .or .u32 ((((rd l0 bt111.2.1) % 4294967296) * 16777216) % 4294967296) ((((rd l0 (wrap64 (bt111.2.1 + 1))) % 4294967296) * 65536) % 4294967296)) ((((rd l0 (wrap64 (bt111.2.1 + 2))) % 4294967296) * 256) % 4294967296)) ((rd l0 (wrap64 (bt111.2.1 + 3))) % 4294967296)) = t120 then ((some (([] : List Int) : List Int)).bind fun y121 => (if y121.length + bt111.1.length < 140737488355328 then (some ((y121 ++ bt111.1), wrap64 (bt111.2.1 + 4), 0)) else (none))) else (some (([] : List Int), 0, 7)))) else (none)) else (none)) else (none)) else (none)) else (none)) else (none)) else (none)) else (none))) else (some (([] : List Int), 0, bt111.2.2)))) = some (r1, r2, r3) := h
 clear h
 replace H := Option.bind_eq_some_iff.mp H
 obtain ⟨⟨t111, t114, t115⟩, A20, H⟩ := H
 replace H : (if t115 = 0 then (if (wrap64 ((l0.length : Int) - t114)) < 4 then (some (([] : List Int), 0, 5)) else (if 0 ≤ t114 then (if t114 < (l0.length : Int) then (if 0 ≤ (wrap64 (t114 + 1)) then (if (wrap64 (t114 + 1)) < (l0.length : Int) then (if 0 ≤ (wrap64 (t114 + 2)) then (if (wrap64 (t114 + 2)) < (l0.length : Int) then (if 0 ≤ (wrap64 (t114 + 3)) then (if (wrap64 (t114 + 3)) < (l0.length : Int) then ((codec_Checksum.f k t111).bind fun t120 => (if (Go.bits .or .u32 (Go.bits .or .u32 (Go.bits .or .u32 ((((rd l0 t114) % 4294967296) * 16777216) % 4294967296) ((((rd l0 (wrap64 (t114 + 1))) % 4294967296) * 65536) % 4294967296)) ((((rd l0 (wrap64 (t114 + 2))) % 4294967296) * 256) % 4294967296)) ((rd l0 (wrap64 (t114 + 3))) % 4294967296)) = t120 then ((some (([] : List Int) : List Int)).bind fun y121 => (if y121.length + t111.length < 140737488355328 then (some ((y121 ++ t111), wrap64 (t114 + 4), 0)) else (none))) else (some (([] : List Int), 0, 7)))) else (none)) else (none)) else (none)) else (none)) else (none)) else (none)) else (none)) else (none))) else (some (([] : List Int), 0, t115))) = some (r1, r2, r3) := H
 have A2 := Aside0.mk A20
 clear A20
 by_cases c3 : t115 = 0
 ·rw [if_pos c3] at H
  have c3b0 : (t115 == 0) = true := beq_iff_eq.mpr c3
  have c3b1 : (t115 != 0) = false := bne_eq_false_iff_eq.mpr c3
  clear c3
  by_cases c4 : (wrap64 ((l0.length : Int) - t114)) < 4
  ·rw [if_pos c4] at H
   have c4b0 : decide ((wrap64 ((l0.length : Int) - t114)) < 4) = true := decide_eq_true c4
   clear c4
   simp only [Option.some.injEq, Prod.mk.injEq] at H
   obtain ⟨rfl, rfl, rfl⟩ := H
   go_enter Try.func35, Try.ntmps35
   go_wp2_with (first | (go_at_call 38; (with_reducible refine (codec_sized.calls k (fun k_ => k_ < w.heap.size) _ _ l0 4096 t111 t114 t115 _ ?side1 A2.out).mono ?_); (case side1 => exact Kd.V_mk HC0.out (Kd.F_below (Kd.C_F (Kd.heap_int .u8) HR0.out) (zL HB.out))); rintro e w5 ⟨v112, rfl, ho0, hb⟩; have n0_ := am (Kd.V_lower (Kd.V_mono (ok' := fun k_ => True) ho0 (fun k_ hk_ => trivial)) (below_size (zL HB.out))); have n1_ := am (below_step (zL HB.out) hb); clear HB; have HO113 := n0_; have HB := n1_; clear n0_ n1_; (try clear hb); (try clear hb2); (try clear hk); (try clear hi); (try clear ho0)))
   repeat (go_quiet (first | (go_at_call 38; (with_reducible refine (codec_sized.calls k (fun k_ => k_ < w.heap.size) _ _ l0 4096 t111 t114 t115 _ ?side1 A2.out).mono ?_); (case side1 => exact Kd.V_mk HC0.out (Kd.F_below (Kd.C_F (Kd.heap_int .u8) HR0.out) (zL HB.out))); rintro e w5 ⟨v112, rfl, ho0, hb⟩; have n0_ := am (Kd.V_lower (Kd.V_mono (ok' := fun k_ => True) ho0 (fun k_ hk_ => trivial)) (below_size (zL HB.out))); have n1_ := am (below_step (zL HB.out) hb); clear HB; have HO113 := n0_; have HB := n1_; clear n0_ n1_; (try clear hb); (try clear hb2); (try clear hk); (try clear hi); (try clear ho0))); try go_wp2_with (first | (go_at_call 38; (with_reducible refine (codec_sized.calls k (fun k_ => k_ < w.heap.size) _ _ l0 4096 t111 t114 t115 _ ?side1 A2.out).mono ?_); (case side1 => exact Kd.V_mk HC0.out (Kd.F_below (Kd.C_F (Kd.heap_int .u8) HR0.out) (zL HB.out))); rintro e w5 ⟨v112, rfl, ho0, hb⟩; have n0_ := am (Kd.V_lower (Kd.V_mono (ok' := fun k_ => True) ho0 (fun k_ hk_ => trivial)) (below_size (zL HB.out))); have n1_ := am (below_step (zL HB.out) hb); clear HB; have HO113 := n0_; have HB := n1_; clear n0_ n1_; (try clear hb); (try clear hb2); (try clear hk); (try clear hi); (try clear ho0))))
   go_ret3
   exact ⟨_, by first | rfl | (simp [errW_none, errW_some] <;> rfl) | (simp [*, errW_none, errW_some] <;> rfl), by first | exact Kd.R_nil _ _ _ _ _ | exact Kd.N_nil _ _ _ _ _ | exact Kd.V_nil _ _ _ _ _ | exact Kd.Q_nil _ _ _ _ _ | exact Kd.S_nil _ _ _ _ _, zL HB.out⟩
  ·rw [if_neg c4] at H
   have c4b0 : decide ((wrap64 ((l0.length : Int) - t114)) < 4) = false := decide_eq_false c4
   clear c4
   by_cases c6 : 0 ≤ t114
   ·rw [if_pos c6] at H
    have c6b0 : decide (0 ≤ t114) = true := decide_eq_true c6
    clear c6
    by_cases c7 : t114 < (l0.length : Int)
    ·rw [if_pos c7] at H
     have c7b0 : decide (t114 < (l0.length : Int)) = true := decide_eq_true c7
     clear c7
     obtain ⟨ji8, hji8⟩ : ∃ j_ : Int, (wrap64 (t114 + 1)) = j_ := ⟨_, rfl⟩
     replace H : (if 0 ≤ (ji8) then (if (ji8) < (l0.length : Int) then (if 0 ≤ (wrap64 (t114 + 2)) then (if (wrap64 (t114 + 2)) < (l0.length : Int) then (if 0 ≤ (wrap64 (t114 + 3)) then (if (wrap64 (t114 + 3)) < (l0.length : Int) then ((codec_Checksum.f k t111).bind fun t120 => (if (Go.bits .or .u32 (Go.bits .or .u32 (Go.bits .or .u32 ((((rd l0 t114) % 4294967296) * 16777216) % 4294967296) ((((rd l0 (ji8)) % 4294967296) * 65536) % 4294967296)) ((((rd l0 (wrap64 (t114 + 2))) % 4294967296) * 256) % 4294967296)) ((rd l0 (wrap64 (t114 + 3))) % 4294967296)) = t120 then ((some (([] : List Int) : List Int)).bind fun y121 => (if y121.length + t111.length < 140737488355328 then (some ((y121 ++ t111), wrap64 (t114 + 4), 0)) else (none))) else (some (([] : List Int), 0, 7)))) else (none)) else (none)) else (none)) else (none)) else (none)) else (none)) = some (r1, r2, r3) := by first | (rw [hji8] at H; exact H) | (simp only [hji8] at H ⊢; exact H)
     (try rw [hji8] at A2)
     have hji8w : (IntKind.i64.wrap (t114 + 1)) = ji8 := (i64_w _).trans hji8
     by_cases c9 : 0 ≤ (ji8)
     ·rw [if_pos c9] at H
      have c9b0 : decide (0 ≤ (ji8)) = true := decide_eq_true c9
      clear c9
      by_cases c10 : (ji8) < (l0.length : Int)
      ·rw [if_pos c10] at H
       have c10b0 : decide ((ji8) < (l0.length : Int)) = true := decide_eq_true c10
       clear c10
       obtain ⟨ji11, hji11⟩ : ∃ j_ : Int, (wrap64 (t114 + 2)) = j_ := ⟨_, rfl⟩
       replace H : (if 0 ≤ (ji11) then (if (ji11) < (l0.length : Int) then (if 0 ≤ (wrap64 (t114 + 3)) then (if (wrap64 (t114 + 3)) < (l0.length : Int) then ((codec_Checksum.f k t111).bind fun t120 => (if (Go.bits .or .u32 (Go.bits .or .u32 (Go.bits .or .u32 ((((rd l0 t114) % 4294967296) * 16777216) % 4294967296) ((((rd l0 (ji8)) % 4294967296) * 65536) % 4294967296)) ((((rd l0 (ji11)) % 4294967296) * 256) % 4294967296)) ((rd l0 (wrap64 (t114 + 3))) % 4294967296)) = t120 then ((some (([] : List Int) : List Int)).bind fun y121 => (if y121.length + t111.length < 140737488355328 then (some ((y121 ++ t111), wrap64 (t114 + 4), 0)) else (none))) else (some (([] : List Int), 0, 7)))) else (none)) else (none)) else (none)) else (none)) = some (r1, r2, r3) := by first | (rw [hji11] at H; exact H) | (simp only [hji11] at H ⊢; exact H)
       (try rw [hji11] at A2)
       have hji11w : (IntKind.i64.wrap (t114 + 2)) = ji11 := (i64_w _).trans hji11
       by_cases c12 : 0 ≤ (ji11)
       ·rw [if_pos c12] at H
        have c12b0 : decide (0 ≤ (ji11)) = true := decide_eq_true c12
        clear c12
        by_cases c13 : (ji11) < (l0.length : Int)
        ·rw [if_pos c13] at H
         have c13b0 : decide ((ji11) < (l0.length : Int)) = true := decide_eq_true c13
         clear c13
         obtain ⟨ji14, hji14⟩ : ∃ j_ : Int, (wrap64 (t114 + 3)) = j_ := ⟨_, rfl⟩
         replace H : (if 0 ≤ (ji14) then (if (ji14) < (l0.length : Int) then ((codec_Checksum.f k t111).bind fun t120 => (if (Go.bits .or .u32 (Go.bits .or .u32 (Go.bits .or .u32 ((((rd l0 t114) % 4294967296) * 16777216) % 4294967296) ((((rd l0 (ji8)) % 4294967296) * 65536) % 4294967296)) ((((rd l0 (ji11)) % 4294967296) * 256) % 4294967296)) ((rd l0 (ji14)) % 4294967296)) = t120 then ((some (([] : List Int) : List Int)).bind fun y121 => (if y121.length + t111.length < 140737488355328 then (some ((y121 ++ t111), wrap64 (t114 + 4), 0)) else (none))) else (some (([] : List Int), 0, 7)))) else (none)) else (none)) = some (r1, r2, r3) := by first | (rw [hji14] at H; exact H) | (simp only [hji14] at H ⊢; exact H)
         (try rw [hji14] at A2)
         have hji14w : (IntKind.i64.wrap (t114 + 3)) = ji14 := (i64_w _).trans hji14
         by_cases c15 : 0 ≤ (ji14)
         ·rw [if_pos c15] at H
          have c15b0 : decide (0 ≤ (ji14)) = true := decide_eq_true c15
          clear c15
          by_cases c16 : (ji14) < (l0.length : Int)
          ·rw [if_pos c16] at H
           have c16b0 : decide ((ji14) < (l0.length : Int)) = true := decide_eq_true c16
           clear c16
           replace H := Option.bind_eq_some_iff.mp H
           obtain ⟨t120, A170, H⟩ := H
           replace H : (if (Go.bits .or .u32 (Go.bits .or .u32 (Go.bits .or .u32 ((((rd l0 t114) % 4294967296) * 16777216) % 4294967296) ((((rd l0 (ji8)) % 4294967296) * 65536) % 4294967296)) ((((rd l0 (ji11)) % 4294967296) * 256) % 4294967296)) ((rd l0 (ji14)) % 4294967296)) = t120 then ((some (([] : List Int) : List Int)).bind fun y121 => (if y121.length + t111.length < 140737488355328 then (some ((y121 ++ t111), wrap64 (t114 + 4), 0)) else (none))) else (some (([] : List Int), 0, 7))) = some (r1, r2, r3) := H
           have A17 := Aside0.mk A170
           clear A170
           by_cases c18 : (Go.bits .or .u32 (Go.bits .or .u32 (Go.bits .or .u32 ((((rd l0 t114) % 4294967296) * 16777216) % 4294967296) ((((rd l0 (ji8)) % 4294967296) * 65536) % 4294967296)) ((((rd l0 (ji11)) % 4294967296) * 256) % 4294967296)) ((rd l0 (ji14)) % 4294967296)) = t120
           ·rw [if_pos c18] at H
            have c18b0 : ((Go.bits .or .u32 (Go.bits .or .u32 (Go.bits .or .u32 ((((rd l0 t114) % 4294967296) * 16777216) % 4294967296) ((((rd l0 (ji8)) % 4294967296) * 65536) % 4294967296)) ((((rd l0 (ji11)) % 4294967296) * 256) % 4294967296)) ((rd l0 (ji14)) % 4294967296)) == t120) = true := beq_iff_eq.mpr c18
            have c18b1 : ((Go.bits .or .u32 (Go.bits .or .u32 (Go.bits .or .u32 ((((rd l0 t114) % 4294967296) * 16777216) % 4294967296) ((((rd l0 (ji8)) % 4294967296) * 65536) % 4294967296)) ((((rd l0 (ji11)) % 4294967296) * 256) % 4294967296)) ((rd l0 (ji14)) % 4294967296)) != t120) = false := bne_eq_false_iff_eq.mpr c18
            (try (have c18b2 : ((Go.bits .or .u32 (Go.bits .or .u32 (Go.bits .or .u32 (IntKind.u32.wrap ((IntKind.u32.wrap (rd l0 t114)) * 16777216)) (IntKind.u32.wrap ((IntKind.u32.wrap (rd l0 (ji8))) * 65536))) (IntKind.u32.wrap ((IntKind.u32.wrap (rd l0 (ji11))) * 256))) (IntKind.u32.wrap (rd l0 (ji14)))) == t120) = true := beq_iff_eq.mpr (show ((Go.bits .or .u32 (Go.bits .or .u32 (Go.bits .or .u32 (IntKind.u32.wrap ((IntKind.u32.wrap (rd l0 t114)) * 16777216)) (IntKind.u32.wrap ((IntKind.u32.wrap (rd l0 (ji8))) * 65536))) (IntKind.u32.wrap ((IntKind.u32.wrap (rd l0 (ji11))) * 256))) (IntKind.u32.wrap (rd l0 (ji14)))) = t120) from by simpa only [Xw.u32_w, Xw.u8_w] using c18)))
            (try (have c18b3 : ((Go.bits .or .u32 (Go.bits .or .u32 (Go.bits .or .u32 (IntKind.u32.wrap ((IntKind.u32.wrap (rd l0 t114)) * 16777216)) (IntKind.u32.wrap ((IntKind.u32.wrap (rd l0 (ji8))) * 65536))) (IntKind.u32.wrap ((IntKind.u32.wrap (rd l0 (ji11))) * 256))) (IntKind.u32.wrap (rd l0 (ji14)))) != t120) = false := bne_eq_false_iff_eq.mpr (show ((Go.bits .or .u32 (Go.bits .or .u32 (Go.bits .or .u32 (IntKind.u32.wrap ((IntKind.u32.wrap (rd l0 t114)) * 16777216)) (IntKind.u32.wrap ((IntKind.u32.wrap (rd l0 (ji8))) * 65536))) (IntKind.u32.wrap ((IntKind.u32.wrap (rd l0 (ji11))) * 256))) (IntKind.u32.wrap (rd l0 (ji14)))) = t120) from by simpa only [Xw.u32_w, Xw.u8_w] using c18)))
            clear c18
            obtain ⟨y121, hy121⟩ : ∃ y_ : List Int, y_ = (([] : List Int)) := ⟨_, rfl⟩
            replace H : (if y121.length + t111.length < 140737488355328 then (some ((y121 ++ t111), wrap64 (t114 + 4), 0)) else (none)) = some (r1, r2, r3) := by first | (rw [hy121]; with_reducible exact H) | (have H2_ := (Option.bind_some _ _).symm.trans H; rw [hy121]; with_reducible exact H2_) | (have H2_ := (Option.bind_some _ _).symm.trans H; with_reducible exact H2_) | with_reducible exact H | (rw [hy121]; exact H) | exact H
            have Ny121 := Aside0.mk hy121
            clear hy121
            by_cases c19 : y121.length + t111.length < 140737488355328
            ·rw [if_pos c19] at H
             have LMc19 := Aside0.mk c19
             clear c19
             obtain ⟨y124, hy124⟩ : ∃ y_ : List Int, y_ = (y121 ++ t111) := ⟨_, rfl⟩
             replace H : (some (y124, wrap64 (t114 + 4), 0)) = some (r1, r2, r3) := by first | (rw [hy124]; with_reducible exact H) | (have H2_ := (Option.bind_some _ _).symm.trans H; rw [hy124]; with_reducible exact H2_) | (have H2_ := (Option.bind_some _ _).symm.trans H; with_reducible exact H2_) | with_reducible exact H | (rw [hy124]; exact H) | exact H
             have Ny124 := Aside0.mk hy124
             clear hy124
             simp only [Option.some.injEq, Prod.mk.injEq] at H
             obtain ⟨rfl, rfl, rfl⟩ := H
             go_enter Try.func35, Try.ntmps35
             go_wp2_with (first | (go_at_call 38; (with_reducible refine (codec_sized.calls k (fun k_ => k_ < w.heap.size) _ _ l0 4096 t111 t114 t115 _ ?side1 A2.out).mono ?_); (case side1 => exact Kd.V_mk HC0.out (Kd.F_below (Kd.C_F (Kd.heap_int .u8) HR0.out) (zL HB.out))); rintro e w20 ⟨v112, rfl, ho0, hb⟩; have n0_ := am (Kd.V_lower (Kd.V_mono (ok' := fun k_ => True) ho0 (fun k_ hk_ => trivial)) (below_size (zL HB.out))); have n1_ := am (below_step (zL HB.out) hb); clear HB; have HO113 := n0_; have HB := n1_; clear n0_ n1_; (try clear hb); (try clear hb2); (try clear hk); (try clear hi); (try clear ho0); have p116 : 0 ≤ (t114 : Int) := of_decide_eq_true (by first | (with_reducible assumption) | assumption); have q116 : t114 < (l0.length : Int) := of_decide_eq_true (by first | (with_reducible assumption) | assumption); obtain ⟨ad116, e116, hx116_0⟩ := Kd.at_int HR0.out t114 p116 q116; cases e116; replace hx116_0 := (HB.out.cell (World.block_lt_of_cell? w _ hx116_0)).trans hx116_0; replace p116 := eq_true p116; replace q116 := eq_true q116; have p117 : 0 ≤ ((ji8) : Int) := of_decide_eq_true (by first | (with_reducible assumption) | assumption); have q117 : (ji8) < (l0.length : Int) := of_decide_eq_true (by first | (with_reducible assumption) | assumption); obtain ⟨ad117, e117, hx117_0⟩ := Kd.at_int HR0.out (ji8) p117 q117; obtain rfl : ad116 = ad117 := (by injection e117); replace hx117_0 := (HB.out.cell (World.block_lt_of_cell? w _ hx117_0)).trans hx117_0; replace p117 := eq_true p117; replace q117 := eq_true q117; have p118 : 0 ≤ ((ji11) : Int) := of_decide_eq_true (by first | (with_reducible assumption) | assumption); have q118 : (ji11) < (l0.length : Int) := of_decide_eq_true (by first | (with_reducible assumption) | assumption); obtain ⟨ad118, e118, hx118_0⟩ := Kd.at_int HR0.out (ji11) p118 q118; obtain rfl : ad116 = ad118 := (by injection e118); replace hx118_0 := (HB.out.cell (World.block_lt_of_cell? w _ hx118_0)).trans hx118_0; replace p118 := eq_true p118; replace q118 := eq_true q118; have p119 : 0 ≤ ((ji14) : Int) := of_decide_eq_true (by first | (with_reducible assumption) | assumption); have q119 : (ji14) < (l0.length : Int) := of_decide_eq_true (by first | (with_reducible assumption) | assumption); obtain ⟨ad119, e119, hx119_0⟩ := Kd.at_int HR0.out (ji14) p119 q119; obtain rfl : ad116 = ad119 := (by injection e119); replace hx119_0 := (HB.out.cell (World.block_lt_of_cell? w _ hx119_0)).trans hx119_0; replace p119 := eq_true p119; replace q119 := eq_true q119; obtain ⟨Ao21, co21, eo21⟩ := Kd.V_slice HO113.out; subst eo21) | (go_at_call 31; (with_reducible refine (codec_Checksum.calls k _ _ t111 t120 _ ?side1 ?side2 A17.out).mono ?_); (case side1 => exact zC (Kd.V_reads' HO113.out).2.2); (case side2 => exact (Kd.V_reads' HO113.out).2.1); rintro e w' ⟨rfl, ⟨nd, rfl⟩⟩; (try first | exact ⟨rfl, _, World.drewN_drewN _ _ _⟩ | exact ⟨rfl, _, Eq.trans (World.drewN_drewN _ _ _) (congrArg (World.drewN _) (Nat.add_assoc _ _ _))⟩)) | ((with_reducible refine gate_dst (N := 56) rfl ?_); refine Kd.R_lit (Kd.int .u8) _ 5 ?hg (N := 56) ?hd (xs := ([] : List Int)) (inner := []) (ok := fun _ => True) (okp := fun _ => True) ?hr ?hp (fun _ hk => hk) trivial (Below.refl _ _) (Nat.le_refl _) (by simp) ?_; (case hd => rfl); (case hg => rfl); (case hr => first | (go_simp; done) | (go_simp; rfl)); (case hp => exact (Reps.none _ _)); intro v122 w22 ho23 hb hg_ hnew_; clear hg_ hnew_; (first | rw [← Ny121.out] at ho23 | (simp only [Int.reduceToNat] at ho23; rw [← Ny121.out] at ho23)); have n0_ := am (Kd.V_elder' (by (with_reducible repeat (first | apply Kd.V_alloc | apply Kd.V_drewN | apply Kd.V_drew)); exact HO113.out) (Kd.R_base ho23) hb); have n1_ := am (Kd.R_lower ho23 (below_size (zL HB.out))); have n2_ := am (below_step (zL HB.out) hb); clear HO113 HB; have HO113 := n0_; have HO123 := n1_; have HB := n2_; clear n0_ n1_ n2_; clear hb ho23) | ((with_reducible refine gate_builtin (b := .append) (xs := #[.tmp 56, .tmp 57]) rfl ?_); at_builtin; refine Kd.R_append_rows (Kd.int .u8) (w0 := w) w.heap.size rfl (.tmp 56) (.tmp 57) 22 5 (.int .u8 0) 1 rfl Try.underlying22 info5 rfl (by decide) (by omega) v122 y121 t111 _ _ _ (fun _ => True) (fun _ => False) rfl rfl ?aO ?aR (fun _ _ h => h) (fun _ h => h.elim) ?aF ?aB ?aS ?aL ?_; (case aR => exact zC (Kd.V_reads' HO113.out).2.2); (case aB => exact (zL HB.out)); (case aF => exact (fun _ _ => trivial)); (case aO => exact (zR HO123.out)); (case aS => exact (below_size (zL HB.out))); (case aL => have := LMc19.out; omega); intro v125 w24 ho hb hg hat; rw [← Ny124.out] at ho; have n0_ := am (Kd.V_afterv (ok := (fun _ => True)) (by (with_reducible repeat (first | apply Kd.V_alloc | apply Kd.V_drewN | apply Kd.V_drew)); exact HO113.out) hg hat); have n1_ := am (hb); have n2_ := am (ho); clear HO113 HB HO123; have HO113 := n0_; have HB := n1_; have HO126 := n2_; clear n0_ n1_ n2_; clear ho hb hg hat))
             repeat (go_quiet (first | (go_at_call 38; (with_reducible refine (codec_sized.calls k (fun k_ => k_ < w.heap.size) _ _ l0 4096 t111 t114 t115 _ ?side1 A2.out).mono ?_); (case side1 => exact Kd.V_mk HC0.out (Kd.F_below (Kd.C_F (Kd.heap_int .u8) HR0.out) (zL HB.out))); rintro e w20 ⟨v112, rfl, ho0, hb⟩; have n0_ := am (Kd.V_lower (Kd.V_mono (ok' := fun k_ => True) ho0 (fun k_ hk_ => trivial)) (below_size (zL HB.out))); have n1_ := am (below_step (zL HB.out) hb); clear HB; have HO113 := n0_; have HB := n1_; clear n0_ n1_; (try clear hb); (try clear hb2); (try clear hk); (try clear hi); (try clear ho0); have p116 : 0 ≤ (t114 : Int) := of_decide_eq_true (by first | (with_reducible assumption) | assumption); have q116 : t114 < (l0.length : Int) := of_decide_eq_true (by first | (with_reducible assumption) | assumption); obtain ⟨ad116, e116, hx116_0⟩ := Kd.at_int HR0.out t114 p116 q116; cases e116; replace hx116_0 := (HB.out.cell (World.block_lt_of_cell? w _ hx116_0)).trans hx116_0; replace p116 := eq_true p116; replace q116 := eq_true q116; have p117 : 0 ≤ ((ji8) : Int) := of_decide_eq_true (by first | (with_reducible assumption) | assumption); have q117 : (ji8) < (l0.length : Int) := of_decide_eq_true (by first | (with_reducible assumption) | assumption); obtain ⟨ad117, e117, hx117_0⟩ := Kd.at_int HR0.out (ji8) p117 q117; obtain rfl : ad116 = ad117 := (by injection e117); replace hx117_0 := (HB.out.cell (World.block_lt_of_cell? w _ hx117_0)).trans hx117_0; replace p117 := eq_true p117; replace q117 := eq_true q117; have p118 : 0 ≤ ((ji11) : Int) := of_decide_eq_true (by first | (with_reducible assumption) | assumption); have q118 : (ji11) < (l0.length : Int) := of_decide_eq_true (by first | (with_reducible assumption) | assumption); obtain ⟨ad118, e118, hx118_0⟩ := Kd.at_int HR0.out (ji11) p118 q118; obtain rfl : ad116 = ad118 := (by injection e118); replace hx118_0 := (HB.out.cell (World.block_lt_of_cell? w _ hx118_0)).trans hx118_0; replace p118 := eq_true p118; replace q118 := eq_true q118; have p119 : 0 ≤ ((ji14) : Int) := of_decide_eq_true (by first | (with_reducible assumption) | assumption); have q119 : (ji14) < (l0.length : Int) := of_decide_eq_true (by first | (with_reducible assumption) | assumption); obtain ⟨ad119, e119, hx119_0⟩ := Kd.at_int HR0.out (ji14) p119 q119; obtain rfl : ad116 = ad119 := (by injection e119); replace hx119_0 := (HB.out.cell (World.block_lt_of_cell? w _ hx119_0)).trans hx119_0; replace p119 := eq_true p119; replace q119 := eq_true q119; obtain ⟨Ao21, co21, eo21⟩ := Kd.V_slice HO113.out; subst eo21) | (go_at_call 31; (with_reducible refine (codec_Checksum.calls k _ _ t111 t120 _ ?side1 ?side2 A17.out).mono ?_); (case side1 => exact zC (Kd.V_reads' HO113.out).2.2); (case side2 => exact (Kd.V_reads' HO113.out).2.1); rintro e w' ⟨rfl, ⟨nd, rfl⟩⟩; (try first | exact ⟨rfl, _, World.drewN_drewN _ _ _⟩ | exact ⟨rfl, _, Eq.trans (World.drewN_drewN _ _ _) (congrArg (World.drewN _) (Nat.add_assoc _ _ _))⟩)) | ((with_reducible refine gate_dst (N := 56) rfl ?_); refine Kd.R_lit (Kd.int .u8) _ 5 ?hg (N := 56) ?hd (xs := ([] : List Int)) (inner := []) (ok := fun _ => True) (okp := fun _ => True) ?hr ?hp (fun _ hk => hk) trivial (Below.refl _ _) (Nat.le_refl _) (by simp) ?_; (case hd => rfl); (case hg => rfl); (case hr => first | (go_simp; done) | (go_simp; rfl)); (case hp => exact (Reps.none _ _)); intro v122 w22 ho23 hb hg_ hnew_; clear hg_ hnew_; (first | rw [← Ny121.out] at ho23 | (simp only [Int.reduceToNat] at ho23; rw [← Ny121.out] at ho23)); have n0_ := am (Kd.V_elder' (by (with_reducible repeat (first | apply Kd.V_alloc | apply Kd.V_drewN | apply Kd.V_drew)); exact HO113.out) (Kd.R_base ho23) hb); have n1_ := am (Kd.R_lower ho23 (below_size (zL HB.out))); have n2_ := am (below_step (zL HB.out) hb); clear HO113 HB; have HO113 := n0_; have HO123 := n1_; have HB := n2_; clear n0_ n1_ n2_; clear hb ho23) | ((with_reducible refine gate_builtin (b := .append) (xs := #[.tmp 56, .tmp 57]) rfl ?_); at_builtin; refine Kd.R_append_rows (Kd.int .u8) (w0 := w) w.heap.size rfl (.tmp 56) (.tmp 57) 22 5 (.int .u8 0) 1 rfl Try.underlying22 info5 rfl (by decide) (by omega) v122 y121 t111 _ _ _ (fun _ => True) (fun _ => False) rfl rfl ?aO ?aR (fun _ _ h => h) (fun _ h => h.elim) ?aF ?aB ?aS ?aL ?_; (case aR => exact zC (Kd.V_reads' HO113.out).2.2); (case aB => exact (zL HB.out)); (case aF => exact (fun _ _ => trivial)); (case aO => exact (zR HO123.out)); (case aS => exact (below_size (zL HB.out))); (case aL => have := LMc19.out; omega); intro v125 w24 ho hb hg hat; rw [← Ny124.out] at ho; have n0_ := am (Kd.V_afterv (ok := (fun _ => True)) (by (with_reducible repeat (first | apply Kd.V_alloc | apply Kd.V_drewN | apply Kd.V_drew)); exact HO113.out) hg hat); have n1_ := am (hb); have n2_ := am (ho); clear HO113 HB HO123; have HO113 := n0_; have HB := n1_; have HO126 := n2_; clear n0_ n1_ n2_; clear ho hb hg hat)); try go_wp2_with (first | (go_at_call 38; (with_reducible refine (codec_sized.calls k (fun k_ => k_ < w.heap.size) _ _ l0 4096 t111 t114 t115 _ ?side1 A2.out).mono ?_); (case side1 => exact Kd.V_mk HC0.out (Kd.F_below (Kd.C_F (Kd.heap_int .u8) HR0.out) (zL HB.out))); rintro e w20 ⟨v112, rfl, ho0, hb⟩; have n0_ := am (Kd.V_lower (Kd.V_mono (ok' := fun k_ => True) ho0 (fun k_ hk_ => trivial)) (below_size (zL HB.out))); have n1_ := am (below_step (zL HB.out) hb); clear HB; have HO113 := n0_; have HB := n1_; clear n0_ n1_; (try clear hb); (try clear hb2); (try clear hk); (try clear hi); (try clear ho0); have p116 : 0 ≤ (t114 : Int) := of_decide_eq_true (by first | (with_reducible assumption) | assumption); have q116 : t114 < (l0.length : Int) := of_decide_eq_true (by first | (with_reducible assumption) | assumption); obtain ⟨ad116, e116, hx116_0⟩ := Kd.at_int HR0.out t114 p116 q116; cases e116; replace hx116_0 := (HB.out.cell (World.block_lt_of_cell? w _ hx116_0)).trans hx116_0; replace p116 := eq_true p116; replace q116 := eq_true q116; have p117 : 0 ≤ ((ji8) : Int) := of_decide_eq_true (by first | (with_reducible assumption) | assumption); have q117 : (ji8) < (l0.length : Int) := of_decide_eq_true (by first | (with_reducible assumption) | assumption); obtain ⟨ad117, e117, hx117_0⟩ := Kd.at_int HR0.out (ji8) p117 q117; obtain rfl : ad116 = ad117 := (by injection e117); replace hx117_0 := (HB.out.cell (World.block_lt_of_cell? w _ hx117_0)).trans hx117_0; replace p117 := eq_true p117; replace q117 := eq_true q117; have p118 : 0 ≤ ((ji11) : Int) := of_decide_eq_true (by first | (with_reducible assumption) | assumption); have q118 : (ji11) < (l0.length : Int) := of_decide_eq_true (by first | (with_reducible assumption) | assumption); obtain ⟨ad118, e118, hx118_0⟩ := Kd.at_int HR0.out (ji11) p118 q118; obtain rfl : ad116 = ad118 := (by injection e118); replace hx118_0 := (HB.out.cell (World.block_lt_of_cell? w _ hx118_0)).trans hx118_0; replace p118 := eq_true p118; replace q118 := eq_true q118; have p119 : 0 ≤ ((ji14) : Int) := of_decide_eq_true (by first | (with_reducible assumption) | assumption); have q119 : (ji14) < (l0.length : Int) := of_decide_eq_true (by first | (with_reducible assumption) | assumption); obtain ⟨ad119, e119, hx119_0⟩ := Kd.at_int HR0.out (ji14) p119 q119; obtain rfl : ad116 = ad119 := (by injection e119); replace hx119_0 := (HB.out.cell (World.block_lt_of_cell? w _ hx119_0)).trans hx119_0; replace p119 := eq_true p119; replace q119 := eq_true q119; obtain ⟨Ao21, co21, eo21⟩ := Kd.V_slice HO113.out; subst eo21) | (go_at_call 31; (with_reducible refine (codec_Checksum.calls k _ _ t111 t120 _ ?side1 ?side2 A17.out).mono ?_); (case side1 => exact zC (Kd.V_reads' HO113.out).2.2); (case side2 => exact (Kd.V_reads' HO113.out).2.1); rintro e w' ⟨rfl, ⟨nd, rfl⟩⟩; (try first | exact ⟨rfl, _, World.drewN_drewN _ _ _⟩ | exact ⟨rfl, _, Eq.trans (World.drewN_drewN _ _ _) (congrArg (World.drewN _) (Nat.add_assoc _ _ _))⟩)) | ((with_reducible refine gate_dst (N := 56) rfl ?_); refine Kd.R_lit (Kd.int .u8) _ 5 ?hg (N := 56) ?hd (xs := ([] : List Int)) (inner := []) (ok := fun _ => True) (okp := fun _ => True) ?hr ?hp (fun _ hk => hk) trivial (Below.refl _ _) (Nat.le_refl _) (by simp) ?_; (case hd => rfl); (case hg => rfl); (case hr => first | (go_simp; done) | (go_simp; rfl)); (case hp => exact (Reps.none _ _)); intro v122 w22 ho23 hb hg_ hnew_; clear hg_ hnew_; (first | rw [← Ny121.out] at ho23 | (simp only [Int.reduceToNat] at ho23; rw [← Ny121.out] at ho23)); have n0_ := am (Kd.V_elder' (by (with_reducible repeat (first | apply Kd.V_alloc | apply Kd.V_drewN | apply Kd.V_drew)); exact HO113.out) (Kd.R_base ho23) hb); have n1_ := am (Kd.R_lower ho23 (below_size (zL HB.out))); have n2_ := am (below_step (zL HB.out) hb); clear HO113 HB; have HO113 := n0_; have HO123 := n1_; have HB := n2_; clear n0_ n1_ n2_; clear hb ho23) | ((with_reducible refine gate_builtin (b := .append) (xs := #[.tmp 56, .tmp 57]) rfl ?_); at_builtin; refine Kd.R_append_rows (Kd.int .u8) (w0 := w) w.heap.size rfl (.tmp 56) (.tmp 57) 22 5 (.int .u8 0) 1 rfl Try.underlying22 info5 rfl (by decide) (by omega) v122 y121 t111 _ _ _ (fun _ => True) (fun _ => False) rfl rfl ?aO ?aR (fun _ _ h => h) (fun _ h => h.elim) ?aF ?aB ?aS ?aL ?_; (case aR => exact zC (Kd.V_reads' HO113.out).2.2); (case aB => exact (zL HB.out)); (case aF => exact (fun _ _ => trivial)); (case aO => exact (zR HO123.out)); (case aS => exact (below_size (zL HB.out))); (case aL => have := LMc19.out; omega); intro v125 w24 ho hb hg hat; rw [← Ny124.out] at ho; have n0_ := am (Kd.V_afterv (ok := (fun _ => True)) (by (with_reducible repeat (first | apply Kd.V_alloc | apply Kd.V_drewN | apply Kd.V_drew)); exact HO113.out) hg hat); have n1_ := am (hb); have n2_ := am (ho); clear HO113 HB HO123; have HO113 := n0_; have HB := n1_; have HO126 := n2_; clear n0_ n1_ n2_; clear ho hb hg hat)))
             go_ret3
             exact ⟨_, by first | rfl | (simp [errW_none, errW_some] <;> rfl) | (simp only [← hji8, ← hji11, ← hji14]; first | rfl | (simp [errW_none, errW_some] <;> rfl)) | (simp [*, errW_none, errW_some] <;> rfl), by exact zR HO126.out, zL HB.out⟩
            ·rw [if_neg c19] at H
             exact absurd H (by simp)
           ·rw [if_neg c18] at H
            have c18b0 : ((Go.bits .or .u32 (Go.bits .or .u32 (Go.bits .or .u32 ((((rd l0 t114) % 4294967296) * 16777216) % 4294967296) ((((rd l0 (ji8)) % 4294967296) * 65536) % 4294967296)) ((((rd l0 (ji11)) % 4294967296) * 256) % 4294967296)) ((rd l0 (ji14)) % 4294967296)) == t120) = false := beq_eq_false_iff_ne.mpr c18
            have c18b1 : ((Go.bits .or .u32 (Go.bits .or .u32 (Go.bits .or .u32 ((((rd l0 t114) % 4294967296) * 16777216) % 4294967296) ((((rd l0 (ji8)) % 4294967296) * 65536) % 4294967296)) ((((rd l0 (ji11)) % 4294967296) * 256) % 4294967296)) ((rd l0 (ji14)) % 4294967296)) != t120) = true := bne_iff_ne.mpr c18
            (try (have c18b2 : ((Go.bits .or .u32 (Go.bits .or .u32 (Go.bits .or .u32 (IntKind.u32.wrap ((IntKind.u32.wrap (rd l0 t114)) * 16777216)) (IntKind.u32.wrap ((IntKind.u32.wrap (rd l0 (ji8))) * 65536))) (IntKind.u32.wrap ((IntKind.u32.wrap (rd l0 (ji11))) * 256))) (IntKind.u32.wrap (rd l0 (ji14)))) == t120) = false := beq_eq_false_iff_ne.mpr (show ¬ ((Go.bits .or .u32 (Go.bits .or .u32 (Go.bits .or .u32 (IntKind.u32.wrap ((IntKind.u32.wrap (rd l0 t114)) * 16777216)) (IntKind.u32.wrap ((IntKind.u32.wrap (rd l0 (ji8))) * 65536))) (IntKind.u32.wrap ((IntKind.u32.wrap (rd l0 (ji11))) * 256))) (IntKind.u32.wrap (rd l0 (ji14)))) = t120) from by simpa only [Xw.u32_w, Xw.u8_w] using c18)))
            (try (have c18b3 : ((Go.bits .or .u32 (Go.bits .or .u32 (Go.bits .or .u32 (IntKind.u32.wrap ((IntKind.u32.wrap (rd l0 t114)) * 16777216)) (IntKind.u32.wrap ((IntKind.u32.wrap (rd l0 (ji8))) * 65536))) (IntKind.u32.wrap ((IntKind.u32.wrap (rd l0 (ji11))) * 256))) (IntKind.u32.wrap (rd l0 (ji14)))) != t120) = true := bne_iff_ne.mpr (show ¬ ((Go.bits .or .u32 (Go.bits .or .u32 (Go.bits .or .u32 (IntKind.u32.wrap ((IntKind.u32.wrap (rd l0 t114)) * 16777216)) (IntKind.u32.wrap ((IntKind.u32.wrap (rd l0 (ji8))) * 65536))) (IntKind.u32.wrap ((IntKind.u32.wrap (rd l0 (ji11))) * 256))) (IntKind.u32.wrap (rd l0 (ji14)))) = t120) from by simpa only [Xw.u32_w, Xw.u8_w] using c18)))
            simp only [Option.some.injEq, Prod.mk.injEq] at H
            obtain ⟨rfl, rfl, rfl⟩ := H
            go_enter Try.func35, Try.ntmps35
            go_wp2_with (first | (go_at_call 38; (with_reducible refine (codec_sized.calls k (fun k_ => k_ < w.heap.size) _ _ l0 4096 t111 t114 t115 _ ?side1 A2.out).mono ?_); (case side1 => exact Kd.V_mk HC0.out (Kd.F_below (Kd.C_F (Kd.heap_int .u8) HR0.out) (zL HB.out))); rintro e w25 ⟨v112, rfl, ho0, hb⟩; have n0_ := am (Kd.V_lower (Kd.V_mono (ok' := fun k_ => True) ho0 (fun k_ hk_ => trivial)) (below_size (zL HB.out))); have n1_ := am (below_step (zL HB.out) hb); clear HB; have HO113 := n0_; have HB := n1_; clear n0_ n1_; (try clear hb); (try clear hb2); (try clear hk); (try clear hi); (try clear ho0); have p116 : 0 ≤ (t114 : Int) := of_decide_eq_true (by first | (with_reducible assumption) | assumption); have q116 : t114 < (l0.length : Int) := of_decide_eq_true (by first | (with_reducible assumption) | assumption); obtain ⟨ad116, e116, hx116_0⟩ := Kd.at_int HR0.out t114 p116 q116; cases e116; replace hx116_0 := (HB.out.cell (World.block_lt_of_cell? w _ hx116_0)).trans hx116_0; replace p116 := eq_true p116; replace q116 := eq_true q116; have p117 : 0 ≤ ((ji8) : Int) := of_decide_eq_true (by first | (with_reducible assumption) | assumption); have q117 : (ji8) < (l0.length : Int) := of_decide_eq_true (by first | (with_reducible assumption) | assumption); obtain ⟨ad117, e117, hx117_0⟩ := Kd.at_int HR0.out (ji8) p117 q117; obtain rfl : ad116 = ad117 := (by injection e117); replace hx117_0 := (HB.out.cell (World.block_lt_of_cell? w _ hx117_0)).trans hx117_0; replace p117 := eq_true p117; replace q117 := eq_true q117; have p118 : 0 ≤ ((ji11) : Int) := of_decide_eq_true (by first | (with_reducible assumption) | assumption); have q118 : (ji11) < (l0.length : Int) := of_decide_eq_true (by first | (with_reducible assumption) | assumption); obtain ⟨ad118, e118, hx118_0⟩ := Kd.at_int HR0.out (ji11) p118 q118; obtain rfl : ad116 = ad118 := (by injection e118); replace hx118_0 := (HB.out.cell (World.block_lt_of_cell? w _ hx118_0)).trans hx118_0; replace p118 := eq_true p118; replace q118 := eq_true q118; have p119 : 0 ≤ ((ji14) : Int) := of_decide_eq_true (by first | (with_reducible assumption) | assumption); have q119 : (ji14) < (l0.length : Int) := of_decide_eq_true (by first | (with_reducible assumption) | assumption); obtain ⟨ad119, e119, hx119_0⟩ := Kd.at_int HR0.out (ji14) p119 q119; obtain rfl : ad116 = ad119 := (by injection e119); replace hx119_0 := (HB.out.cell (World.block_lt_of_cell? w _ hx119_0)).trans hx119_0; replace p119 := eq_true p119; replace q119 := eq_true q119; obtain ⟨Ao26, co26, eo26⟩ := Kd.V_slice HO113.out; subst eo26) | (go_at_call 31; (with_reducible refine (codec_Checksum.calls k _ _ t111 t120 _ ?side1 ?side2 A17.out).mono ?_); (case side1 => exact zC (Kd.V_reads' HO113.out).2.2); (case side2 => exact (Kd.V_reads' HO113.out).2.1); rintro e w' ⟨rfl, ⟨nd, rfl⟩⟩; (try first | exact ⟨rfl, _, World.drewN_drewN _ _ _⟩ | exact ⟨rfl, _, Eq.trans (World.drewN_drewN _ _ _) (congrArg (World.drewN _) (Nat.add_assoc _ _ _))⟩)))
            repeat (go_quiet (first | (go_at_call 38; (with_reducible refine (codec_sized.calls k (fun k_ => k_ < w.heap.size) _ _ l0 4096 t111 t114 t115 _ ?side1 A2.out).mono ?_); (case side1 => exact Kd.V_mk HC0.out (Kd.F_below (Kd.C_F (Kd.heap_int .u8) HR0.out) (zL HB.out))); rintro e w25 ⟨v112, rfl, ho0, hb⟩; have n0_ := am (Kd.V_lower (Kd.V_mono (ok' := fun k_ => True) ho0 (fun k_ hk_ => trivial)) (below_size (zL HB.out))); have n1_ := am (below_step (zL HB.out) hb); clear HB; have HO113 := n0_; have HB := n1_; clear n0_ n1_; (try clear hb); (try clear hb2); (try clear hk); (try clear hi); (try clear ho0); have p116 : 0 ≤ (t114 : Int) := of_decide_eq_true (by first | (with_reducible assumption) | assumption); have q116 : t114 < (l0.length : Int) := of_decide_eq_true (by first | (with_reducible assumption) | assumption); obtain ⟨ad116, e116, hx116_0⟩ := Kd.at_int HR0.out t114 p116 q116; cases e116; replace hx116_0 := (HB.out.cell (World.block_lt_of_cell? w _ hx116_0)).trans hx116_0; replace p116 := eq_true p116; replace q116 := eq_true q116; have p117 : 0 ≤ ((ji8) : Int) := of_decide_eq_true (by first | (with_reducible assumption) | assumption); have q117 : (ji8) < (l0.length : Int) := of_decide_eq_true (by first | (with_reducible assumption) | assumption); obtain ⟨ad117, e117, hx117_0⟩ := Kd.at_int HR0.out (ji8) p117 q117; obtain rfl : ad116 = ad117 := (by injection e117); replace hx117_0 := (HB.out.cell (World.block_lt_of_cell? w _ hx117_0)).trans hx117_0; replace p117 := eq_true p117; replace q117 := eq_true q117; have p118 : 0 ≤ ((ji11) : Int) := of_decide_eq_true (by first | (with_reducible assumption) | assumption); have q118 : (ji11) < (l0.length : Int) := of_decide_eq_true (by first | (with_reducible assumption) | assumption); obtain ⟨ad118, e118, hx118_0⟩ := Kd.at_int HR0.out (ji11) p118 q118; obtain rfl : ad116 = ad118 := (by injection e118); replace hx118_0 := (HB.out.cell (World.block_lt_of_cell? w _ hx118_0)).trans hx118_0; replace p118 := eq_true p118; replace q118 := eq_true q118; have p119 : 0 ≤ ((ji14) : Int) := of_decide_eq_true (by first | (with_reducible assumption) | assumption); have q119 : (ji14) < (l0.length : Int) := of_decide_eq_true (by first | (with_reducible assumption) | assumption); obtain ⟨ad119, e119, hx119_0⟩ := Kd.at_int HR0.out (ji14) p119 q119; obtain rfl : ad116 = ad119 := (by injection e119); replace hx119_0 := (HB.out.cell (World.block_lt_of_cell? w _ hx119_0)).trans hx119_0; replace p119 := eq_true p119; replace q119 := eq_true q119; obtain ⟨Ao26, co26, eo26⟩ := Kd.V_slice HO113.out; subst eo26) | (go_at_call 31; (with_reducible refine (codec_Checksum.calls k _ _ t111 t120 _ ?side1 ?side2 A17.out).mono ?_); (case side1 => exact zC (Kd.V_reads' HO113.out).2.2); (case side2 => exact (Kd.V_reads' HO113.out).2.1); rintro e w' ⟨rfl, ⟨nd, rfl⟩⟩; (try first | exact ⟨rfl, _, World.drewN_drewN _ _ _⟩ | exact ⟨rfl, _, Eq.trans (World.drewN_drewN _ _ _) (congrArg (World.drewN _) (Nat.add_assoc _ _ _))⟩))); try go_wp2_with (first | (go_at_call 38; (with_reducible refine (codec_sized.calls k (fun k_ => k_ < w.heap.size) _ _ l0 4096 t111 t114 t115 _ ?side1 A2.out).mono ?_); (case side1 => exact Kd.V_mk HC0.out (Kd.F_below (Kd.C_F (Kd.heap_int .u8) HR0.out) (zL HB.out))); rintro e w25 ⟨v112, rfl, ho0, hb⟩; have n0_ := am (Kd.V_lower (Kd.V_mono (ok' := fun k_ => True) ho0 (fun k_ hk_ => trivial)) (below_size (zL HB.out))); have n1_ := am (below_step (zL HB.out) hb); clear HB; have HO113 := n0_; have HB := n1_; clear n0_ n1_; (try clear hb); (try clear hb2); (try clear hk); (try clear hi); (try clear ho0); have p116 : 0 ≤ (t114 : Int) := of_decide_eq_true (by first | (with_reducible assumption) | assumption); have q116 : t114 < (l0.length : Int) := of_decide_eq_true (by first | (with_reducible assumption) | assumption); obtain ⟨ad116, e116, hx116_0⟩ := Kd.at_int HR0.out t114 p116 q116; cases e116; replace hx116_0 := (HB.out.cell (World.block_lt_of_cell? w _ hx116_0)).trans hx116_0; replace p116 := eq_true p116; replace q116 := eq_true q116; have p117 : 0 ≤ ((ji8) : Int) := of_decide_eq_true (by first | (with_reducible assumption) | assumption); have q117 : (ji8) < (l0.length : Int) := of_decide_eq_true (by first | (with_reducible assumption) | assumption); obtain ⟨ad117, e117, hx117_0⟩ := Kd.at_int HR0.out (ji8) p117 q117; obtain rfl : ad116 = ad117 := (by injection e117); replace hx117_0 := (HB.out.cell (World.block_lt_of_cell? w _ hx117_0)).trans hx117_0; replace p117 := eq_true p117; replace q117 := eq_true q117; have p118 : 0 ≤ ((ji11) : Int) := of_decide_eq_true (by first | (with_reducible assumption) | assumption); have q118 : (ji11) < (l0.length : Int) := of_decide_eq_true (by first | (with_reducible assumption) | assumption); obtain ⟨ad118, e118, hx118_0⟩ := Kd.at_int HR0.out (ji11) p118 q118; obtain rfl : ad116 = ad118 := (by injection e118); replace hx118_0 := (HB.out.cell (World.block_lt_of_cell? w _ hx118_0)).trans hx118_0; replace p118 := eq_true p118; replace q118 := eq_true q118; have p119 : 0 ≤ ((ji14) : Int) := of_decide_eq_true (by first | (with_reducible assumption) | assumption); have q119 : (ji14) < (l0.length : Int) := of_decide_eq_true (by first | (with_reducible assumption) | assumption); obtain ⟨ad119, e119, hx119_0⟩ := Kd.at_int HR0.out (ji14) p119 q119; obtain rfl : ad116 = ad119 := (by injection e119); replace hx119_0 := (HB.out.cell (World.block_lt_of_cell? w _ hx119_0)).trans hx119_0; replace p119 := eq_true p119; replace q119 := eq_true q119; obtain ⟨Ao26, co26, eo26⟩ := Kd.V_slice HO113.out; subst eo26) | (go_at_call 31; (with_reducible refine (codec_Checksum.calls k _ _ t111 t120 _ ?side1 ?side2 A17.out).mono ?_); (case side1 => exact zC (Kd.V_reads' HO113.out).2.2); (case side2 => exact (Kd.V_reads' HO113.out).2.1); rintro e w' ⟨rfl, ⟨nd, rfl⟩⟩; (try first | exact ⟨rfl, _, World.drewN_drewN _ _ _⟩ | exact ⟨rfl, _, Eq.trans (World.drewN_drewN _ _ _) (congrArg (World.drewN _) (Nat.add_assoc _ _ _))⟩))))
            go_ret3
            exact ⟨_, by first | rfl | (simp [errW_none, errW_some] <;> rfl) | (simp only [← hji8, ← hji11, ← hji14]; first | rfl | (simp [errW_none, errW_some] <;> rfl)) | (simp [*, errW_none, errW_some] <;> rfl), by first | exact Kd.R_nil _ _ _ _ _ | exact Kd.N_nil _ _ _ _ _ | exact Kd.V_nil _ _ _ _ _ | exact Kd.Q_nil _ _ _ _ _ | exact Kd.S_nil _ _ _ _ _, zL HB.out⟩
          ·rw [if_neg c16] at H
           exact absurd H (by simp)
         ·rw [if_neg c15] at H
          exact absurd H (by simp)
        ·rw [if_neg c13] at H
         exact absurd H (by simp)
       ·rw [if_neg c12] at H
        exact absurd H (by simp)
      ·rw [if_neg c10] at H
       exact absurd H (by simp)
     ·rw [if_neg c9] at H
      exact absurd H (by simp)
    ·rw [if_neg c7] at H
     exact absurd H (by simp)
   ·rw [if_neg c6] at H
    exact absurd H (by simp)
 ·rw [if_neg c3] at H
  have c3b0 : (t115 == 0) = false := beq_eq_false_iff_ne.mpr c3
  have c3b1 : (t115 != 0) = true := bne_iff_ne.mpr c3
  simp only [Option.some.injEq, Prod.mk.injEq] at H
  obtain ⟨rfl, rfl, rfl⟩ := H
  go_enter Try.func35, Try.ntmps35
  go_wp2_with (first | (go_at_call 38; (with_reducible refine (codec_sized.calls k (fun k_ => k_ < w.heap.size) _ _ l0 4096 t111 t114 t115 _ ?side1 A2.out).mono ?_); (case side1 => exact Kd.V_mk HC0.out (Kd.F_below (Kd.C_F (Kd.heap_int .u8) HR0.out) (zL HB.out))); rintro e w27 ⟨v112, rfl, ho0, hb⟩; have n0_ := am (Kd.V_lower (Kd.V_mono (ok' := fun k_ => True) ho0 (fun k_ hk_ => trivial)) (below_size (zL HB.out))); have n1_ := am (below_step (zL HB.out) hb); clear HB; have HO113 := n0_; have HB := n1_; clear n0_ n1_; (try clear hb); (try clear hb2); (try clear hk); (try clear hi); (try clear ho0)))
  repeat (go_quiet (first | (go_at_call 38; (with_reducible refine (codec_sized.calls k (fun k_ => k_ < w.heap.size) _ _ l0 4096 t111 t114 t115 _ ?side1 A2.out).mono ?_); (case side1 => exact Kd.V_mk HC0.out (Kd.F_below (Kd.C_F (Kd.heap_int .u8) HR0.out) (zL HB.out))); rintro e w27 ⟨v112, rfl, ho0, hb⟩; have n0_ := am (Kd.V_lower (Kd.V_mono (ok' := fun k_ => True) ho0 (fun k_ hk_ => trivial)) (below_size (zL HB.out))); have n1_ := am (below_step (zL HB.out) hb); clear HB; have HO113 := n0_; have HB := n1_; clear n0_ n1_; (try clear hb); (try clear hb2); (try clear hk); (try clear hi); (try clear ho0))); try go_wp2_with (first | (go_at_call 38; (with_reducible refine (codec_sized.calls k (fun k_ => k_ < w.heap.size) _ _ l0 4096 t111 t114 t115 _ ?side1 A2.out).mono ?_); (case side1 => exact Kd.V_mk HC0.out (Kd.F_below (Kd.C_F (Kd.heap_int .u8) HR0.out) (zL HB.out))); rintro e w27 ⟨v112, rfl, ho0, hb⟩; have n0_ := am (Kd.V_lower (Kd.V_mono (ok' := fun k_ => True) ho0 (fun k_ hk_ => trivial)) (below_size (zL HB.out))); have n1_ := am (below_step (zL HB.out) hb); clear HB; have HO113 := n0_; have HB := n1_; clear n0_ n1_; (try clear hb); (try clear hb2); (try clear hk); (try clear hi); (try clear ho0))))
  go_ret3
  exact ⟨_, by first | rfl | (simp [errW_none, errW_some] <;> rfl) | (simp [*, errW_none, errW_some] <;> rfl), by first | exact Kd.R_nil _ _ _ _ _ | exact Kd.N_nil _ _ _ _ _ | exact Kd.V_nil _ _ _ _ _ | exact Kd.Q_nil _ _ _ _ _ | exact Kd.S_nil _ _ _ _ _, zL HB.out⟩

end Go.Proofs.Ytjdicbffpbpenaa.Y
