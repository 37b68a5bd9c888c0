-- Laid by a program of this session's (xprint.py, which runs the kit's print.py with patches of its own). Lean checks it.
import Derived.Test.YtnhdppfmdhdmdaaY0
import Derived.Test.YtnhdppfmdhdmdaaY1
namespace Go.Proofs.Ytnhdppfmdhdmdaa.Y
open Go.RowKit Go.Proofs.YtnhdppfmdhdmdaaW.PrintWords Go.Proofs.YtnhdppfmdhdmdaaW.PrintLast Go.Proofs.YtnhdppfmdhdmdaaW.PrintMore
attribute [local go_sem] max2_int min2_int max_two min_two max_three min_three max_four min_four   -- for this text's walks alone
set_option linter.unusedVariables false
set_option linter.unusedSimpArgs false

/-! ### channel_Spoil: function 13 -/
def channel_Spoil.f (k : Nat) (l0 : List (List Int)) (a1 : Int) (a2 : Int) (a3 : Int) : Option ((List (List Int)) × Int) := (channel_check.f l0 a1).bind fun t122 => (if t122 = 0 then ((channel_copied.f k l0).bind fun t123 => (if 0 ≤ a1 then (if a1 < (t123.length : Int) then (if ((rd_L1 t123 a1).length : Int) = 0 then (none) else (if 0 ≤ (Int.tmod (wrap64 ((Int.tmod a2 ((rd_L1 t123 a1).length : Int)) + ((rd_L1 t123 a1).length : Int))) ((rd_L1 t123 a1).length : Int)) then (if (Int.tmod (wrap64 ((Int.tmod a2 ((rd_L1 t123 a1).length : Int)) + ((rd_L1 t123 a1).length : Int))) ((rd_L1 t123 a1).length : Int)) < ((rd_L1 t123 a1).length : Int) then (some ((t123.set (a1 : Int).toNat ((rd_L1 t123 a1).set ((Int.tmod (wrap64 ((Int.tmod a2 ((rd_L1 t123 a1).length : Int)) + ((rd_L1 t123 a1).length : Int))) ((rd_L1 t123 a1).length : Int)) : Int).toNat (Go.bits .xor .u8 (rd (rd_L1 t123 a1) (Int.tmod (wrap64 ((Int.tmod a2 ((rd_L1 t123 a1).length : Int)) + ((rd_L1 t123 a1).length : Int))) ((rd_L1 t123 a1).length : Int))) ((a3) % 256)))), 0)) else (none)) else (none))) else (none)) else (none))) else (some (([] : List (List Int)), t122)))
theorem channel_Spoil.mono : ∀ a0 a1 a2 a3 k, LeO (channel_Spoil.f k a0 a1 a2 a3) (channel_Spoil.f (k + 1) a0 a1 a2 a3) := by
 intro a0 a1 a2 a3 k
 unfold channel_Spoil.f
 repeat' first
   | (with_reducible exact channel_copied.mono _ _)
   | (with_reducible exact LeO.refl _)
   | (with_reducible exact LeO.none _)
   | (with_reducible refine LeO.ite ?_ ?_)
   | (with_reducible refine LeO.bind ?_ (fun _ => ?_))
   | exact channel_copied.mono _ _
   | exact LeO.none _
   | refine LeO.ite ?_ ?_
   | refine LeO.bind ?_ (fun _ => ?_)
def channel_Spoil.T6 : Bool × List (List Nat × List Nat) := (true, [([], []), ([], []), ([0, 1], [0, 1]), ([2], [2]), ([], []), ([], []), ([4, 5], [4, 5]), ([], []), ([6, 7], [6, 7]), ([], []), ([8, 9], [8, 9]), ([3, 10], [3, 10]), ([11], [11]), ([], []), ([13], [13]), ([12, 14], [12, 14]), ([3, 10, 0, 1, 2, 3, 4, 5, 6, 7, 8, 9, 10, 11, 12, 13, 14, 15], [3, 10]), ([16, 15, 0, 1, 2, 3, 4, 5, 6, 7, 8, 9, 10, 11, 12, 13, 14, 15], [15, 16])])
def channel_Spoil.B6 : List Nat := [0, 0, 3, 7, 0, 0, 48, 0, 240, 0, 1008, 2047, 4095, 0, 8192, 32767, 65535, 131071]
theorem channel_Spoil.tab6 : rtab .any (opsOf Try.f13 6) = channel_Spoil.T6 := by kernel_rfl
theorem channel_Spoil.bits6 : waitsOk channel_Spoil.T6.2 channel_Spoil.B6 = true := by kernel_rfl
set_option maxHeartbeats 8000000 in
set_option maxRecDepth 100000 in
theorem channel_Spoil.calls (k : Nat) (A0 : Option Addr) (c0 : Nat) (l0 : List (List Int)) (a1 : Int) (a2 : Int) (a3 : Int) (r1 : List (List Int)) (r2 : Int) (w : World) (hr0 : Kd.C (Kd.slice 5 (Kd.int .u8)) w A0 l0.length l0) (hc0 : l0.length ≤ c0) (h : channel_Spoil.f k l0 a1 a2 a3 = some (r1, r2)) :
  Calls Try.prog 13 #[.slice A0 l0.length c0, .int .i64 a1, .int .i64 a2, .int .i64 a3] w fun e w' => ∃ v0_ : Value, e = .returned (.tuple #[v0_, .int .i64 r2]) ∧ Kd.S (Kd.slice 5 (Kd.int .u8)) 25 w' w.heap.size (fun _ => True) v0_ r1 ∧ Below w.heap.size w w' := by
 have HR0 := Aside0.mk hr0
 have HC0 := Aside0.mk hc0
 clear hr0 hc0
 have HB := am (Below.refl w.heap.size w)
 have H : ((channel_check.f l0 a1).bind fun t122 => (if t122 = 0 then ((channel_copied.f k l0).bind fun t123 => (if 0 ≤ a1 then (if a1 < (t123.length : Int) then (if ((rd_L1 t123 a1).length : Int) = 0 then (none) else (if 0 ≤ (Int.tmod (wrap64 ((Int.tmod a2 ((rd_L1 t123 a1).length : Int)) + ((rd_L1 t123 a1).length : Int))) ((rd_L1 t123 a1).length : Int)) then (if (Int.tmod (wrap64 ((Int.tmod a2 ((rd_L1 t123 a1).length : Int)) + ((rd_L1 t123 a1).length : Int))) ((rd_L1 t123 a1).length : Int)) < ((rd_L1 t123 a1).length : Int) then (some ((t123.set (a1 : Int).toNat ((rd_L1 t123 a1).set ((Int.tmod (wrap64 ((Int.tmod a2 ((rd_L1 t123 a1).length : Int)) + ((rd_L1 t123 a1).length : Int))) ((rd_L1 t123 a1).length : Int)) : Int).toNat (Go.bits .xor .u8 (rd (rd_L1 t123 a1) (Int.tmod (wrap64 ((Int.tmod a2 ((rd_L1 t123 a1).length : Int)) + ((rd_L1 t123 a1).length : Int))) ((rd_L1 t123 a1).length : Int))) ((a3) % 256)))), 0)) else (none)) else (none))) else (none)) else (none))) else (some (([] : List (List Int)), t122)))) = some (r1, r2) := h
 clear h
 replace H := Option.bind_eq_some_iff.mp H
 obtain ⟨t122, A50, H⟩ := H
 replace H : (if t122 = 0 then ((channel_copied.f k l0).bind fun t123 => (if 0 ≤ a1 then (if a1 < (t123.length : Int) then (if ((rd_L1 t123 a1).length : Int) = 0 then (none) else (if 0 ≤ (Int.tmod (wrap64 ((Int.tmod a2 ((rd_L1 t123 a1).length : Int)) + ((rd_L1 t123 a1).length : Int))) ((rd_L1 t123 a1).length : Int)) then (if (Int.tmod (wrap64 ((Int.tmod a2 ((rd_L1 t123 a1).length : Int)) + ((rd_L1 t123 a1).length : Int))) ((rd_L1 t123 a1).length : Int)) < ((rd_L1 t123 a1).length : Int) then (some ((t123.set (a1 : Int).toNat ((rd_L1 t123 a1).set ((Int.tmod (wrap64 ((Int.tmod a2 ((rd_L1 t123 a1).length : Int)) + ((rd_L1 t123 a1).length : Int))) ((rd_L1 t123 a1).length : Int)) : Int).toNat (Go.bits .xor .u8 (rd (rd_L1 t123 a1) (Int.tmod (wrap64 ((Int.tmod a2 ((rd_L1 t123 a1).length : Int)) + ((rd_L1 t123 a1).length : Int))) ((rd_L1 t123 a1).length : Int))) ((a3) % 256)))), 0)) else (none)) else (none))) else (none)) else (none))) else (some (([] : List (List Int)), t122))) = some (r1, r2) := H
 have A5 := Aside0.mk A50
 clear A50
 by_cases c6 : t122 = 0
 ·rw [if_pos c6] at H
  have c6b0 : (t122 == 0) = true := beq_iff_eq.mpr c6
  have c6b1 : (t122 != 0) = false := bne_eq_false_iff_eq.mpr c6
  clear c6
  replace H := Option.bind_eq_some_iff.mp H
  obtain ⟨t123, A70, H⟩ := H
  replace H : (if 0 ≤ a1 then (if a1 < (t123.length : Int) then (if ((rd_L1 t123 a1).length : Int) = 0 then (none) else (if 0 ≤ (Int.tmod (wrap64 ((Int.tmod a2 ((rd_L1 t123 a1).length : Int)) + ((rd_L1 t123 a1).length : Int))) ((rd_L1 t123 a1).length : Int)) then (if (Int.tmod (wrap64 ((Int.tmod a2 ((rd_L1 t123 a1).length : Int)) + ((rd_L1 t123 a1).length : Int))) ((rd_L1 t123 a1).length : Int)) < ((rd_L1 t123 a1).length : Int) then (some ((t123.set (a1 : Int).toNat ((rd_L1 t123 a1).set ((Int.tmod (wrap64 ((Int.tmod a2 ((rd_L1 t123 a1).length : Int)) + ((rd_L1 t123 a1).length : Int))) ((rd_L1 t123 a1).length : Int)) : Int).toNat (Go.bits .xor .u8 (rd (rd_L1 t123 a1) (Int.tmod (wrap64 ((Int.tmod a2 ((rd_L1 t123 a1).length : Int)) + ((rd_L1 t123 a1).length : Int))) ((rd_L1 t123 a1).length : Int))) ((a3) % 256)))), 0)) else (none)) else (none))) else (none)) else (none)) = some (r1, r2) := H
  have A7 := Aside0.mk A70
  clear A70
  by_cases c8 : 0 ≤ a1
  ·rw [if_pos c8] at H
   have c8b0 : decide (0 ≤ a1) = true := decide_eq_true c8
   clear c8
   by_cases c9 : a1 < (t123.length : Int)
   ·rw [if_pos c9] at H
    have c9b0 : decide (a1 < (t123.length : Int)) = true := decide_eq_true c9
    clear c9
    by_cases c10 : ((rd_L1 t123 a1).length : Int) = 0
    ·rw [if_pos c10] at H
     exact absurd H (by simp)
    ·rw [if_neg c10] at H
     have c10b0 : (((rd_L1 t123 a1).length : Int) == 0) = false := beq_eq_false_iff_ne.mpr c10
     have c10b1 : (((rd_L1 t123 a1).length : Int) != 0) = true := bne_iff_ne.mpr c10
     have c10b2 : ¬ ((rd_L1 t123 a1) = []) := fun h_ => c10 (by rw [h_]; rfl)
     obtain ⟨ji11, hji11⟩ : ∃ j_ : Int, (Int.tmod (wrap64 ((Int.tmod a2 ((rd_L1 t123 a1).length : Int)) + ((rd_L1 t123 a1).length : Int))) ((rd_L1 t123 a1).length : Int)) = j_ := ⟨_, rfl⟩
     replace H : (if 0 ≤ (ji11) then (if (ji11) < ((rd_L1 t123 a1).length : Int) then (some ((t123.set (a1 : Int).toNat ((rd_L1 t123 a1).set ((ji11) : Int).toNat (Go.bits .xor .u8 (rd (rd_L1 t123 a1) (ji11)) ((a3) % 256)))), 0)) else (none)) else (none)) = some (r1, r2) := by first | (rw [hji11] at H; exact H) | (simp only [hji11] at H ⊢; exact H)
     (try rw [hji11] at A5)
     (try rw [hji11] at A7)
     by_cases c12 : 0 ≤ (ji11)
     ·rw [if_pos c12] at H
      have c12b0 : decide (0 ≤ (ji11)) = true := decide_eq_true c12
      clear c12
      by_cases c13 : (ji11) < ((rd_L1 t123 a1).length : Int)
      ·rw [if_pos c13] at H
       have c13b0 : decide ((ji11) < ((rd_L1 t123 a1).length : Int)) = true := decide_eq_true c13
       clear c13
       obtain ⟨y129, hy129⟩ : ∃ y_ : List Int, y_ = ((rd_L1 t123 a1).set ((ji11) : Int).toNat (Go.bits .xor .u8 (rd (rd_L1 t123 a1) (ji11)) ((a3) % 256))) := ⟨_, rfl⟩
       replace H : (some ((t123.set (a1 : Int).toNat y129), 0)) = some (r1, r2) := by first | (rw [hy129]; with_reducible exact H) | (have H2_ := (Option.bind_some _ _).symm.trans H; rw [hy129]; with_reducible exact H2_) | (have H2_ := (Option.bind_some _ _).symm.trans H; with_reducible exact H2_) | with_reducible exact H | (rw [hy129]; exact H) | exact H
       have Ny129 := Aside0.mk hy129
       clear hy129
       obtain ⟨y131, hy131⟩ : ∃ y_ : List (List Int), y_ = (t123.set (a1 : Int).toNat y129) := ⟨_, rfl⟩
       replace H : (some (y131, 0)) = some (r1, r2) := by first | (rw [hy131]; with_reducible exact H) | (have H2_ := (Option.bind_some _ _).symm.trans H; rw [hy131]; with_reducible exact H2_) | (have H2_ := (Option.bind_some _ _).symm.trans H; with_reducible exact H2_) | with_reducible exact H | (rw [hy131]; exact H) | exact H
       have Ny131 := Aside0.mk hy131
       clear hy131
       simp only [Option.some.injEq, Prod.mk.injEq] at H
       obtain ⟨rfl, rfl⟩ := H
       go_enter Try.func13, Try.ntmps13
       try go_wp2_with (first | ((with_reducible refine gate_callee (f := 28) rfl ?_); refine goesL_ (some 15) rfl rfl Try.func28 (by kernel_rfl) rfl #[.slice A0 l0.length c0, .int .i64 a1] rfl (by (try simp only [List.map_toArray, List.map_cons, List.map_nil]); first | done | rfl | (simp only [List.length_drop, List.length_take]; rfl)) ?_; (with_reducible refine (channel_check.calls _ _ l0 a1 t122 _ ?side1 ?side2 A5.out).mono ?_); (case side1 => exact zC HR0.out); (case side2 => exact HC0.out); rintro e w' ⟨rfl, ⟨nd, rfl⟩⟩; refine ⟨_, rfl, ?_⟩) | ((with_reducible refine gate_callee (f := 26) rfl ?_); refine goesL_ (some 20) rfl rfl Try.func26 (by kernel_rfl) rfl #[.slice A0 l0.length c0] rfl (by (try simp only [List.map_toArray, List.map_cons, List.map_nil]); first | done | rfl | (simp only [List.length_drop, List.length_take]; rfl)) ?_; (with_reducible refine (channel_copied.calls k _ _ l0 t123 _ ?side1 ?side2 A7.out).mono ?_); (case side1 => exact zC HR0.out); (case side2 => exact HC0.out); rintro e w15 ⟨v124, rfl, ho0, hb⟩; refine ⟨_, rfl, ?_⟩; have n0_ := am (Kd.S_lower ho0 (below_size (zL HB.out))); have n1_ := am (below_step (zL HB.out) hb); clear HB; have HO125 := n0_; have HB := n1_; clear n0_ n1_; (try clear hb); (try clear hb2); (try clear hk); (try clear hi); (try clear ho0); obtain ⟨Ao16, co16, eo16⟩ := Kd.S_slice HO125.out; subst eo16; have p126 : 0 ≤ (a1 : Int) := of_decide_eq_true (by first | (with_reducible assumption) | assumption); have q126 : a1 < (t123.length : Int) := of_decide_eq_true (by first | (with_reducible assumption) | assumption); obtain ⟨ad126, A126_0, c126_0, e126, hx126_0, hl126_0, hi126_0⟩ := at_L1 (Kd.S_reads' HO125.out).2.2 a1 p126 q126; cases e126; obtain ⟨ce126, hce126, hMe126, hcc126⟩ := Kd.S_get HO125.out [] a1 p126 (by first | exact q126 | exact of_decide_eq_true (by first | (with_reducible assumption) | assumption) | (have e_ := (Kd.S_reads' HO125.out).1; omega)); obtain ⟨ve126_0, rfl, ge126_0⟩ := hMe126; have hv126_0 := hcc126 0 _ rfl; rw [Nat.add_zero, show ((Kd.slice 5 (Kd.int .u8))).sz = 1 from rfl, Nat.mul_one] at hv126_0; replace hv126_0 := Option.some.inj (hv126_0.symm.trans hx126_0); rw [hv126_0] at ge126_0; have HL126_0 := am (show Kd.R (Kd.int .u8) 5 _ _ _ _ (rd_L1 t123 a1) from ge126_0); clear hv126_0 ge126_0; have HX126_0 := Aside0.mk hx126_0; clear hcc126 hce126; have HR126_0 := Aside0.mk hi126_0; have HC126_0 := Aside0.mk hl126_0; clear hi126_0 hl126_0; replace p126 := eq_true p126; replace q126 := eq_true q126))
       have n0_ := am (Kd.S_drew HO125.out)
       have n1_ := am (Kd.R_drew HL126_0.out)
       have n2_ := am (Kd.C_drew HR126_0.out)
       have n3_ := am (below_drew1 HB.out)
       clear HO125 HL126_0 HR126_0 HB
       have HO125 := n0_
       have HL126_0 := n1_
       have HR126_0 := n2_
       have HB := n3_
       clear n0_ n1_ n2_ n3_
       have p127 : 0 ≤ (a1 : Int) := of_decide_eq_true (by first | (with_reducible assumption) | assumption)
       have q127 : a1 < (t123.length : Int) := of_decide_eq_true (by first | (with_reducible assumption) | assumption)
       obtain ⟨ad127, A127_0, c127_0, e127, hx127_0, hl127_0, hi127_0⟩ := at_L1 (Kd.S_reads' HO125.out).2.2 a1 p127 q127
       obtain rfl : ad126 = ad127 := (by injection e127)
       obtain ⟨ce127, hce127, hMe127, hcc127⟩ := Kd.S_get HO125.out [] a1 p127 (by first | exact q127 | exact of_decide_eq_true (by first | (with_reducible assumption) | assumption) | (have e_ := (Kd.S_reads' HO125.out).1; omega))
       obtain ⟨ve127_0, rfl, ge127_0⟩ := hMe127
       have hv127_0 := hcc127 0 _ rfl
       rw [Nat.add_zero, show ((Kd.slice 5 (Kd.int .u8))).sz = 1 from rfl, Nat.mul_one] at hv127_0
       replace hv127_0 := Option.some.inj (hv127_0.symm.trans hx127_0)
       rw [hv127_0] at ge127_0
       have HL127_0 := am (show Kd.R (Kd.int .u8) 5 _ _ _ _ (rd_L1 t123 a1) from ge127_0)
       clear hv127_0 ge127_0
       have HX127_0 := Aside0.mk hx127_0
       clear hcc127 hce127
       have HR127_0 := Aside0.mk hi127_0
       have HC127_0 := Aside0.mk hl127_0
       clear hi127_0 hl127_0
       replace p127 := eq_true p127
       replace q127 := eq_true q127
       have p128 : 0 ≤ ((ji11) : Int) := of_decide_eq_true (by first | (with_reducible assumption) | assumption)
       have q128 : (ji11) < ((rd_L1 t123 a1).length : Int) := of_decide_eq_true (by first | (with_reducible assumption) | assumption)
       obtain ⟨ad128, e128, hx128_0⟩ := Kd.at_int (by repeat (first | (with_reducible exact HR127_0.out) | (with_reducible refine Kd.C_alloc ?_ _) | (with_reducible refine Kd.C_drewN ?_ _) | (with_reducible refine Kd.C_drew ?_) | exact HR127_0.out)) (ji11) p128 q128
       cases e128
       replace p128 := eq_true p128
       replace q128 := eq_true q128
       have p14 : 0 ≤ ((ji11) : Int) := of_decide_eq_true (by first | (with_reducible assumption) | assumption)
       have q14 : ((ji11) : Int) < (((rd_L1 t123 a1).length : Int) : Int) := of_decide_eq_true (by first | (with_reducible assumption) | assumption)
       obtain ⟨go14, co14, eo14, gb14, gl14, cl14, HG14⟩ := Kd.R_form HL127_0.out (by omega)
       (first | cases eo14 | (injection eo14 with ea_ en_ ec_; (first | subst ea_ | (injection ea_ with ea_; subst ea_)); subst ec_; clear en_))
       have GB14 := Aside0.mk gb14
       have GG14 := Aside0.mk HG14
       clear gb14 gl14 HG14
       (first | simp only [add_plain] at hx128_0 | skip)
       obtain ⟨hx14_0, hf14_0⟩ := Kd.R_celln 0 HL127_0.out ((ji11) : Int) p14 q14
       replace p14 := eq_true p14
       replace q14 := eq_true q14
       have hq18 : (a1 : Int) < (t123.length : Int) := (by have h_ : (a1 : Int) < ((t123.length : Int) : Int) := of_decide_eq_true (by first | (with_reducible assumption) | assumption); first | exact h_ | (have e_ := (Kd.S_reads' HO125.out).1; omega) | simpa only [List.length_set, List.length_set] using h_)
       obtain ⟨oki18, ce18, hcl18, hM18, hcc18, hok18, hbk18⟩ := Kd.S_borrow HO125.out [] (a1 : Int) (of_decide_eq_true (by first | (with_reducible assumption) | assumption)) hq18
       obtain ⟨ve18_0, rfl, ge18_0⟩ := hM18
       have hv18 := hcc18 0 _ rfl
       rw [Nat.add_zero, show ((Kd.slice 5 (Kd.int .u8))).sz = 1 from rfl, Nat.mul_one] at hv18
       replace hv18 := Option.some.inj (hv18.symm.trans HX127_0.out)
       subst hv18
       clear hcc18 hcl18
       replace ge18_0 := (show Kd.R (Kd.int .u8) 5 _ _ _ _ (rd_L1 t123 a1) from ge18_0)
       have HP18 := Kd.R_putg ge18_0 ((ji11) : Int) (Go.bits .xor .u8 (rd (rd_L1 t123 a1) (ji11)) ((a3) % 256))
       rw [← Ny129.out] at HP18
       have HS18 := hbk18 HP18.2 (fun k_ e_ => by injection e_ with e_; subst e_; exact ge18_0.1 _ rfl) (x' := y129) (Kd.M_row HP18.1)
       rw [← Ny131.out] at HS18
       have HQ18 := Aside0.mk HS18
       clear HP18 HS18 hbk18 hok18
       refine start_ (n := 18) (S := fun w' => w'.cell? (ad126.add (a1).toNat) = some (.slice (some ⟨go14, 0, none⟩) (rd_L1 t123 a1).length c127_0) ∧ w'.cell? ⟨go14, ((ji11)).toNat, none⟩ = some (.int .u8 (rd (rd_L1 t123 a1) (ji11)))) (ds := [17]) #[false, false, false, false, false, false, false, false, false, false, false, false, false, false, false, false, false, false] (by kernel_rfl) rfl rfl ⟨hx127_0, hx128_0⟩ (fun hHeld => ?_); refine with_tabW channel_Spoil.tab6 channel_Spoil.bits6 (fun HT_ HW_ => ?_)
       generalize w15.drew = w17 at HO125 HL126_0 HR126_0 HB GG14 HL127_0 HQ18 HR127_0 HX127_0 hf14_0 hx127_0 hx128_0 hx14_0 hHeld ⊢
       refine pure_ (i := 0) (N := some 26) (v := ?_) (a' := ?_) #[true, false, false, false, false, false, false, false, false, false, false, false, false, false, false, false, false, false] rfl rfl (any_of HT_.out (by kernel_rfl)) (fun _ _ _ h => h) (Or.inl ⟨by rfl, ?_⟩) ?_ ?_
       rotate_left
       ·intro w'
        go_simp
        with_reducible rfl
       rotate_left
       ·simp only [Act.put, List.setIfInBounds_toArray, List.set_cons_zero, List.set_cons_succ, i64_w, i32_w]
        rfl
       refine pure_ (i := 1) (N := some 27) (v := ?_) (a' := ?_) #[true, true, false, false, false, false, false, false, false, false, false, false, false, false, false, false, false, false] rfl rfl (any_of HT_.out (by kernel_rfl)) (fun _ _ _ h => h) (Or.inl ⟨by rfl, ?_⟩) ?_ ?_
       rotate_left
       ·intro w'
        go_simp
        with_reducible rfl
       rotate_left
       ·simp only [Act.put, List.setIfInBounds_toArray, List.set_cons_zero, List.set_cons_succ, i64_w, i32_w]
        rfl
       refine pure_ (i := 2) (N := some 28) (v := ?_) (a' := ?_) #[true, true, true, false, false, false, false, false, false, false, false, false, false, false, false, false, false, false] rfl rfl (any_of HT_.out (by kernel_rfl)) (fun _ _ _ h => h) (Or.inl ⟨by rfl, ?_⟩) ?_ ?_
       rotate_left
       ·intro w'
        go_simp
        with_reducible rfl
       rotate_left
       ·simp only [Act.put, List.setIfInBounds_toArray, List.set_cons_zero, List.set_cons_succ, i64_w, i32_w]
        rfl
       refine pure_ (i := 4) (N := some 30) (v := ?_) (a' := ?_) #[true, true, true, false, true, false, false, false, false, false, false, false, false, false, false, false, false, false] rfl rfl (any_of HT_.out (by kernel_rfl)) (fun _ _ _ h => h) (Or.inl ⟨by rfl, ?_⟩) ?_ ?_
       rotate_left
       ·intro w'
        go_simp
        with_reducible rfl
       rotate_left
       ·simp only [Act.put, List.setIfInBounds_toArray, List.set_cons_zero, List.set_cons_succ, i64_w, i32_w]
        rfl
       refine pure_ (i := 5) (N := some 31) (v := ?_) (a' := ?_) #[true, true, true, false, true, true, false, false, false, false, false, false, false, false, false, false, false, false] rfl rfl (any_of HT_.out (by kernel_rfl)) (fun _ _ _ h => h) (Or.inl ⟨by rfl, ?_⟩) ?_ ?_
       rotate_left
       ·intro w'
        go_simp
        with_reducible rfl
       rotate_left
       ·simp only [Act.put, List.setIfInBounds_toArray, List.set_cons_zero, List.set_cons_succ, i64_w, i32_w]
        rfl
       refine pure_ (i := 6) (N := some 32) (v := ?_) (a' := ?_) #[true, true, true, false, true, true, true, false, false, false, false, false, false, false, false, false, false, false] rfl rfl (any_of HT_.out (by kernel_rfl)) (fun _ _ _ h => h) (Or.inl ⟨by rfl, ?_⟩) ?_ ?_
       rotate_left
       ·intro w'
        go_simp
        with_reducible rfl
       rotate_left
       ·simp only [Act.put, List.setIfInBounds_toArray, List.set_cons_zero, List.set_cons_succ, i64_w, i32_w]
        rfl
       refine pure_ (i := 7) (N := some 33) (v := ?_) (a' := ?_) #[true, true, true, false, true, true, true, true, false, false, false, false, false, false, false, false, false, false] rfl rfl (any_of HT_.out (by kernel_rfl)) (fun _ _ _ h => h) (Or.inl ⟨by rfl, ?_⟩) ?_ ?_
       rotate_left
       ·intro w'
        go_simp
        with_reducible rfl
       rotate_left
       ·simp only [Act.put, List.setIfInBounds_toArray, List.set_cons_zero, List.set_cons_succ, i64_w, i32_w]
        rfl
       refine pure_ (i := 8) (N := some 34) (v := ?_) (a' := ?_) #[true, true, true, false, true, true, true, true, true, false, false, false, false, false, false, false, false, false] rfl rfl (any_of HT_.out (by kernel_rfl)) (fun _ _ _ h => h) (Or.inl ⟨by rfl, ?_⟩) ?_ ?_
       rotate_left
       ·intro w'
        go_simp
        with_reducible rfl
       rotate_left
       ·simp only [Act.put, List.setIfInBounds_toArray, List.set_cons_zero, List.set_cons_succ, i64_w, i32_w]
        rfl
       refine pure_ (i := 9) (N := some 35) (v := ?_) (a' := ?_) #[true, true, true, false, true, true, true, true, true, true, false, false, false, false, false, false, false, false] rfl rfl (any_of HT_.out (by kernel_rfl)) (fun _ _ _ h => h) (Or.inl ⟨by rfl, ?_⟩) ?_ ?_
       rotate_left
       ·intro w'
        go_simp
        with_reducible rfl
       rotate_left
       ·simp only [Act.put, List.setIfInBounds_toArray, List.set_cons_zero, List.set_cons_succ, i64_w, i32_w]
        rfl
       refine pure_ (i := 10) (N := some 36) (v := ?_) (a' := ?_) #[true, true, true, false, true, true, true, true, true, true, true, false, false, false, false, false, false, false] rfl rfl (any_of HT_.out (by kernel_rfl)) (fun _ _ _ h => h) (Or.inl ⟨by rfl, ?_⟩) ?_ ?_
       rotate_left
       ·intro w'
        go_simp
        with_reducible rfl
       rotate_left
       ·simp only [Act.put, List.setIfInBounds_toArray, List.set_cons_zero, List.set_cons_succ, i64_w, i32_w]
        rfl
       refine pure_ (i := 13) (N := some 39) (v := ?_) (a' := ?_) #[true, true, true, false, true, true, true, true, true, true, true, false, false, true, false, false, false, false] rfl rfl (any_of HT_.out (by kernel_rfl)) (fun _ _ _ h => h) (Or.inl ⟨by rfl, ?_⟩) ?_ ?_
       rotate_left
       ·intro w'
        go_simp
        with_reducible rfl
       rotate_left
       ·simp only [Act.put, List.setIfInBounds_toArray, List.set_cons_zero, List.set_cons_succ, i64_w, i32_w]
        rfl
       refine pure_ (i := 14) (N := some 40) (v := ?_) (a' := ?_) #[true, true, true, false, true, true, true, true, true, true, true, false, false, true, true, false, false, false] rfl rfl (any_of HT_.out (by kernel_rfl)) (fun _ _ _ h => h) (Or.inl ⟨by rfl, ?_⟩) ?_ ?_
       rotate_left
       ·intro w'
        go_simp
        with_reducible rfl
       rotate_left
       ·simp only [Act.put, List.setIfInBounds_toArray, List.set_cons_zero, List.set_cons_succ, i64_w, i32_w]
        rfl
       refine take_ (i := 3) (N := some 29) (v := ?_) (a' := ?_) #[true, true, true, true, true, true, true, true, true, true, true, false, false, true, true, false, false, false] rfl rfl (take_ofW HT_.out HW_.out (by kernel_rfl)) (fun _ _ _ h => h) (Or.inl ⟨by rfl, ?_⟩) hHeld ?_ ?_
       rotate_left
       ·rintro w' ⟨s0, s1⟩
        go_simp
        with_reducible rfl
       rotate_left
       ·simp only [Act.put, List.setIfInBounds_toArray, List.set_cons_zero, List.set_cons_succ, i64_w, i32_w]
        rfl
       refine pure_ (i := 11) (N := some 37) (v := ?_) (a' := ?_) #[true, true, true, true, true, true, true, true, true, true, true, true, false, true, true, false, false, false] rfl rfl (any_of HT_.out (by kernel_rfl)) (fun _ _ _ h => h) (Or.inl ⟨by rfl, ?_⟩) ?_ ?_
       rotate_left
       ·intro w'
        go_simp
        with_reducible rfl
       rotate_left
       ·simp only [Act.put, List.setIfInBounds_toArray, List.set_cons_zero, List.set_cons_succ, i64_w, i32_w]
        rfl
       refine take_ (i := 12) (N := some 38) (v := ?_) (a' := ?_) #[true, true, true, true, true, true, true, true, true, true, true, true, true, true, true, false, false, false] rfl rfl (take_ofW HT_.out HW_.out (by kernel_rfl)) (fun _ _ _ h => h) (Or.inl ⟨by rfl, ?_⟩) hHeld ?_ ?_
       rotate_left
       ·rintro w' ⟨s0, s1⟩
        go_simp
        with_reducible rfl
       rotate_left
       ·simp only [Act.put, List.setIfInBounds_toArray, List.set_cons_zero, List.set_cons_succ, i64_w, i32_w]
        rfl
       refine pure_ (i := 15) (N := some 41) (v := ?_) (a' := ?_) #[true, true, true, true, true, true, true, true, true, true, true, true, true, true, true, true, false, false] rfl rfl (any_of HT_.out (by kernel_rfl)) (fun _ _ _ h => h) (Or.inl ⟨by rfl, ?_⟩) ?_ ?_
       rotate_left
       ·intro w'
        go_simp
        with_reducible rfl
       rotate_left
       ·simp only [Act.put, List.setIfInBounds_toArray, List.set_cons_zero, List.set_cons_succ, i64_w, i32_w]
        rfl
       refine pure_ (i := 16) (N := some 42) (v := ?_) (a' := ?_) #[true, true, true, true, true, true, true, true, true, true, true, true, true, true, true, true, true, false] rfl rfl (any_of HT_.out (by kernel_rfl)) (fun _ _ _ h => h) (Or.inl ⟨by rfl, ?_⟩) ?_ ?_
       rotate_left
       ·intro w'
        go_simp
        with_reducible rfl
       rotate_left
       ·simp only [Act.put, List.setIfInBounds_toArray, List.set_cons_zero, List.set_cons_succ, i64_w, i32_w]
        rfl
       refine last_ (i := 17) (N := none) #[true, true, true, true, true, true, true, true, true, true, true, true, true, true, true, true, true, true] rfl rfl (one_of HT_.out (by kernel_rfl)) (by decide) (fun K hK => ?_)
       refine skip_ (w1 := ?_) (by rfl) rfl ?_ ?_
       rotate_left
       ·go_simp
        rfl
       refine hK.out _ _ ?_
       clear hK K
       refine done_ (done_of HT_.out (by kernel_rfl)) ?_
       have n0_ : Aside0 (Kd.S (Kd.slice 5 (Kd.int .u8)) 25 (w17.setCell ⟨go14, ((ji11) : Int).toNat, none⟩ (.int .u8 (Go.bits .xor .u8 (rd (rd_L1 t123 a1) (ji11)) ((a3) % 256)))) w.heap.size (fun _ => True) (.slice (some ad126) t123.length co16) y131) := ⟨by (with_reducible repeat (first | apply Kd.S_alloc | apply Kd.S_drewN | apply Kd.S_drew)); exact HQ18.out⟩
       have n1_ : Aside0 (Below w.heap.size w (w17.setCell ⟨go14, ((ji11) : Int).toNat, none⟩ (.int .u8 (Go.bits .xor .u8 (rd (rd_L1 t123 a1) (ji11)) ((a3) % 256))))) := ⟨by repeat (first | (with_reducible first | exact HB.out | apply ba | apply bd | apply be | refine below_set ?_ GB14.out) | exact HB.out)⟩
       (try clear HO125)
       (try clear HB)
       (try simp only [Xw.u8_w, Xw.u32_w])
       generalize (w17.setCell ⟨go14, ((ji11) : Int).toNat, none⟩ (.int .u8 (Go.bits .xor .u8 (rd (rd_L1 t123 a1) (ji11)) ((a3) % 256)))) = w20 at n0_ n1_ ⊢
       have HO125 := n0_
       have HB := n1_
       clear n0_ n1_
       try go_wp2
       go_ret2
       exact ⟨_, by first | rfl | (simp [errW_none, errW_some] <;> rfl) | (simp only [← hji11]; first | rfl | (simp [errW_none, errW_some] <;> rfl)) | (simp [*, errW_none, errW_some] <;> rfl), by (with_reducible repeat (first | apply Kd.S_alloc | apply Kd.S_drewN | apply Kd.S_drew)); exact HO125.out, zL HB.out⟩
      ·rw [if_neg c13] at H
       exact absurd H (by simp)
     ·rw [if_neg c12] at H
      exact absurd H (by simp)
   ·rw [if_neg c9] at H
    exact absurd H (by simp)
  ·rw [if_neg c8] at H
   exact absurd H (by simp)
 ·rw [if_neg c6] at H
  have c6b0 : (t122 == 0) = false := beq_eq_false_iff_ne.mpr c6
  have c6b1 : (t122 != 0) = true := bne_iff_ne.mpr c6
  simp only [Option.some.injEq, Prod.mk.injEq] at H
  obtain ⟨rfl, rfl⟩ := H
  go_enter Try.func13, Try.ntmps13
  go_wp2_with (first | ((with_reducible refine gate_callee (f := 28) rfl ?_); refine goesL_ (some 15) rfl rfl Try.func28 (by kernel_rfl) rfl #[.slice A0 l0.length c0, .int .i64 a1] rfl (by (try simp only [List.map_toArray, List.map_cons, List.map_nil]); first | done | rfl | (simp only [List.length_drop, List.length_take]; rfl)) ?_; (with_reducible refine (channel_check.calls _ _ l0 a1 t122 _ ?side1 ?side2 A5.out).mono ?_); (case side1 => exact zC HR0.out); (case side2 => exact HC0.out); rintro e w' ⟨rfl, ⟨nd, rfl⟩⟩; refine ⟨_, rfl, ?_⟩))
  go_ret2
  exact ⟨_, by first | rfl | (simp [errW_none, errW_some] <;> rfl) | (simp [*, errW_none, errW_some] <;> rfl), by first | exact Kd.S_nil _ _ _ _ _ | exact Kd.N_nil _ _ _ _ _ | exact Kd.V_nil _ _ _ _ _ | exact Kd.Q_nil _ _ _ _ _ | exact Kd.R_nil _ _ _ _ _, zL HB.out⟩

/-! ### clusterlockslaw23_awake: function 8 -/
def clusterlockslaw23_awake.f (k : Nat)  : Option (Bool) := (some ([97] : List Int)).bind fun t132 => ((channel_Send.f k ([] : List (List Int)) t132).bind fun bt135 => ((some ([98] : List Int)).bind fun t139 => ((channel_Send.f k bt135.1 t139).bind fun bt142 => ((channel_Deliver.f k bt142.1 1).bind fun bt146 => ((channel_Spoil.f k bt142.1 0 5 3).bind fun bt153 => (if bt135.2 = 0 then (if bt142.2 = 0 then (if bt146.2.2 = 0 then (if bt153.2 = 0 then (if (strOfNums bt146.1).toList = ([98] : List UInt8) then (if (bt146.2.1.length : Int) = 1 then (if (bt153.1.length : Int) = 2 then (if 0 < (bt153.1.length : Int) then (if (strOfNums (rd_L1 bt153.1 0)).toList = ([98] : List UInt8) then ((channel_Valid.f bt142.1).bind fun t158 => (some t158)) else (none)) else (none)) else (none)) else (none)) else (none)) else (none)) else (none)) else (none)) else (none)))))))
theorem clusterlockslaw23_awake.mono : ∀ k, LeO (clusterlockslaw23_awake.f k ) (clusterlockslaw23_awake.f (k + 1) ) := by
 intro  k
 unfold clusterlockslaw23_awake.f
 repeat' first
   | (with_reducible exact channel_Deliver.mono _ _ _)
   | (with_reducible exact channel_Send.mono _ _ _)
   | (with_reducible exact channel_Spoil.mono _ _ _ _ _)
   | (with_reducible exact LeO.refl _)
   | (with_reducible exact LeO.none _)
   | (with_reducible refine LeO.ite ?_ ?_)
   | (with_reducible refine LeO.bind ?_ (fun _ => ?_))
   | exact channel_Deliver.mono _ _ _
   | exact channel_Send.mono _ _ _
   | exact channel_Spoil.mono _ _ _ _ _
   | exact LeO.none _
   | refine LeO.ite ?_ ?_
   | refine LeO.bind ?_ (fun _ => ?_)
set_option maxHeartbeats 8000000 in
set_option maxRecDepth 100000 in
theorem clusterlockslaw23_awake.calls (k : Nat)  (r : Bool) (w : World) (h : clusterlockslaw23_awake.f k  = some r) :
  Calls Try.prog 8 #[] w fun e w' => e = .returned (.bool r) ∧ Below w.heap.size w w' := by
 have HB := am (Below.refl w.heap.size w)
 have H : ((some ([97] : List Int)).bind fun t132 => ((channel_Send.f k ([] : List (List Int)) t132).bind fun bt135 => ((some ([98] : List Int)).bind fun t139 => ((channel_Send.f k bt135.1 t139).bind fun bt142 => ((channel_Deliver.f k bt142.1 1).bind fun bt146 => ((channel_Spoil.f k bt142.1 0 5 3).bind fun bt153 => (if bt135.2 = 0 then (if bt142.2 = 0 then (if bt146.2.2 = 0 then (if bt153.2 = 0 then (if (strOfNums bt146.1).toList = ([98] : List UInt8) then (if (bt146.2.1.length : Int) = 1 then (if (bt153.1.length : Int) = 2 then (if 0 < (bt153.1.length : Int) then (if (strOfNums (rd_L1 bt153.1 0)).toList = ([98] : List UInt8) then ((channel_Valid.f bt142.1).bind fun t158 => (some t158)) else (none)) else (none)) else (none)) else (none)) else (none)) else (none)) else (none)) else (none)) else (none)))))))) = some r := h
 clear h
 replace H := Option.bind_eq_some_iff.mp H
 obtain ⟨t132, A10, H⟩ := H
 replace H : ((channel_Send.f k ([] : List (List Int)) t132).bind fun bt135 => ((some ([98] : List Int)).bind fun t139 => ((channel_Send.f k bt135.1 t139).bind fun bt142 => ((channel_Deliver.f k bt142.1 1).bind fun bt146 => ((channel_Spoil.f k bt142.1 0 5 3).bind fun bt153 => (if bt135.2 = 0 then (if bt142.2 = 0 then (if bt146.2.2 = 0 then (if bt153.2 = 0 then (if (strOfNums bt146.1).toList = ([98] : List UInt8) then (if (bt146.2.1.length : Int) = 1 then (if (bt153.1.length : Int) = 2 then (if 0 < (bt153.1.length : Int) then (if (strOfNums (rd_L1 bt153.1 0)).toList = ([98] : List UInt8) then ((channel_Valid.f bt142.1).bind fun t158 => (some t158)) else (none)) else (none)) else (none)) else (none)) else (none)) else (none)) else (none)) else (none)) else (none))))))) = some r := H
 have A1 := Aside0.mk A10
 clear A10
 replace H := Option.bind_eq_some_iff.mp H
 obtain ⟨⟨t135, t136⟩, A20, H⟩ := H
 replace H : ((some ([98] : List Int)).bind fun t139 => ((channel_Send.f k t135 t139).bind fun bt142 => ((channel_Deliver.f k bt142.1 1).bind fun bt146 => ((channel_Spoil.f k bt142.1 0 5 3).bind fun bt153 => (if t136 = 0 then (if bt142.2 = 0 then (if bt146.2.2 = 0 then (if bt153.2 = 0 then (if (strOfNums bt146.1).toList = ([98] : List UInt8) then (if (bt146.2.1.length : Int) = 1 then (if (bt153.1.length : Int) = 2 then (if 0 < (bt153.1.length : Int) then (if (strOfNums (rd_L1 bt153.1 0)).toList = ([98] : List UInt8) then ((channel_Valid.f bt142.1).bind fun t158 => (some t158)) else (none)) else (none)) else (none)) else (none)) else (none)) else (none)) else (none)) else (none)) else (none)))))) = some r := H
 have A2 := Aside0.mk A20
 clear A20
 replace H := Option.bind_eq_some_iff.mp H
 obtain ⟨t139, A30, H⟩ := H
 replace H : ((channel_Send.f k t135 t139).bind fun bt142 => ((channel_Deliver.f k bt142.1 1).bind fun bt146 => ((channel_Spoil.f k bt142.1 0 5 3).bind fun bt153 => (if t136 = 0 then (if bt142.2 = 0 then (if bt146.2.2 = 0 then (if bt153.2 = 0 then (if (strOfNums bt146.1).toList = ([98] : List UInt8) then (if (bt146.2.1.length : Int) = 1 then (if (bt153.1.length : Int) = 2 then (if 0 < (bt153.1.length : Int) then (if (strOfNums (rd_L1 bt153.1 0)).toList = ([98] : List UInt8) then ((channel_Valid.f bt142.1).bind fun t158 => (some t158)) else (none)) else (none)) else (none)) else (none)) else (none)) else (none)) else (none)) else (none)) else (none))))) = some r := H
 have A3 := Aside0.mk A30
 clear A30
 replace H := Option.bind_eq_some_iff.mp H
 obtain ⟨⟨t142, t143⟩, A40, H⟩ := H
 replace H : ((channel_Deliver.f k t142 1).bind fun bt146 => ((channel_Spoil.f k t142 0 5 3).bind fun bt153 => (if t136 = 0 then (if t143 = 0 then (if bt146.2.2 = 0 then (if bt153.2 = 0 then (if (strOfNums bt146.1).toList = ([98] : List UInt8) then (if (bt146.2.1.length : Int) = 1 then (if (bt153.1.length : Int) = 2 then (if 0 < (bt153.1.length : Int) then (if (strOfNums (rd_L1 bt153.1 0)).toList = ([98] : List UInt8) then ((channel_Valid.f t142).bind fun t158 => (some t158)) else (none)) else (none)) else (none)) else (none)) else (none)) else (none)) else (none)) else (none)) else (none)))) = some r := H
 have A4 := Aside0.mk A40
 clear A40
 replace H := Option.bind_eq_some_iff.mp H
 obtain ⟨⟨t146, t149, t152⟩, A50, H⟩ := H
 replace H : ((channel_Spoil.f k t142 0 5 3).bind fun bt153 => (if t136 = 0 then (if t143 = 0 then (if t152 = 0 then (if bt153.2 = 0 then (if (strOfNums t146).toList = ([98] : List UInt8) then (if (t149.length : Int) = 1 then (if (bt153.1.length : Int) = 2 then (if 0 < (bt153.1.length : Int) then (if (strOfNums (rd_L1 bt153.1 0)).toList = ([98] : List UInt8) then ((channel_Valid.f t142).bind fun t158 => (some t158)) else (none)) else (none)) else (none)) else (none)) else (none)) else (none)) else (none)) else (none)) else (none))) = some r := H
 have A5 := Aside0.mk A50
 clear A50
 replace H := Option.bind_eq_some_iff.mp H
 obtain ⟨⟨t153, t154⟩, A60, H⟩ := H
 replace H : (if t136 = 0 then (if t143 = 0 then (if t152 = 0 then (if t154 = 0 then (if (strOfNums t146).toList = ([98] : List UInt8) then (if (t149.length : Int) = 1 then (if (t153.length : Int) = 2 then (if 0 < (t153.length : Int) then (if (strOfNums (rd_L1 t153 0)).toList = ([98] : List UInt8) then ((channel_Valid.f t142).bind fun t158 => (some t158)) else (none)) else (none)) else (none)) else (none)) else (none)) else (none)) else (none)) else (none)) else (none)) = some r := H
 have A6 := Aside0.mk A60
 clear A60
 by_cases c7 : t136 = 0
 ·rw [if_pos c7] at H
  have c7b0 : (t136 == 0) = true := beq_iff_eq.mpr c7
  have c7b1 : (t136 != 0) = false := bne_eq_false_iff_eq.mpr c7
  clear c7
  by_cases c8 : t143 = 0
  ·rw [if_pos c8] at H
   have c8b0 : (t143 == 0) = true := beq_iff_eq.mpr c8
   have c8b1 : (t143 != 0) = false := bne_eq_false_iff_eq.mpr c8
   clear c8
   by_cases c9 : t152 = 0
   ·rw [if_pos c9] at H
    have c9b0 : (t152 == 0) = true := beq_iff_eq.mpr c9
    have c9b1 : (t152 != 0) = false := bne_eq_false_iff_eq.mpr c9
    clear c9
    by_cases c10 : t154 = 0
    ·rw [if_pos c10] at H
     have c10b0 : (t154 == 0) = true := beq_iff_eq.mpr c10
     have c10b1 : (t154 != 0) = false := bne_eq_false_iff_eq.mpr c10
     clear c10
     by_cases c11 : (strOfNums t146).toList = ([98] : List UInt8)
     ·rw [if_pos c11] at H
      have c11b0 : ((strOfNums t146).toList == ([98] : List UInt8)) = true := beq_iff_eq.mpr c11
      have c11b1 : ((strOfNums t146).toList != ([98] : List UInt8)) = false := bne_eq_false_iff_eq.mpr c11
      clear c11
      by_cases c12 : (t149.length : Int) = 1
      ·rw [if_pos c12] at H
       have c12b0 : ((t149.length : Int) == 1) = true := beq_iff_eq.mpr c12
       have c12b1 : ((t149.length : Int) != 1) = false := bne_eq_false_iff_eq.mpr c12
       clear c12
       by_cases c13 : (t153.length : Int) = 2
       ·rw [if_pos c13] at H
        have c13b0 : ((t153.length : Int) == 2) = true := beq_iff_eq.mpr c13
        have c13b1 : ((t153.length : Int) != 2) = false := bne_eq_false_iff_eq.mpr c13
        clear c13
        by_cases c14 : 0 < (t153.length : Int)
        ·rw [if_pos c14] at H
         have c14b0 : decide (0 < (t153.length : Int)) = true := decide_eq_true c14
         have c14b1 : decide (0 < t153.length) = true := decide_eq_true (by omega)
         clear c14
         by_cases c15 : (strOfNums (rd_L1 t153 0)).toList = ([98] : List UInt8)
         ·rw [if_pos c15] at H
          have c15b0 : ((strOfNums (rd_L1 t153 0)).toList == ([98] : List UInt8)) = true := beq_iff_eq.mpr c15
          have c15b1 : ((strOfNums (rd_L1 t153 0)).toList != ([98] : List UInt8)) = false := bne_eq_false_iff_eq.mpr c15
          clear c15
          replace H := Option.bind_eq_some_iff.mp H
          obtain ⟨t158, A160, H⟩ := H
          replace H : (some t158) = some r := H
          have A16 := Aside0.mk A160
          clear A160
          obtain rfl := Option.some.inj H
          go_enter Try.func8, Try.ntmps8
          go_wp2_with (first | ((with_reducible refine gate_dst (N := 10) rfl ?_); (try (refine gate_guard (by rfl) ?_; dsimp only)); refine Xw.bytesL_ 10 11 25 5 (by rfl) rfl (fun _ => by rfl) rfl rfl Try.underlying25 Try.underlying5 ([97] : List Int) ?hr (fun _ => rfl) (by simp) ?_; (case hr => first | (go_simp; done) | (go_simp; rfl)); intro v133 w17 ho0 hb; rw [Option.some.inj A1.out] at ho0; have n0_ := am (Kd.V_lower (Kd.V_mono (ok' := fun k_ => True) ho0 (fun k_ hk_ => trivial)) (below_size (zL HB.out))); have n1_ := am (below_step (zL HB.out) hb); clear HB; have HO134 := n0_; have HB := n1_; clear n0_ n1_; (try clear hb); (try clear hb2); (try clear hk); (try clear hi); (try clear ho0); obtain ⟨Ao18, co18, eo18⟩ := Kd.V_slice HO134.out; subst eo18) | ((with_reducible refine gate_callee (f := 9) rfl ?_); refine goesL_ (some 12) rfl rfl Try.func9 (by kernel_rfl) rfl #[.slice none 0 0, .slice Ao18 t132.length co18] rfl (by (try simp only [List.map_toArray, List.map_cons, List.map_nil]); first | done | rfl | (simp only [List.length_drop, List.length_take]; rfl)) ?_; (refine (channel_Send.calls k _ _ ([] : List (List Int)) _ _ t132 t135 t136 _ ?side1 ?side2 ?side3 ?side4 A2.out).mono ?_); (case side1 => exact Kd.C_nil _ _); (case side2 => exact Nat.le_refl _); (case side3 => exact zC (Kd.V_reads' HO134.out).2.2); (case side4 => exact (Kd.V_reads' HO134.out).2.1); rintro e w19 ⟨v137, rfl, ho0, hb⟩; refine ⟨_, rfl, ?_⟩; have n0_ := am (Kd.V_elder' (by (with_reducible repeat (first | apply Kd.V_alloc | apply Kd.V_drewN | apply Kd.V_drew)); exact HO134.out) (Kd.S_base ho0) hb); have n1_ := am (Kd.S_lower ho0 (below_size (zL HB.out))); have n2_ := am (below_step (zL HB.out) hb); clear HO134 HB; have HO134 := n0_; have HO138 := n1_; have HB := n2_; clear n0_ n1_ n2_; (try clear hb); (try clear hb2); (try clear hk); (try clear hi); (try clear ho0)) | ((with_reducible refine gate_dst (N := 17) rfl ?_); (try (refine gate_guard (by rfl) ?_; dsimp only)); refine Xw.bytesL_ 17 18 25 5 (by rfl) rfl (fun _ => by rfl) rfl rfl Try.underlying25 Try.underlying5 ([98] : List Int) ?hr (fun _ => rfl) (by simp) ?_; (case hr => first | (go_simp; done) | (go_simp; rfl)); intro v140 w20 ho0 hb; rw [Option.some.inj A3.out] at ho0; have n0_ := am (Kd.V_below (by (with_reducible repeat (first | apply Kd.V_alloc | apply Kd.V_drewN | apply Kd.V_drew)); exact HO134.out) hb); have n1_ := am (Kd.S_below (by (with_reducible repeat (first | apply Kd.S_alloc | apply Kd.S_drewN | apply Kd.S_drew)); exact HO138.out) hb); have n2_ := am (Kd.V_lower (Kd.V_mono (ok' := fun k_ => some k_ ≠ (v137 : Value).ownBlock) ho0 (fun k_ hk_ => (Kd.fresh' (Kd.S_lt (by (with_reducible repeat (first | apply Kd.S_alloc | apply Kd.S_drewN | apply Kd.S_drew)); exact HO138.out)) k_ hk_))) (below_size (zL HB.out))); have n3_ := am (below_step (zL HB.out) hb); clear HO134 HO138 HB; have HO134 := n0_; have HO138 := n1_; have HO141 := n2_; have HB := n3_; clear n0_ n1_ n2_ n3_; (try clear hb); (try clear hb2); (try clear hk); (try clear hi); (try clear ho0); obtain ⟨Ao21, co21, eo21⟩ := Kd.S_slice HO138.out; subst eo21; obtain ⟨Ao22, co22, eo22⟩ := Kd.V_slice HO141.out; subst eo22) | ((with_reducible refine gate_callee (f := 9) rfl ?_); refine goesL_ (some 19) rfl rfl Try.func9 (by kernel_rfl) rfl #[.slice Ao21 t135.length co21, .slice Ao22 t139.length co22] rfl (by (try simp only [List.map_toArray, List.map_cons, List.map_nil]); first | done | rfl | (simp only [List.length_drop, List.length_take]; rfl)) ?_; (with_reducible refine (channel_Send.calls k _ _ t135 _ _ t139 t142 t143 _ ?side1 ?side2 ?side3 ?side4 A4.out).mono ?_); (case side1 => exact zC (Kd.S_reads' HO138.out).2.2); (case side2 => exact (Kd.S_reads' HO138.out).2.1); (case side3 => exact zC (Kd.V_reads' HO141.out).2.2); (case side4 => exact (Kd.V_reads' HO141.out).2.1); rintro e w23 ⟨v144, rfl, ho0, hb⟩; refine ⟨_, rfl, ?_⟩; have n0_ := am (Kd.V_elder' (by (with_reducible repeat (first | apply Kd.V_alloc | apply Kd.V_drewN | apply Kd.V_drew)); exact HO134.out) (Kd.S_base ho0) hb); have n1_ := am (Kd.S_elder' (by (with_reducible repeat (first | apply Kd.S_alloc | apply Kd.S_drewN | apply Kd.S_drew)); exact HO138.out) (Kd.S_base ho0) hb); have n2_ := am (Kd.V_elder' (by (with_reducible repeat (first | apply Kd.V_alloc | apply Kd.V_drewN | apply Kd.V_drew)); exact HO141.out) (Kd.S_base ho0) hb); have n3_ := am (Kd.S_lower (Kd.S_new' ho0 (Kd.S_lt (by (with_reducible repeat (first | apply Kd.S_alloc | apply Kd.S_drewN | apply Kd.S_drew)); exact HO138.out))) (below_size (zL HB.out))); have n4_ := am (below_step (zL HB.out) hb); clear HO134 HO138 HO141 HB; have HO134 := n0_; have HO138 := n1_; have HO141 := n2_; have HO145 := n3_; have HB := n4_; clear n0_ n1_ n2_ n3_ n4_; (try clear hb); (try clear hb2); (try clear hk); (try clear hi); (try clear ho0); obtain ⟨Ao24, co24, eo24⟩ := Kd.S_slice HO145.out; subst eo24) | ((with_reducible refine gate_callee (f := 10) rfl ?_); refine goesL_ (some 24) rfl rfl Try.func10 (by kernel_rfl) rfl #[.slice Ao24 t142.length co24, .int .i64 1] rfl (by (try simp only [List.map_toArray, List.map_cons, List.map_nil]); first | done | rfl | (simp only [List.length_drop, List.length_take]; rfl)) ?_; (with_reducible refine (channel_Deliver.calls k _ _ t142 1 t146 t149 t152 _ ?side1 ?side2 A5.out).mono ?_); (case side1 => exact zC (Kd.S_reads' HO145.out).2.2); (case side2 => exact (Kd.S_reads' HO145.out).2.1); rintro e w25 ⟨v147, v150, rfl, ho0, ho1, hb⟩; refine ⟨_, rfl, ?_⟩; have n0_ := am (Kd.V_elder' (by (with_reducible repeat (first | apply Kd.V_alloc | apply Kd.V_drewN | apply Kd.V_drew)); exact HO134.out) (Kd.R_base ho0) hb); have n1_ := am (Kd.S_elder' (by (with_reducible repeat (first | apply Kd.S_alloc | apply Kd.S_drewN | apply Kd.S_drew)); exact HO138.out) (Kd.R_base ho0) hb); have n2_ := am (Kd.V_elder' (by (with_reducible repeat (first | apply Kd.V_alloc | apply Kd.V_drewN | apply Kd.V_drew)); exact HO141.out) (Kd.R_base ho0) hb); have n3_ := am (Kd.S_elder' (by (with_reducible repeat (first | apply Kd.S_alloc | apply Kd.S_drewN | apply Kd.S_drew)); exact HO145.out) (Kd.R_base ho0) hb); have n4_ := am (Kd.R_lower (Kd.R_mono (ok' := fun k_ => True) ho0 (fun _ hk_ => trivial)) (below_size (zL HB.out))); have n5_ := am (Kd.V_lower (Kd.V_mono (ok' := fun k_ => some k_ ≠ (v147 : Value).ownBlock ∧ some k_ ≠ (.slice Ao21 t135.length co21 : Value).ownBlock ∧ some k_ ≠ (.slice Ao24 t142.length co24 : Value).ownBlock) ho1 (fun k_ hk_ => ⟨hk_.2, (Kd.fresh' (Kd.S_lt (by (with_reducible repeat (first | apply Kd.S_alloc | apply Kd.S_drewN | apply Kd.S_drew)); exact HO138.out)) k_ hk_.1), (Kd.fresh' (Kd.S_lt (by (with_reducible repeat (first | apply Kd.S_alloc | apply Kd.S_drewN | apply Kd.S_drew)); exact HO145.out)) k_ hk_.1)⟩)) (below_size (zL HB.out))); have n6_ := am (below_step (zL HB.out) hb); clear HO134 HO138 HO141 HO145 HB; have HO134 := n0_; have HO138 := n1_; have HO141 := n2_; have HO145 := n3_; have HO148 := n4_; have HO151 := n5_; have HB := n6_; clear n0_ n1_ n2_ n3_ n4_ n5_ n6_; (try clear hb); (try clear hb2); (try clear hk); (try clear hi); (try clear ho0); (try clear ho1)) | ((with_reducible refine gate_callee (f := 13) rfl ?_); refine goesL_ (some 30) rfl rfl Try.func13 (by kernel_rfl) rfl #[.slice Ao24 t142.length co24, .int .i64 0, .int .i64 5, .int .i64 3] rfl (by (try simp only [List.map_toArray, List.map_cons, List.map_nil]); first | done | rfl | (simp only [List.length_drop, List.length_take]; rfl)) ?_; (with_reducible refine (channel_Spoil.calls k _ _ t142 0 5 3 t153 t154 _ ?side1 ?side2 A6.out).mono ?_); (case side1 => exact zC (Kd.S_reads' HO145.out).2.2); (case side2 => exact (Kd.S_reads' HO145.out).2.1); rintro e w26 ⟨v155, rfl, ho0, hb⟩; refine ⟨_, rfl, ?_⟩; have n0_ := am (Kd.V_elder' (by (with_reducible repeat (first | apply Kd.V_alloc | apply Kd.V_drewN | apply Kd.V_drew)); exact HO134.out) (Kd.S_base ho0) hb); have n1_ := am (Kd.S_elder' (by (with_reducible repeat (first | apply Kd.S_alloc | apply Kd.S_drewN | apply Kd.S_drew)); exact HO138.out) (Kd.S_base ho0) hb); have n2_ := am (Kd.V_elder' (by (with_reducible repeat (first | apply Kd.V_alloc | apply Kd.V_drewN | apply Kd.V_drew)); exact HO141.out) (Kd.S_base ho0) hb); have n3_ := am (Kd.S_elder' (by (with_reducible repeat (first | apply Kd.S_alloc | apply Kd.S_drewN | apply Kd.S_drew)); exact HO145.out) (Kd.S_base ho0) hb); have n4_ := am (Kd.R_below (zR HO148.out) hb); have n5_ := am (Kd.V_elder' (by (with_reducible repeat (first | apply Kd.V_alloc | apply Kd.V_drewN | apply Kd.V_drew)); exact HO151.out) (Kd.S_base ho0) hb); have n6_ := am (Kd.S_lower (Kd.S_new' (Kd.S_new' (Kd.S_new' ho0 (Kd.S_lt (by (with_reducible repeat (first | apply Kd.S_alloc | apply Kd.S_drewN | apply Kd.S_drew)); exact HO138.out))) (Kd.S_lt (by (with_reducible repeat (first | apply Kd.S_alloc | apply Kd.S_drewN | apply Kd.S_drew)); exact HO145.out))) (Kd.R_lt (zR HO148.out))) (below_size (zL HB.out))); have n7_ := am (below_step (zL HB.out) hb); clear HO134 HO138 HO141 HO145 HO148 HO151 HB; have HO134 := n0_; have HO138 := n1_; have HO141 := n2_; have HO145 := n3_; have HO148 := n4_; have HO151 := n5_; have HO156 := n6_; have HB := n7_; clear n0_ n1_ n2_ n3_ n4_ n5_ n6_ n7_; (try clear hb); (try clear hb2); (try clear hk); (try clear hi); (try clear ho0); have hcv27 := own_string (P := Try.prog) Try.underlying25 Try.underlying5 Try.underlying9 (Kd.own_of_R HO148.out); have hcv28 := fun (nq_ : Nat) => own_string (P := Try.prog) Try.underlying25 Try.underlying5 Try.underlying9 (Kd.own_of_R (Kd.R_drewN HO148.out nq_)); obtain ⟨Ao29, co29, eo29⟩ := Kd.V_slice HO151.out; subst eo29; obtain ⟨Ao30, co30, eo30⟩ := Kd.S_slice HO156.out; subst eo30; have p157 : 0 ≤ (0 : Int) := (by omega); have q157 : 0 < (t153.length : Int) := of_decide_eq_true (by first | (with_reducible assumption) | assumption); obtain ⟨ad157, A157_0, c157_0, e157, hx157_0, hl157_0, hi157_0⟩ := at_L1 (Kd.S_reads' HO156.out).2.2 0 p157 q157; cases e157; obtain ⟨ce157, hce157, hMe157, hcc157⟩ := Kd.S_get HO156.out [] 0 p157 (by first | exact q157 | exact of_decide_eq_true (by first | (with_reducible assumption) | assumption) | (have e_ := (Kd.S_reads' HO156.out).1; omega)); obtain ⟨ve157_0, rfl, ge157_0⟩ := hMe157; have hv157_0 := hcc157 0 _ rfl; rw [Nat.add_zero, show ((Kd.slice 5 (Kd.int .u8))).sz = 1 from rfl, Nat.mul_one] at hv157_0; replace hv157_0 := Option.some.inj (hv157_0.symm.trans hx157_0); rw [hv157_0] at ge157_0; have HL157_0 := am (show Kd.R (Kd.int .u8) 5 _ _ _ _ (rd_L1 t153 0) from ge157_0); clear hv157_0 ge157_0; clear hcc157 hce157; have qi157 : (0 < t153.length) = True := eq_true (by omega); (try rw [show ((0 : Int)).toNat = 0 from rfl] at hx157_0); (try rw [Addr.add_zero'] at hx157_0); have HR157_0 := Aside0.mk hi157_0; have HC157_0 := Aside0.mk hl157_0; clear hi157_0 hl157_0; replace p157 := eq_true p157; replace q157 := eq_true q157; have hcv31 := Kd.C_string (P := Try.prog) (A := A157_0) (c := c157_0) Try.underlying25 Try.underlying5 Try.underlying9 (by repeat (first | (with_reducible exact HR157_0.out) | (with_reducible refine Kd.C_alloc ?_ _) | (with_reducible refine Kd.C_drewN ?_ _) | (with_reducible refine Kd.C_drew ?_) | exact HR157_0.out))) | (go_at_call 22; (with_reducible refine (channel_Valid.calls _ _ t142 t158 _ ?side1 ?side2 A16.out).mono ?_); (case side1 => exact zC (Kd.S_reads' HO145.out).2.2); (case side2 => exact (Kd.S_reads' HO145.out).2.1); rintro e w' ⟨rfl, ⟨nd, rfl⟩⟩))
          go_ret
          exact ⟨by first | rfl | (simp [errW_none, errW_some] <;> rfl) | (simp [*, errW_none, errW_some] <;> rfl), zL HB.out⟩
         ·rw [if_neg c15] at H
          exact absurd H (by simp)
        ·rw [if_neg c14] at H
         exact absurd H (by simp)
       ·rw [if_neg c13] at H
        exact absurd H (by simp)
      ·rw [if_neg c12] at H
       exact absurd H (by simp)
     ·rw [if_neg c11] at H
      exact absurd H (by simp)
    ·rw [if_neg c10] at H
     exact absurd H (by simp)
   ·rw [if_neg c9] at H
    exact absurd H (by simp)
  ·rw [if_neg c8] at H
   exact absurd H (by simp)
 ·rw [if_neg c7] at H
  exact absurd H (by simp)

/-! ### clusterlocksref23_packet: function 29 -/
def clusterlocksref23_packet.f (l0 : List Int) : Option (Bool) := if (l0.length : Int) ≥ 1 then (some (decide ((l0.length : Int) ≤ 8192))) else (some false)
set_option maxHeartbeats 8000000 in
set_option maxRecDepth 100000 in
theorem clusterlocksref23_packet.calls (A0 : Option Addr) (c0 : Nat) (l0 : List Int) (r : Bool) (w : World) (hr0 : Kd.C (Kd.int .u8) w A0 l0.length l0) (hc0 : l0.length ≤ c0) (h : clusterlocksref23_packet.f l0 = some r) :
  Calls Try.prog 29 #[.slice A0 l0.length c0] w fun e w' => e = .returned (.bool r) ∧ Drawn0 w w' := by
 have HR0 := Aside0.mk hr0
 have HC0 := Aside0.mk hc0
 clear hr0 hc0
 have H : (if (l0.length : Int) ≥ 1 then (some (decide ((l0.length : Int) ≤ 8192))) else (some false)) = some r := h
 clear h
 by_cases c2 : (l0.length : Int) ≥ 1
 ·rw [if_pos c2] at H
  have c2b0 : decide (1 ≤ (l0.length : Int)) = true := decide_eq_true c2
  have c2b1 : decide (1 ≤ l0.length) = true := decide_eq_true (by omega)
  clear c2
  obtain rfl := Option.some.inj H
  go_enter Try.func29, Try.ntmps29
  go_wp2
  go_ret
  exact ⟨by first | rfl | (simp; done) | (simp [*]; done), by repeat (first | exact Drawn0.refl _ | apply Drawn0.step)⟩
 ·rw [if_neg c2] at H
  have c2b0 : decide (1 ≤ (l0.length : Int)) = false := decide_eq_false c2
  have c2b1 : decide (1 ≤ l0.length) = false := decide_eq_false (by omega)
  clear c2
  obtain rfl := Option.some.inj H
  go_enter Try.func29, Try.ntmps29
  go_wp2
  go_ret
  exact ⟨by first | rfl | (simp; done) | (simp [*]; done), by repeat (first | exact Drawn0.refl _ | apply Drawn0.step)⟩

/-! ### clusterlocksref23_Valid: function 11 -/
def clusterlocksref23_Valid.l0 : Nat → List (List Int) → Int → Int → Option (Bool)
 | 0, _, _, _ => none
 | k + 1, x8, x9, x10 => if x10 < x9 then (if 0 ≤ x10 then (if x10 < (x8.length : Int) then ((clusterlocksref23_packet.f (rd_L1 x8 x10)).bind fun t160 => (if t160 = true then (clusterlocksref23_Valid.l0 k x8 x9 (wrap64 (x10 + 1))) else (some false))) else (none)) else (none)) else (some true)
def clusterlocksref23_Valid.f (k : Nat) (l0 : List (List Int)) : Option (Bool) := if (l0.length : Int) > 8 then (some false) else (clusterlocksref23_Valid.l0 k l0 (l0.length : Int) 0)
theorem clusterlocksref23_Valid.mono_l : ∀ k, (∀ y0 y1 y2, LeO (clusterlocksref23_Valid.l0 k y0 y1 y2) (clusterlocksref23_Valid.l0 (k + 1) y0 y1 y2))
 | 0 => fun _ _ _ r h => by simp [clusterlocksref23_Valid.l0] at h
 | k + 1 => by
  have ih0 := clusterlocksref23_Valid.mono_l k
  ·intro y0 y1 y2
   unfold clusterlocksref23_Valid.l0
   repeat' first
   | (with_reducible exact ih0 _ _ _)
   | (with_reducible exact LeO.refl _)
   | (with_reducible exact LeO.none _)
   | (with_reducible refine LeO.ite ?_ ?_)
   | (with_reducible refine LeO.bind ?_ (fun _ => ?_))
   | exact ih0 _ _ _
   | exact LeO.none _
   | refine LeO.ite ?_ ?_
   | refine LeO.bind ?_ (fun _ => ?_)
theorem clusterlocksref23_Valid.mono : ∀ a0 k, LeO (clusterlocksref23_Valid.f k a0) (clusterlocksref23_Valid.f (k + 1) a0) := by
 intro a0 k
 have ih0 := clusterlocksref23_Valid.mono_l k
 unfold clusterlocksref23_Valid.f
 repeat' first
   | (with_reducible exact ih0 _ _ _)
   | (with_reducible exact LeO.refl _)
   | (with_reducible exact LeO.none _)
   | (with_reducible refine LeO.ite ?_ ?_)
   | (with_reducible refine LeO.bind ?_ (fun _ => ?_))
   | exact ih0 _ _ _
   | exact LeO.none _
   | refine LeO.ite ?_ ?_
   | refine LeO.bind ?_ (fun _ => ?_)
set_option maxHeartbeats 8000000 in
set_option maxRecDepth 100000 in
theorem clusterlocksref23_Valid.calls (k : Nat) (A0 : Option Addr) (c0 : Nat) (l0 : List (List Int)) (r : Bool) (w : World) (hr0 : Kd.C (Kd.slice 5 (Kd.int .u8)) w A0 l0.length l0) (hc0 : l0.length ≤ c0) (h : clusterlocksref23_Valid.f k l0 = some r) :
  Calls Try.prog 11 #[.slice A0 l0.length c0] w fun e w' => e = .returned (.bool r) ∧ Drawn0 w w' := by
 have HR0 := Aside0.mk hr0
 have HC0 := Aside0.mk hc0
 clear hr0 hc0
 have H : (if (l0.length : Int) > 8 then (some false) else (clusterlocksref23_Valid.l0 k l0 (l0.length : Int) 0)) = some r := h
 clear h
 by_cases c2 : (l0.length : Int) > 8
 ·rw [if_pos c2] at H
  have c2b0 : decide (8 < (l0.length : Int)) = true := decide_eq_true c2
  have c2b1 : decide (8 < l0.length) = true := decide_eq_true (by omega)
  clear c2
  obtain rfl := Option.some.inj H
  go_enter Try.func11, Try.ntmps11
  go_wp2
  go_ret
  exact ⟨by first | rfl | (simp; done) | (simp [*]; done), by repeat (first | exact Drawn0.refl _ | apply Drawn0.step)⟩
 ·rw [if_neg c2] at H
  have c2b0 : decide (8 < (l0.length : Int)) = false := decide_eq_false c2
  have c2b1 : decide (8 < l0.length) = false := decide_eq_false (by omega)
  clear c2
  have H' := Aside0.mk H
  clear H
  go_enter Try.func11, Try.ntmps11
  go_wp2
  go_loopg [10] k (fun kq v10 w' => ∃ (x10_1 : Int), v10 = .int .i64 x10_1 ∧ Aside0 (clusterlocksref23_Valid.l0 kq l0 (l0.length : Int) x10_1 = some r) ∧ Aside0 (kq ≤ k) ∧ Drawn0 w w')
  case atStart => exact ⟨(0), (by first | rfl | (simp; done) | (simp [*]; done)), H', ⟨Nat.le_refl _⟩, by repeat (first | exact Drawn0.refl _ | apply Drawn0.step)⟩
  case round =>
   clear H'
   try clear c1
   try clear c2
   try clear c2b0
   try clear c2b1
   try clear p2
   obtain ⟨x10_1, rfl, HA, HK1, ⟨m1, rfl⟩⟩ := hrel
   cases gk with
   | zero => exact absurd HA.out (by simp [clusterlocksref23_Valid.l0])
   | succ k1 =>
    have H := HA.out
    clear HA
    simp only [clusterlocksref23_Valid.l0] at H
    by_cases c3 : x10_1 < (l0.length : Int)
    ·rw [if_pos c3] at H
     have c3b0 : decide (x10_1 < (l0.length : Int)) = true := decide_eq_true c3
     clear c3
     by_cases c4 : 0 ≤ x10_1
     ·rw [if_pos c4] at H
      have c4b0 : decide (0 ≤ x10_1) = true := decide_eq_true c4
      clear c4
      by_cases c5 : x10_1 < (l0.length : Int)
      ·rw [if_pos c5] at H
       have c5b0 : decide (x10_1 < (l0.length : Int)) = true := decide_eq_true c5
       clear c5
       replace H := Option.bind_eq_some_iff.mp H
       obtain ⟨t160, A60, H⟩ := H
       replace H : (if t160 = true then (clusterlocksref23_Valid.l0 k1 l0 (l0.length : Int) (wrap64 (x10_1 + 1))) else (some false)) = some r := H
       have A6 := Aside0.mk A60
       clear A60
       by_cases c7 : t160 = true
       ·subst c7
        have H1 : (clusterlocksref23_Valid.l0 k1 l0 (l0.length : Int) (wrap64 (x10_1 + 1))) = some r := by rw [if_pos rfl] at H; exact H
        clear H
        have H := H1
        clear H1
        have H' := Aside0.mk H
        clear H
        have p159 : 0 ≤ (x10_1 : Int) := of_decide_eq_true (by first | (with_reducible assumption) | assumption)
        have q159 : x10_1 < (l0.length : Int) := of_decide_eq_true (by first | (with_reducible assumption) | assumption)
        obtain ⟨ad159, A159_0, c159_0, e159, hx159_0, hl159_0, hi159_0⟩ := at_L1 HR0.out x10_1 p159 q159
        cases e159
        have HR159_0 := Aside0.mk hi159_0
        have HC159_0 := Aside0.mk hl159_0
        clear hi159_0 hl159_0
        replace p159 := eq_true p159
        replace q159 := eq_true q159
        go_wp2_with (first | ((with_reducible refine gate_callee (f := 29) rfl ?_); refine goesL_ (some 15) rfl rfl Try.func29 (by kernel_rfl) rfl #[.slice A159_0 (rd_L1 l0 x10_1).length c159_0] rfl (by (try simp only [List.map_toArray, List.map_cons, List.map_nil]); first | done | rfl | (simp only [List.length_drop, List.length_take]; rfl)) ?_; (with_reducible refine (clusterlocksref23_packet.calls _ _ (rd_L1 l0 x10_1) true _ ?side1 ?side2 A6.out).mono ?_); (case side1 => exact zC HR159_0.out); (case side2 => exact HC159_0.out); rintro e w' ⟨rfl, ⟨nd, rfl⟩⟩; refine ⟨_, rfl, ?_⟩))
        go_roundg k1
        case measure => have := HK1.out; omega
        case rel => exact ⟨(wrap64 (x10_1 + 1)), (by first | rfl | (simp; done) | (simp [*]; done)), H', ⟨by have := HK1.out; omega⟩, by repeat (first | exact Drawn0.refl _ | apply Drawn0.step)⟩
       ·replace c7 := Bool.eq_false_iff.mpr c7
        subst c7
        have H1 : (some false) = some r := by rw [if_neg (show ¬ (false = true) by decide)] at H; exact H
        clear H
        have H := H1
        clear H1
        obtain rfl := Option.some.inj H
        have p159 : 0 ≤ (x10_1 : Int) := of_decide_eq_true (by first | (with_reducible assumption) | assumption)
        have q159 : x10_1 < (l0.length : Int) := of_decide_eq_true (by first | (with_reducible assumption) | assumption)
        obtain ⟨ad159, A159_0, c159_0, e159, hx159_0, hl159_0, hi159_0⟩ := at_L1 HR0.out x10_1 p159 q159
        cases e159
        have HR159_0 := Aside0.mk hi159_0
        have HC159_0 := Aside0.mk hl159_0
        clear hi159_0 hl159_0
        replace p159 := eq_true p159
        replace q159 := eq_true q159
        go_wp2_with (first | ((with_reducible refine gate_callee (f := 29) rfl ?_); refine goesL_ (some 15) rfl rfl Try.func29 (by kernel_rfl) rfl #[.slice A159_0 (rd_L1 l0 x10_1).length c159_0] rfl (by (try simp only [List.map_toArray, List.map_cons, List.map_nil]); first | done | rfl | (simp only [List.length_drop, List.length_take]; rfl)) ?_; (with_reducible refine (clusterlocksref23_packet.calls _ _ (rd_L1 l0 x10_1) false _ ?side1 ?side2 A6.out).mono ?_); (case side1 => exact zC HR159_0.out); (case side2 => exact HC159_0.out); rintro e w' ⟨rfl, ⟨nd, rfl⟩⟩; refine ⟨_, rfl, ?_⟩))
        go_ret
        exact ⟨by first | rfl | (simp; done) | (simp [*]; done), by repeat (first | exact Drawn0.refl _ | apply Drawn0.step)⟩
      ·rw [if_neg c5] at H
       exact absurd H (by simp)
     ·rw [if_neg c4] at H
      exact absurd H (by simp)
    ·rw [if_neg c3] at H
     have c3b0 : decide (x10_1 < (l0.length : Int)) = false := decide_eq_false c3
     clear c3
     obtain rfl := Option.some.inj H
     go_wp2
     go_ret
     exact ⟨by first | rfl | (simp; done) | (simp [*]; done), by repeat (first | exact Drawn0.refl _ | apply Drawn0.step)⟩

/-! ### channel_Double: function 14 -/
def channel_Double.f (k : Nat) (l0 : List (List Int)) (a1 : Int) : Option ((List (List Int)) × Int) := (channel_check.f l0 a1).bind fun t161 => (if t161 = 0 then (if 0 ≤ a1 then (if a1 < (l0.length : Int) then ((channel_Send.f k l0 (rd_L1 l0 a1)).bind fun bt163 => (some (bt163.1, bt163.2))) else (none)) else (none)) else (some (([] : List (List Int)), t161)))
theorem channel_Double.mono : ∀ a0 a1 k, LeO (channel_Double.f k a0 a1) (channel_Double.f (k + 1) a0 a1) := by
 intro a0 a1 k
 unfold channel_Double.f
 repeat' first
   | (with_reducible exact channel_Send.mono _ _ _)
   | (with_reducible exact LeO.refl _)
   | (with_reducible exact LeO.none _)
   | (with_reducible refine LeO.ite ?_ ?_)
   | (with_reducible refine LeO.bind ?_ (fun _ => ?_))
   | exact channel_Send.mono _ _ _
   | exact LeO.none _
   | refine LeO.ite ?_ ?_
   | refine LeO.bind ?_ (fun _ => ?_)
set_option maxHeartbeats 8000000 in
set_option maxRecDepth 100000 in
theorem channel_Double.calls (k : Nat) (A0 : Option Addr) (c0 : Nat) (l0 : List (List Int)) (a1 : Int) (r1 : List (List Int)) (r2 : Int) (w : World) (hr0 : Kd.C (Kd.slice 5 (Kd.int .u8)) w A0 l0.length l0) (hc0 : l0.length ≤ c0) (h : channel_Double.f k l0 a1 = some (r1, r2)) :
  Calls Try.prog 14 #[.slice A0 l0.length c0, .int .i64 a1] w fun e w' => ∃ v0_ : Value, e = .returned (.tuple #[v0_, .int .i64 r2]) ∧ Kd.S (Kd.slice 5 (Kd.int .u8)) 25 w' w.heap.size (fun _ => True) v0_ r1 ∧ Below w.heap.size w w' := by
 have HR0 := Aside0.mk hr0
 have HC0 := Aside0.mk hc0
 clear hr0 hc0
 have HB := am (Below.refl w.heap.size w)
 have H : ((channel_check.f l0 a1).bind fun t161 => (if t161 = 0 then (if 0 ≤ a1 then (if a1 < (l0.length : Int) then ((channel_Send.f k l0 (rd_L1 l0 a1)).bind fun bt163 => (some (bt163.1, bt163.2))) else (none)) else (none)) else (some (([] : List (List Int)), t161)))) = some (r1, r2) := h
 clear h
 replace H := Option.bind_eq_some_iff.mp H
 obtain ⟨t161, A30, H⟩ := H
 replace H : (if t161 = 0 then (if 0 ≤ a1 then (if a1 < (l0.length : Int) then ((channel_Send.f k l0 (rd_L1 l0 a1)).bind fun bt163 => (some (bt163.1, bt163.2))) else (none)) else (none)) else (some (([] : List (List Int)), t161))) = some (r1, r2) := H
 have A3 := Aside0.mk A30
 clear A30
 by_cases c4 : t161 = 0
 ·rw [if_pos c4] at H
  have c4b0 : (t161 == 0) = true := beq_iff_eq.mpr c4
  have c4b1 : (t161 != 0) = false := bne_eq_false_iff_eq.mpr c4
  clear c4
  by_cases c5 : 0 ≤ a1
  ·rw [if_pos c5] at H
   have c5b0 : decide (0 ≤ a1) = true := decide_eq_true c5
   clear c5
   by_cases c6 : a1 < (l0.length : Int)
   ·rw [if_pos c6] at H
    have c6b0 : decide (a1 < (l0.length : Int)) = true := decide_eq_true c6
    clear c6
    replace H := Option.bind_eq_some_iff.mp H
    obtain ⟨⟨t163, t164⟩, A70, H⟩ := H
    replace H : (some (t163, t164)) = some (r1, r2) := H
    have A7 := Aside0.mk A70
    clear A70
    simp only [Option.some.injEq, Prod.mk.injEq] at H
    obtain ⟨rfl, rfl⟩ := H
    go_enter Try.func14, Try.ntmps14
    go_wp2_with (first | ((with_reducible refine gate_callee (f := 28) rfl ?_); refine goesL_ (some 9) rfl rfl Try.func28 (by kernel_rfl) rfl #[.slice A0 l0.length c0, .int .i64 a1] rfl (by (try simp only [List.map_toArray, List.map_cons, List.map_nil]); first | done | rfl | (simp only [List.length_drop, List.length_take]; rfl)) ?_; (with_reducible refine (channel_check.calls _ _ l0 a1 t161 _ ?side1 ?side2 A3.out).mono ?_); (case side1 => exact zC HR0.out); (case side2 => exact HC0.out); rintro e w' ⟨rfl, ⟨nd, rfl⟩⟩; refine ⟨_, rfl, ?_⟩; have p162 : 0 ≤ (a1 : Int) := of_decide_eq_true (by first | (with_reducible assumption) | assumption); have q162 : a1 < (l0.length : Int) := of_decide_eq_true (by first | (with_reducible assumption) | assumption); obtain ⟨ad162, A162_0, c162_0, e162, hx162_0, hl162_0, hi162_0⟩ := at_L1 HR0.out a1 p162 q162; cases e162; have HR162_0 := Aside0.mk hi162_0; have HC162_0 := Aside0.mk hl162_0; clear hi162_0 hl162_0; replace p162 := eq_true p162; replace q162 := eq_true q162) | ((with_reducible refine gate_callee (f := 9) rfl ?_); refine goesL_ (some 18) rfl rfl Try.func9 (by kernel_rfl) rfl #[.slice (some ad162) l0.length c0, .slice A162_0 (rd_L1 l0 a1).length c162_0] rfl (by (try simp only [List.map_toArray, List.map_cons, List.map_nil]); first | done | rfl | (simp only [List.length_drop, List.length_take]; rfl)) ?_; (with_reducible refine (channel_Send.calls k _ _ l0 _ _ (rd_L1 l0 a1) t163 t164 _ ?side1 ?side2 ?side3 ?side4 A7.out).mono ?_); (case side1 => exact zC HR0.out); (case side2 => exact HC0.out); (case side3 => exact zC HR162_0.out); (case side4 => exact HC162_0.out); rintro e w8 ⟨v165, rfl, ho0, hb⟩; refine ⟨_, rfl, ?_⟩; have n0_ := am (Kd.S_lower ho0 (below_size (zL HB.out))); have n1_ := am (below_step (zL HB.out) hb); clear HB; have HO166 := n0_; have HB := n1_; clear n0_ n1_; (try clear hb); (try clear hb2); (try clear hk); (try clear hi); (try clear ho0)))
    go_ret2
    exact ⟨_, by first | rfl | (simp [errW_none, errW_some] <;> rfl) | (simp [*, errW_none, errW_some] <;> rfl), by (with_reducible repeat (first | apply Kd.S_alloc | apply Kd.S_drewN | apply Kd.S_drew)); exact HO166.out, zL HB.out⟩
   ·rw [if_neg c6] at H
    exact absurd H (by simp)
  ·rw [if_neg c5] at H
   exact absurd H (by simp)
 ·rw [if_neg c4] at H
  have c4b0 : (t161 == 0) = false := beq_eq_false_iff_ne.mpr c4
  have c4b1 : (t161 != 0) = true := bne_iff_ne.mpr c4
  simp only [Option.some.injEq, Prod.mk.injEq] at H
  obtain ⟨rfl, rfl⟩ := H
  go_enter Try.func14, Try.ntmps14
  go_wp2_with (first | ((with_reducible refine gate_callee (f := 28) rfl ?_); refine goesL_ (some 9) rfl rfl Try.func28 (by kernel_rfl) rfl #[.slice A0 l0.length c0, .int .i64 a1] rfl (by (try simp only [List.map_toArray, List.map_cons, List.map_nil]); first | done | rfl | (simp only [List.length_drop, List.length_take]; rfl)) ?_; (with_reducible refine (channel_check.calls _ _ l0 a1 t161 _ ?side1 ?side2 A3.out).mono ?_); (case side1 => exact zC HR0.out); (case side2 => exact HC0.out); rintro e w' ⟨rfl, ⟨nd, rfl⟩⟩; refine ⟨_, rfl, ?_⟩))
  go_ret2
  exact ⟨_, by first | rfl | (simp [errW_none, errW_some] <;> rfl) | (simp [*, errW_none, errW_some] <;> rfl), by first | exact Kd.S_nil _ _ _ _ _ | exact Kd.N_nil _ _ _ _ _ | exact Kd.V_nil _ _ _ _ _ | exact Kd.Q_nil _ _ _ _ _ | exact Kd.R_nil _ _ _ _ _, zL HB.out⟩

/-! ### clusterlocksref23_SameBytes: function 30 -/
def clusterlocksref23_SameBytes.f (l0 : List Int) (l1 : List Int) : Option (Bool) := some ((strOfNums l0).toList == (strOfNums l1).toList)
set_option maxHeartbeats 8000000 in
set_option maxRecDepth 100000 in
theorem clusterlocksref23_SameBytes.calls (A0 : Option Addr) (c0 : Nat) (l0 : List Int) (A1 : Option Addr) (c1 : Nat) (l1 : List Int) (r : Bool) (w : World) (hr0 : Kd.C (Kd.int .u8) w A0 l0.length l0) (hc0 : l0.length ≤ c0) (hr1 : Kd.C (Kd.int .u8) w A1 l1.length l1) (hc1 : l1.length ≤ c1) (h : clusterlocksref23_SameBytes.f l0 l1 = some r) :
  Calls Try.prog 30 #[.slice A0 l0.length c0, .slice A1 l1.length c1] w fun e w' => e = .returned (.bool r) ∧ Drawn0 w w' := by
 have HR0 := Aside0.mk hr0
 have HC0 := Aside0.mk hc0
 clear hr0 hc0
 have HR1 := Aside0.mk hr1
 have HC1 := Aside0.mk hc1
 clear hr1 hc1
 have H : (some ((strOfNums l0).toList == (strOfNums l1).toList)) = some r := h
 clear h
 obtain rfl := Option.some.inj H
 have hcv3 := Kd.C_string (P := Try.prog) (A := A0) (c := c0) Try.underlying25 Try.underlying5 Try.underlying9 HR0.out
 have hcv4 := fun (nq_ : Nat) => Kd.C_string (P := Try.prog) (A := A0) (c := c0) Try.underlying25 Try.underlying5 Try.underlying9 (Kd.C_drewN HR0.out nq_)
 have hcv5 := Kd.C_string (P := Try.prog) (A := A1) (c := c1) Try.underlying25 Try.underlying5 Try.underlying9 HR1.out
 have hcv6 := fun (nq_ : Nat) => Kd.C_string (P := Try.prog) (A := A1) (c := c1) Try.underlying25 Try.underlying5 Try.underlying9 (Kd.C_drewN HR1.out nq_)
 go_enter Try.func30, Try.ntmps30
 go_wp2
 go_ret
 exact ⟨by first | rfl | (simp; done) | (simp [*]; done), by repeat (first | exact Drawn0.refl _ | apply Drawn0.step)⟩

/-! ### clusterlocksref23_Same: function 15 -/
def clusterlocksref23_Same.l0 : Nat → List (List Int) → List (List Int) → Int → Option (Bool)
 | 0, _, _, _ => none
 | k + 1, x0, x1, x5 => if x5 < (x0.length : Int) then (if 0 ≤ x5 then (if x5 < (x1.length : Int) then ((clusterlocksref23_SameBytes.f (rd_L1 x0 x5) (rd_L1 x1 x5)).bind fun t169 => (if t169 = true then (clusterlocksref23_Same.l0 k x0 x1 (wrap64 (x5 + 1))) else (some false))) else (none)) else (none)) else (some true)
def clusterlocksref23_Same.f (k : Nat) (l0 : List (List Int)) (l1 : List (List Int)) : Option (Bool) := if (l0.length : Int) = (l1.length : Int) then (clusterlocksref23_Same.l0 k l0 l1 0) else (some false)
theorem clusterlocksref23_Same.mono_l : ∀ k, (∀ y0 y1 y2, LeO (clusterlocksref23_Same.l0 k y0 y1 y2) (clusterlocksref23_Same.l0 (k + 1) y0 y1 y2))
 | 0 => fun _ _ _ r h => by simp [clusterlocksref23_Same.l0] at h
 | k + 1 => by
  have ih0 := clusterlocksref23_Same.mono_l k
  ·intro y0 y1 y2
   unfold clusterlocksref23_Same.l0
   repeat' first
   | (with_reducible exact ih0 _ _ _)
   | (with_reducible exact LeO.refl _)
   | (with_reducible exact LeO.none _)
   | (with_reducible refine LeO.ite ?_ ?_)
   | (with_reducible refine LeO.bind ?_ (fun _ => ?_))
   | exact ih0 _ _ _
   | exact LeO.none _
   | refine LeO.ite ?_ ?_
   | refine LeO.bind ?_ (fun _ => ?_)
theorem clusterlocksref23_Same.mono : ∀ a0 a1 k, LeO (clusterlocksref23_Same.f k a0 a1) (clusterlocksref23_Same.f (k + 1) a0 a1) := by
 intro a0 a1 k
 have ih0 := clusterlocksref23_Same.mono_l k
 unfold clusterlocksref23_Same.f
 repeat' first
   | (with_reducible exact ih0 _ _ _)
   | (with_reducible exact LeO.refl _)
   | (with_reducible exact LeO.none _)
   | (with_reducible refine LeO.ite ?_ ?_)
   | (with_reducible refine LeO.bind ?_ (fun _ => ?_))
   | exact ih0 _ _ _
   | exact LeO.none _
   | refine LeO.ite ?_ ?_
   | refine LeO.bind ?_ (fun _ => ?_)
set_option maxHeartbeats 8000000 in
set_option maxRecDepth 100000 in
theorem clusterlocksref23_Same.calls (k : Nat) (A0 : Option Addr) (c0 : Nat) (l0 : List (List Int)) (A1 : Option Addr) (c1 : Nat) (l1 : List (List Int)) (r : Bool) (w : World) (hr0 : Kd.C (Kd.slice 5 (Kd.int .u8)) w A0 l0.length l0) (hc0 : l0.length ≤ c0) (hr1 : Kd.C (Kd.slice 5 (Kd.int .u8)) w A1 l1.length l1) (hc1 : l1.length ≤ c1) (h : clusterlocksref23_Same.f k l0 l1 = some r) :
  Calls Try.prog 15 #[.slice A0 l0.length c0, .slice A1 l1.length c1] w fun e w' => e = .returned (.bool r) ∧ Drawn0 w w' := by
 have HR0 := Aside0.mk hr0
 have HC0 := Aside0.mk hc0
 clear hr0 hc0
 have HR1 := Aside0.mk hr1
 have HC1 := Aside0.mk hc1
 clear hr1 hc1
 have H : (if (l0.length : Int) = (l1.length : Int) then (clusterlocksref23_Same.l0 k l0 l1 0) else (some false)) = some r := h
 clear h
 by_cases c3 : (l0.length : Int) = (l1.length : Int)
 ·rw [if_pos c3] at H
  have c3b0 : ((l0.length : Int) == (l1.length : Int)) = true := beq_iff_eq.mpr c3
  have c3b1 : ((l0.length : Int) != (l1.length : Int)) = false := bne_eq_false_iff_eq.mpr c3
  have c3b2 : (l0.length == l1.length) = true := by first | simpa using c3 | (simp at c3 ⊢; omega)
  clear c3
  have H' := Aside0.mk H
  clear H
  go_enter Try.func15, Try.ntmps15
  go_wp2
  repeat (go_quiet (fail); try go_wp2)
  go_loopg [5] k (fun kq v5 w' => ∃ (x5_1 : Int), v5 = .int .i64 x5_1 ∧ Aside0 (clusterlocksref23_Same.l0 kq l0 l1 x5_1 = some r) ∧ Aside0 (kq ≤ k) ∧ Drawn0 w w')
  case atStart => exact ⟨(0), (by first | rfl | (simp; done) | (simp [*]; done)), H', ⟨Nat.le_refl _⟩, by repeat (first | exact Drawn0.refl _ | apply Drawn0.step)⟩
  case round =>
   clear H'
   try clear c1
   try clear p2
   try clear c3
   try clear c3b0
   try clear c3b1
   try clear c3b2
   obtain ⟨x5_1, rfl, HA, HK1, ⟨m1, rfl⟩⟩ := hrel
   cases gk with
   | zero => exact absurd HA.out (by simp [clusterlocksref23_Same.l0])
   | succ k1 =>
    have H := HA.out
    clear HA
    simp only [clusterlocksref23_Same.l0] at H
    by_cases c4 : x5_1 < (l0.length : Int)
    ·rw [if_pos c4] at H
     have c4b0 : decide (x5_1 < (l0.length : Int)) = true := decide_eq_true c4
     clear c4
     by_cases c5 : 0 ≤ x5_1
     ·rw [if_pos c5] at H
      have c5b0 : decide (0 ≤ x5_1) = true := decide_eq_true c5
      clear c5
      by_cases c6 : x5_1 < (l1.length : Int)
      ·rw [if_pos c6] at H
       have c6b0 : decide (x5_1 < (l1.length : Int)) = true := decide_eq_true c6
       clear c6
       replace H := Option.bind_eq_some_iff.mp H
       obtain ⟨t169, A70, H⟩ := H
       replace H : (if t169 = true then (clusterlocksref23_Same.l0 k1 l0 l1 (wrap64 (x5_1 + 1))) else (some false)) = some r := H
       have A7 := Aside0.mk A70
       clear A70
       by_cases c8 : t169 = true
       ·subst c8
        have H1 : (clusterlocksref23_Same.l0 k1 l0 l1 (wrap64 (x5_1 + 1))) = some r := by rw [if_pos rfl] at H; exact H
        clear H
        have H := H1
        clear H1
        have H' := Aside0.mk H
        clear H
        have p167 : 0 ≤ (x5_1 : Int) := of_decide_eq_true (by first | (with_reducible assumption) | assumption)
        have q167 : x5_1 < (l0.length : Int) := of_decide_eq_true (by first | (with_reducible assumption) | assumption)
        obtain ⟨ad167, A167_0, c167_0, e167, hx167_0, hl167_0, hi167_0⟩ := at_L1 HR0.out x5_1 p167 q167
        cases e167
        have HR167_0 := Aside0.mk hi167_0
        have HC167_0 := Aside0.mk hl167_0
        clear hi167_0 hl167_0
        replace p167 := eq_true p167
        replace q167 := eq_true q167
        have p168 : 0 ≤ (x5_1 : Int) := of_decide_eq_true (by first | (with_reducible assumption) | assumption)
        have q168 : x5_1 < (l1.length : Int) := of_decide_eq_true (by first | (with_reducible assumption) | assumption)
        obtain ⟨ad168, A168_0, c168_0, e168, hx168_0, hl168_0, hi168_0⟩ := at_L1 HR1.out x5_1 p168 q168
        cases e168
        have HR168_0 := Aside0.mk hi168_0
        have HC168_0 := Aside0.mk hl168_0
        clear hi168_0 hl168_0
        replace p168 := eq_true p168
        replace q168 := eq_true q168
        go_wp2_with (first | (go_at_call 30; (with_reducible refine (clusterlocksref23_SameBytes.calls _ _ (rd_L1 l0 x5_1) _ _ (rd_L1 l1 x5_1) true _ ?side1 ?side2 ?side3 ?side4 A7.out).mono ?_); (case side1 => exact zC HR167_0.out); (case side2 => exact HC167_0.out); (case side3 => exact zC HR168_0.out); (case side4 => exact HC168_0.out); rintro e w' ⟨rfl, ⟨nd, rfl⟩⟩; (try first | exact ⟨rfl, _, World.drewN_drewN _ _ _⟩ | exact ⟨rfl, _, Eq.trans (World.drewN_drewN _ _ _) (congrArg (World.drewN _) (Nat.add_assoc _ _ _))⟩)))
        repeat (go_quiet (first | (go_at_call 30; (with_reducible refine (clusterlocksref23_SameBytes.calls _ _ (rd_L1 l0 x5_1) _ _ (rd_L1 l1 x5_1) true _ ?side1 ?side2 ?side3 ?side4 A7.out).mono ?_); (case side1 => exact zC HR167_0.out); (case side2 => exact HC167_0.out); (case side3 => exact zC HR168_0.out); (case side4 => exact HC168_0.out); rintro e w' ⟨rfl, ⟨nd, rfl⟩⟩; (try first | exact ⟨rfl, _, World.drewN_drewN _ _ _⟩ | exact ⟨rfl, _, Eq.trans (World.drewN_drewN _ _ _) (congrArg (World.drewN _) (Nat.add_assoc _ _ _))⟩))); try go_wp2_with (first | (go_at_call 30; (with_reducible refine (clusterlocksref23_SameBytes.calls _ _ (rd_L1 l0 x5_1) _ _ (rd_L1 l1 x5_1) true _ ?side1 ?side2 ?side3 ?side4 A7.out).mono ?_); (case side1 => exact zC HR167_0.out); (case side2 => exact HC167_0.out); (case side3 => exact zC HR168_0.out); (case side4 => exact HC168_0.out); rintro e w' ⟨rfl, ⟨nd, rfl⟩⟩; (try first | exact ⟨rfl, _, World.drewN_drewN _ _ _⟩ | exact ⟨rfl, _, Eq.trans (World.drewN_drewN _ _ _) (congrArg (World.drewN _) (Nat.add_assoc _ _ _))⟩))))
        go_roundg k1
        case measure => have := HK1.out; omega
        case rel => exact ⟨(wrap64 (x5_1 + 1)), (by first | rfl | (simp; done) | (simp [*]; done)), H', ⟨by have := HK1.out; omega⟩, by repeat (first | exact Drawn0.refl _ | apply Drawn0.step)⟩
       ·replace c8 := Bool.eq_false_iff.mpr c8
        subst c8
        have H1 : (some false) = some r := by rw [if_neg (show ¬ (false = true) by decide)] at H; exact H
        clear H
        have H := H1
        clear H1
        obtain rfl := Option.some.inj H
        have p167 : 0 ≤ (x5_1 : Int) := of_decide_eq_true (by first | (with_reducible assumption) | assumption)
        have q167 : x5_1 < (l0.length : Int) := of_decide_eq_true (by first | (with_reducible assumption) | assumption)
        obtain ⟨ad167, A167_0, c167_0, e167, hx167_0, hl167_0, hi167_0⟩ := at_L1 HR0.out x5_1 p167 q167
        cases e167
        have HR167_0 := Aside0.mk hi167_0
        have HC167_0 := Aside0.mk hl167_0
        clear hi167_0 hl167_0
        replace p167 := eq_true p167
        replace q167 := eq_true q167
        have p168 : 0 ≤ (x5_1 : Int) := of_decide_eq_true (by first | (with_reducible assumption) | assumption)
        have q168 : x5_1 < (l1.length : Int) := of_decide_eq_true (by first | (with_reducible assumption) | assumption)
        obtain ⟨ad168, A168_0, c168_0, e168, hx168_0, hl168_0, hi168_0⟩ := at_L1 HR1.out x5_1 p168 q168
        cases e168
        have HR168_0 := Aside0.mk hi168_0
        have HC168_0 := Aside0.mk hl168_0
        clear hi168_0 hl168_0
        replace p168 := eq_true p168
        replace q168 := eq_true q168
        go_wp2_with (first | (go_at_call 30; (with_reducible refine (clusterlocksref23_SameBytes.calls _ _ (rd_L1 l0 x5_1) _ _ (rd_L1 l1 x5_1) false _ ?side1 ?side2 ?side3 ?side4 A7.out).mono ?_); (case side1 => exact zC HR167_0.out); (case side2 => exact HC167_0.out); (case side3 => exact zC HR168_0.out); (case side4 => exact HC168_0.out); rintro e w' ⟨rfl, ⟨nd, rfl⟩⟩; (try first | exact ⟨rfl, _, World.drewN_drewN _ _ _⟩ | exact ⟨rfl, _, Eq.trans (World.drewN_drewN _ _ _) (congrArg (World.drewN _) (Nat.add_assoc _ _ _))⟩)))
        repeat (go_quiet (first | (go_at_call 30; (with_reducible refine (clusterlocksref23_SameBytes.calls _ _ (rd_L1 l0 x5_1) _ _ (rd_L1 l1 x5_1) false _ ?side1 ?side2 ?side3 ?side4 A7.out).mono ?_); (case side1 => exact zC HR167_0.out); (case side2 => exact HC167_0.out); (case side3 => exact zC HR168_0.out); (case side4 => exact HC168_0.out); rintro e w' ⟨rfl, ⟨nd, rfl⟩⟩; (try first | exact ⟨rfl, _, World.drewN_drewN _ _ _⟩ | exact ⟨rfl, _, Eq.trans (World.drewN_drewN _ _ _) (congrArg (World.drewN _) (Nat.add_assoc _ _ _))⟩))); try go_wp2_with (first | (go_at_call 30; (with_reducible refine (clusterlocksref23_SameBytes.calls _ _ (rd_L1 l0 x5_1) _ _ (rd_L1 l1 x5_1) false _ ?side1 ?side2 ?side3 ?side4 A7.out).mono ?_); (case side1 => exact zC HR167_0.out); (case side2 => exact HC167_0.out); (case side3 => exact zC HR168_0.out); (case side4 => exact HC168_0.out); rintro e w' ⟨rfl, ⟨nd, rfl⟩⟩; (try first | exact ⟨rfl, _, World.drewN_drewN _ _ _⟩ | exact ⟨rfl, _, Eq.trans (World.drewN_drewN _ _ _) (congrArg (World.drewN _) (Nat.add_assoc _ _ _))⟩))))
        go_ret
        exact ⟨by first | rfl | (simp; done) | (simp [*]; done), by repeat (first | exact Drawn0.refl _ | apply Drawn0.step)⟩
      ·rw [if_neg c6] at H
       exact absurd H (by simp)
     ·rw [if_neg c5] at H
      exact absurd H (by simp)
    ·rw [if_neg c4] at H
     have c4b0 : decide (x5_1 < (l0.length : Int)) = false := decide_eq_false c4
     clear c4
     obtain rfl := Option.some.inj H
     go_wp2
     repeat (go_quiet (fail); try go_wp2)
     go_ret
     exact ⟨by first | rfl | (simp; done) | (simp [*]; done), by repeat (first | exact Drawn0.refl _ | apply Drawn0.step)⟩
 ·rw [if_neg c3] at H
  have c3b0 : ((l0.length : Int) == (l1.length : Int)) = false := beq_eq_false_iff_ne.mpr c3
  have c3b1 : ((l0.length : Int) != (l1.length : Int)) = true := bne_iff_ne.mpr c3
  have c3b2 : (l0.length == l1.length) = false := by first | simpa using c3 | (simp at c3 ⊢; omega)
  obtain rfl := Option.some.inj H
  go_enter Try.func15, Try.ntmps15
  go_wp2
  repeat (go_quiet (fail); try go_wp2)
  go_ret
  exact ⟨by first | rfl | (simp; done) | (simp [*]; done), by repeat (first | exact Drawn0.refl _ | apply Drawn0.step)⟩

end Go.Proofs.Ytnhdppfmdhdmdaa.Y
