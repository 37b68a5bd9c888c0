-- Laid by a program of this session's (xprint.py, which runs the kit's print.py with patches of its own). Lean checks it.
import Derived.Test.YtgomhoolipfkmaaY0
import Derived.Test.YtgomhoolipfkmaaY3
import Derived.Test.YtgomhoolipfkmaaY5
import Derived.Test.YtgomhoolipfkmaaY6
namespace Go.Proofs.Ytgomhoolipfkmaa.Y
open Go.RowKit Go.Proofs.YtgomhoolipfkmaaW.PrintWords Go.Proofs.YtgomhoolipfkmaaW.PrintLast Go.Proofs.YtgomhoolipfkmaaW.PrintMore
attribute [local go_sem] max2_int min2_int max_two min_two max_three min_three max_four min_four   -- for this text's walks alone
set_option linter.unusedVariables false
set_option linter.unusedSimpArgs false

/-! ### clusterlockslaw11_awake: function 10 -/
def clusterlockslaw11_awake.f (k : Nat)  : Option (Bool) := (clusterlockslaw11_claim.f 0 2).bind fun bt155 => ((clusterlockslaw11_claim.f 1 0).bind fun bt162 => ((clusterlockslaw11_claim.f 2 0).bind fun bt169 => ((clusterlockslaw11_claim.f 3 1).bind fun bt179 => ((line_Insert.f k (([(⟨(⟨bt155.1, bt155.2.1, bt155.2.2.1⟩ : S24), (⟨bt155.2.2.2.1, bt155.2.2.2.2.1⟩ : S26), bt155.2.2.2.2.2.1, bt155.2.2.2.2.2.2⟩ : S28), (⟨(⟨bt162.1, bt162.2.1, bt162.2.2.1⟩ : S24), (⟨bt162.2.2.2.1, bt162.2.2.2.2.1⟩ : S26), bt162.2.2.2.2.2.1, bt162.2.2.2.2.2.2⟩ : S28), (⟨(⟨bt169.1, bt169.2.1, bt169.2.2.1⟩ : S24), (⟨bt169.2.2.2.1, bt169.2.2.2.2.1⟩ : S26), bt169.2.2.2.2.2.1, bt169.2.2.2.2.2.2⟩ : S28)] : List (S28))) bt179.1 bt179.2.1 bt179.2.2.1 bt179.2.2.2.1 bt179.2.2.2.2.1 bt179.2.2.2.2.2.1 bt179.2.2.2.2.2.2).bind fun bt186 => (if bt186.2.2 = 0 then (if bt186.2.1 = 1 then (if (bt186.1.length : Int) = 4 then (if 2 < (bt186.1.length : Int) then (if ((rd_T28 bt186.1 2).f3) = 1 then (if 3 < (bt186.1.length : Int) then (if ((rd_T28 bt186.1 3).f3) = 1 then (if 0 < (bt186.1.length : Int) then (if ((rd_T28 bt186.1 0).f3) = 0 then ((clusterlocksmill_Proc.f 3).bind fun bt194 => ((line_Find.f bt186.1 bt194.1 bt194.2.1 bt194.2.2).bind fun t197 => (if t197 = 1 then ((clusterlocksmill_Proc.f 2).bind fun bt198 => ((line_Ahead.f k bt186.1 bt198.1 bt198.2.1 bt198.2.2).bind fun t201 => (some ((t201.length : Int) == 3)))) else (none)))) else (none)) else (none)) else (none)) else (none)) else (none)) else (none)) else (none)) else (none)) else (none))))))
theorem clusterlockslaw11_awake.mono : ∀ k, LeO (clusterlockslaw11_awake.f k ) (clusterlockslaw11_awake.f (k + 1) ) := by
 intro  k
 unfold clusterlockslaw11_awake.f
 repeat' first
   | (with_reducible exact line_Ahead.mono _ _ _ _ _)
   | (with_reducible exact line_Insert.mono _ _ _ _ _ _ _ _ _)
   | (with_reducible exact LeO.refl _)
   | (with_reducible exact LeO.none _)
   | (with_reducible refine LeO.ite ?_ ?_)
   | (with_reducible refine LeO.bind ?_ (fun _ => ?_))
   | exact line_Ahead.mono _ _ _ _ _
   | exact line_Insert.mono _ _ _ _ _ _ _ _ _
   | exact LeO.none _
   | refine LeO.ite ?_ ?_
   | refine LeO.bind ?_ (fun _ => ?_)
set_option maxHeartbeats 8000000 in
set_option maxRecDepth 100000 in
theorem clusterlockslaw11_awake.calls (k : Nat)  (r : Bool) (w : World) (h : clusterlockslaw11_awake.f k  = some r) :
  Calls Try.prog 10 #[] w fun e w' => e = .returned (.bool r) ∧ Below w.heap.size w w' := by
 have HB := am (Below.refl w.heap.size w)
 have H : ((clusterlockslaw11_claim.f 0 2).bind fun bt155 => ((clusterlockslaw11_claim.f 1 0).bind fun bt162 => ((clusterlockslaw11_claim.f 2 0).bind fun bt169 => ((clusterlockslaw11_claim.f 3 1).bind fun bt179 => ((line_Insert.f k (([(⟨(⟨bt155.1, bt155.2.1, bt155.2.2.1⟩ : S24), (⟨bt155.2.2.2.1, bt155.2.2.2.2.1⟩ : S26), bt155.2.2.2.2.2.1, bt155.2.2.2.2.2.2⟩ : S28), (⟨(⟨bt162.1, bt162.2.1, bt162.2.2.1⟩ : S24), (⟨bt162.2.2.2.1, bt162.2.2.2.2.1⟩ : S26), bt162.2.2.2.2.2.1, bt162.2.2.2.2.2.2⟩ : S28), (⟨(⟨bt169.1, bt169.2.1, bt169.2.2.1⟩ : S24), (⟨bt169.2.2.2.1, bt169.2.2.2.2.1⟩ : S26), bt169.2.2.2.2.2.1, bt169.2.2.2.2.2.2⟩ : S28)] : List (S28))) bt179.1 bt179.2.1 bt179.2.2.1 bt179.2.2.2.1 bt179.2.2.2.2.1 bt179.2.2.2.2.2.1 bt179.2.2.2.2.2.2).bind fun bt186 => (if bt186.2.2 = 0 then (if bt186.2.1 = 1 then (if (bt186.1.length : Int) = 4 then (if 2 < (bt186.1.length : Int) then (if ((rd_T28 bt186.1 2).f3) = 1 then (if 3 < (bt186.1.length : Int) then (if ((rd_T28 bt186.1 3).f3) = 1 then (if 0 < (bt186.1.length : Int) then (if ((rd_T28 bt186.1 0).f3) = 0 then ((clusterlocksmill_Proc.f 3).bind fun bt194 => ((line_Find.f bt186.1 bt194.1 bt194.2.1 bt194.2.2).bind fun t197 => (if t197 = 1 then ((clusterlocksmill_Proc.f 2).bind fun bt198 => ((line_Ahead.f k bt186.1 bt198.1 bt198.2.1 bt198.2.2).bind fun t201 => (some ((t201.length : Int) == 3)))) else (none)))) else (none)) else (none)) else (none)) else (none)) else (none)) else (none)) else (none)) else (none)) else (none))))))) = some r := h
 clear h
 replace H := Option.bind_eq_some_iff.mp H
 obtain ⟨⟨t155, t156, t157, t158, t159, t160, t161⟩, A10, H⟩ := H
 replace H : ((clusterlockslaw11_claim.f 1 0).bind fun bt162 => ((clusterlockslaw11_claim.f 2 0).bind fun bt169 => ((clusterlockslaw11_claim.f 3 1).bind fun bt179 => ((line_Insert.f k (([(⟨(⟨t155, t156, t157⟩ : S24), (⟨t158, t159⟩ : S26), t160, t161⟩ : S28), (⟨(⟨bt162.1, bt162.2.1, bt162.2.2.1⟩ : S24), (⟨bt162.2.2.2.1, bt162.2.2.2.2.1⟩ : S26), bt162.2.2.2.2.2.1, bt162.2.2.2.2.2.2⟩ : S28), (⟨(⟨bt169.1, bt169.2.1, bt169.2.2.1⟩ : S24), (⟨bt169.2.2.2.1, bt169.2.2.2.2.1⟩ : S26), bt169.2.2.2.2.2.1, bt169.2.2.2.2.2.2⟩ : S28)] : List (S28))) bt179.1 bt179.2.1 bt179.2.2.1 bt179.2.2.2.1 bt179.2.2.2.2.1 bt179.2.2.2.2.2.1 bt179.2.2.2.2.2.2).bind fun bt186 => (if bt186.2.2 = 0 then (if bt186.2.1 = 1 then (if (bt186.1.length : Int) = 4 then (if 2 < (bt186.1.length : Int) then (if ((rd_T28 bt186.1 2).f3) = 1 then (if 3 < (bt186.1.length : Int) then (if ((rd_T28 bt186.1 3).f3) = 1 then (if 0 < (bt186.1.length : Int) then (if ((rd_T28 bt186.1 0).f3) = 0 then ((clusterlocksmill_Proc.f 3).bind fun bt194 => ((line_Find.f bt186.1 bt194.1 bt194.2.1 bt194.2.2).bind fun t197 => (if t197 = 1 then ((clusterlocksmill_Proc.f 2).bind fun bt198 => ((line_Ahead.f k bt186.1 bt198.1 bt198.2.1 bt198.2.2).bind fun t201 => (some ((t201.length : Int) == 3)))) else (none)))) else (none)) else (none)) else (none)) else (none)) else (none)) else (none)) else (none)) else (none)) else (none)))))) = some r := H
 have A1 := Aside0.mk A10
 clear A10
 replace H := Option.bind_eq_some_iff.mp H
 obtain ⟨⟨t162, t163, t164, t165, t166, t167, t168⟩, A20, H⟩ := H
 replace H : ((clusterlockslaw11_claim.f 2 0).bind fun bt169 => ((clusterlockslaw11_claim.f 3 1).bind fun bt179 => ((line_Insert.f k (([(⟨(⟨t155, t156, t157⟩ : S24), (⟨t158, t159⟩ : S26), t160, t161⟩ : S28), (⟨(⟨t162, t163, t164⟩ : S24), (⟨t165, t166⟩ : S26), t167, t168⟩ : S28), (⟨(⟨bt169.1, bt169.2.1, bt169.2.2.1⟩ : S24), (⟨bt169.2.2.2.1, bt169.2.2.2.2.1⟩ : S26), bt169.2.2.2.2.2.1, bt169.2.2.2.2.2.2⟩ : S28)] : List (S28))) bt179.1 bt179.2.1 bt179.2.2.1 bt179.2.2.2.1 bt179.2.2.2.2.1 bt179.2.2.2.2.2.1 bt179.2.2.2.2.2.2).bind fun bt186 => (if bt186.2.2 = 0 then (if bt186.2.1 = 1 then (if (bt186.1.length : Int) = 4 then (if 2 < (bt186.1.length : Int) then (if ((rd_T28 bt186.1 2).f3) = 1 then (if 3 < (bt186.1.length : Int) then (if ((rd_T28 bt186.1 3).f3) = 1 then (if 0 < (bt186.1.length : Int) then (if ((rd_T28 bt186.1 0).f3) = 0 then ((clusterlocksmill_Proc.f 3).bind fun bt194 => ((line_Find.f bt186.1 bt194.1 bt194.2.1 bt194.2.2).bind fun t197 => (if t197 = 1 then ((clusterlocksmill_Proc.f 2).bind fun bt198 => ((line_Ahead.f k bt186.1 bt198.1 bt198.2.1 bt198.2.2).bind fun t201 => (some ((t201.length : Int) == 3)))) else (none)))) else (none)) else (none)) else (none)) else (none)) else (none)) else (none)) else (none)) else (none)) else (none))))) = some r := H
 have A2 := Aside0.mk A20
 clear A20
 replace H := Option.bind_eq_some_iff.mp H
 obtain ⟨⟨t169, t170, t171, t172, t173, t174, t175⟩, A30, H⟩ := H
 replace H : ((clusterlockslaw11_claim.f 3 1).bind fun bt179 => ((line_Insert.f k (([(⟨(⟨t155, t156, t157⟩ : S24), (⟨t158, t159⟩ : S26), t160, t161⟩ : S28), (⟨(⟨t162, t163, t164⟩ : S24), (⟨t165, t166⟩ : S26), t167, t168⟩ : S28), (⟨(⟨t169, t170, t171⟩ : S24), (⟨t172, t173⟩ : S26), t174, t175⟩ : S28)] : List (S28))) bt179.1 bt179.2.1 bt179.2.2.1 bt179.2.2.2.1 bt179.2.2.2.2.1 bt179.2.2.2.2.2.1 bt179.2.2.2.2.2.2).bind fun bt186 => (if bt186.2.2 = 0 then (if bt186.2.1 = 1 then (if (bt186.1.length : Int) = 4 then (if 2 < (bt186.1.length : Int) then (if ((rd_T28 bt186.1 2).f3) = 1 then (if 3 < (bt186.1.length : Int) then (if ((rd_T28 bt186.1 3).f3) = 1 then (if 0 < (bt186.1.length : Int) then (if ((rd_T28 bt186.1 0).f3) = 0 then ((clusterlocksmill_Proc.f 3).bind fun bt194 => ((line_Find.f bt186.1 bt194.1 bt194.2.1 bt194.2.2).bind fun t197 => (if t197 = 1 then ((clusterlocksmill_Proc.f 2).bind fun bt198 => ((line_Ahead.f k bt186.1 bt198.1 bt198.2.1 bt198.2.2).bind fun t201 => (some ((t201.length : Int) == 3)))) else (none)))) else (none)) else (none)) else (none)) else (none)) else (none)) else (none)) else (none)) else (none)) else (none)))) = some r := H
 have A3 := Aside0.mk A30
 clear A30
 obtain ⟨y176, hy176⟩ : ∃ y_ : List (S28), y_ = (([(⟨(⟨t155, t156, t157⟩ : S24), (⟨t158, t159⟩ : S26), t160, t161⟩ : S28), (⟨(⟨t162, t163, t164⟩ : S24), (⟨t165, t166⟩ : S26), t167, t168⟩ : S28), (⟨(⟨t169, t170, t171⟩ : S24), (⟨t172, t173⟩ : S26), t174, t175⟩ : S28)] : List (S28))) := ⟨_, rfl⟩
 replace H : ((clusterlockslaw11_claim.f 3 1).bind fun bt179 => ((line_Insert.f k y176 bt179.1 bt179.2.1 bt179.2.2.1 bt179.2.2.2.1 bt179.2.2.2.2.1 bt179.2.2.2.2.2.1 bt179.2.2.2.2.2.2).bind fun bt186 => (if bt186.2.2 = 0 then (if bt186.2.1 = 1 then (if (bt186.1.length : Int) = 4 then (if 2 < (bt186.1.length : Int) then (if ((rd_T28 bt186.1 2).f3) = 1 then (if 3 < (bt186.1.length : Int) then (if ((rd_T28 bt186.1 3).f3) = 1 then (if 0 < (bt186.1.length : Int) then (if ((rd_T28 bt186.1 0).f3) = 0 then ((clusterlocksmill_Proc.f 3).bind fun bt194 => ((line_Find.f bt186.1 bt194.1 bt194.2.1 bt194.2.2).bind fun t197 => (if t197 = 1 then ((clusterlocksmill_Proc.f 2).bind fun bt198 => ((line_Ahead.f k bt186.1 bt198.1 bt198.2.1 bt198.2.2).bind fun t201 => (some ((t201.length : Int) == 3)))) else (none)))) else (none)) else (none)) else (none)) else (none)) else (none)) else (none)) else (none)) else (none)) else (none)))) = some r := by first | (rw [hy176]; with_reducible exact H) | (have H2_ := (Option.bind_some _ _).symm.trans H; rw [hy176]; with_reducible exact H2_) | (have H2_ := (Option.bind_some _ _).symm.trans H; with_reducible exact H2_) | with_reducible exact H | (rw [hy176]; exact H) | exact H
 have Ny176 := Aside0.mk hy176
 clear hy176
 replace H := Option.bind_eq_some_iff.mp H
 obtain ⟨⟨t179, t180, t181, t182, t183, t184, t185⟩, A40, H⟩ := H
 replace H : ((line_Insert.f k y176 t179 t180 t181 t182 t183 t184 t185).bind fun bt186 => (if bt186.2.2 = 0 then (if bt186.2.1 = 1 then (if (bt186.1.length : Int) = 4 then (if 2 < (bt186.1.length : Int) then (if ((rd_T28 bt186.1 2).f3) = 1 then (if 3 < (bt186.1.length : Int) then (if ((rd_T28 bt186.1 3).f3) = 1 then (if 0 < (bt186.1.length : Int) then (if ((rd_T28 bt186.1 0).f3) = 0 then ((clusterlocksmill_Proc.f 3).bind fun bt194 => ((line_Find.f bt186.1 bt194.1 bt194.2.1 bt194.2.2).bind fun t197 => (if t197 = 1 then ((clusterlocksmill_Proc.f 2).bind fun bt198 => ((line_Ahead.f k bt186.1 bt198.1 bt198.2.1 bt198.2.2).bind fun t201 => (some ((t201.length : Int) == 3)))) else (none)))) else (none)) else (none)) else (none)) else (none)) else (none)) else (none)) else (none)) else (none)) else (none))) = some r := H
 have A4 := Aside0.mk A40
 clear A40
 replace H := Option.bind_eq_some_iff.mp H
 obtain ⟨⟨t186, t189, t190⟩, A50, H⟩ := H
 replace H : (if t190 = 0 then (if t189 = 1 then (if (t186.length : Int) = 4 then (if 2 < (t186.length : Int) then (if ((rd_T28 t186 2).f3) = 1 then (if 3 < (t186.length : Int) then (if ((rd_T28 t186 3).f3) = 1 then (if 0 < (t186.length : Int) then (if ((rd_T28 t186 0).f3) = 0 then ((clusterlocksmill_Proc.f 3).bind fun bt194 => ((line_Find.f t186 bt194.1 bt194.2.1 bt194.2.2).bind fun t197 => (if t197 = 1 then ((clusterlocksmill_Proc.f 2).bind fun bt198 => ((line_Ahead.f k t186 bt198.1 bt198.2.1 bt198.2.2).bind fun t201 => (some ((t201.length : Int) == 3)))) else (none)))) else (none)) else (none)) else (none)) else (none)) else (none)) else (none)) else (none)) else (none)) else (none)) = some r := H
 have A5 := Aside0.mk A50
 clear A50
 by_cases c6 : t190 = 0
 ·rw [if_pos c6] at H
  have c6b0 : (t190 == 0) = true := beq_iff_eq.mpr c6
  have c6b1 : (t190 != 0) = false := bne_eq_false_iff_eq.mpr c6
  clear c6
  by_cases c7 : t189 = 1
  ·rw [if_pos c7] at H
   have c7b0 : (t189 == 1) = true := beq_iff_eq.mpr c7
   have c7b1 : (t189 != 1) = false := bne_eq_false_iff_eq.mpr c7
   clear c7
   by_cases c8 : (t186.length : Int) = 4
   ·rw [if_pos c8] at H
    have c8b0 : ((t186.length : Int) == 4) = true := beq_iff_eq.mpr c8
    have c8b1 : ((t186.length : Int) != 4) = false := bne_eq_false_iff_eq.mpr c8
    clear c8
    by_cases c9 : 2 < (t186.length : Int)
    ·rw [if_pos c9] at H
     have c9b0 : decide (2 < (t186.length : Int)) = true := decide_eq_true c9
     have c9b1 : decide (2 < t186.length) = true := decide_eq_true (by omega)
     clear c9
     by_cases c10 : ((rd_T28 t186 2).f3) = 1
     ·rw [if_pos c10] at H
      have c10b0 : (((rd_T28 t186 2).f3) == 1) = true := beq_iff_eq.mpr c10
      have c10b1 : (((rd_T28 t186 2).f3) != 1) = false := bne_eq_false_iff_eq.mpr c10
      clear c10
      by_cases c11 : 3 < (t186.length : Int)
      ·rw [if_pos c11] at H
       have c11b0 : decide (3 < (t186.length : Int)) = true := decide_eq_true c11
       have c11b1 : decide (3 < t186.length) = true := decide_eq_true (by omega)
       clear c11
       by_cases c12 : ((rd_T28 t186 3).f3) = 1
       ·rw [if_pos c12] at H
        have c12b0 : (((rd_T28 t186 3).f3) == 1) = true := beq_iff_eq.mpr c12
        have c12b1 : (((rd_T28 t186 3).f3) != 1) = false := bne_eq_false_iff_eq.mpr c12
        clear c12
        by_cases c13 : 0 < (t186.length : Int)
        ·rw [if_pos c13] at H
         have c13b0 : decide (0 < (t186.length : Int)) = true := decide_eq_true c13
         have c13b1 : decide (0 < t186.length) = true := decide_eq_true (by omega)
         clear c13
         by_cases c14 : ((rd_T28 t186 0).f3) = 0
         ·rw [if_pos c14] at H
          have c14b0 : (((rd_T28 t186 0).f3) == 0) = true := beq_iff_eq.mpr c14
          have c14b1 : (((rd_T28 t186 0).f3) != 0) = false := bne_eq_false_iff_eq.mpr c14
          clear c14
          replace H := Option.bind_eq_some_iff.mp H
          obtain ⟨⟨t194, t195, t196⟩, A150, H⟩ := H
          replace H : ((line_Find.f t186 t194 t195 t196).bind fun t197 => (if t197 = 1 then ((clusterlocksmill_Proc.f 2).bind fun bt198 => ((line_Ahead.f k t186 bt198.1 bt198.2.1 bt198.2.2).bind fun t201 => (some ((t201.length : Int) == 3)))) else (none))) = some r := H
          have A15 := Aside0.mk A150
          clear A150
          replace H := Option.bind_eq_some_iff.mp H
          obtain ⟨t197, A160, H⟩ := H
          replace H : (if t197 = 1 then ((clusterlocksmill_Proc.f 2).bind fun bt198 => ((line_Ahead.f k t186 bt198.1 bt198.2.1 bt198.2.2).bind fun t201 => (some ((t201.length : Int) == 3)))) else (none)) = some r := H
          have A16 := Aside0.mk A160
          clear A160
          by_cases c17 : t197 = 1
          ·rw [if_pos c17] at H
           have c17b0 : (t197 == 1) = true := beq_iff_eq.mpr c17
           have c17b1 : (t197 != 1) = false := bne_eq_false_iff_eq.mpr c17
           clear c17
           replace H := Option.bind_eq_some_iff.mp H
           obtain ⟨⟨t198, t199, t200⟩, A180, H⟩ := H
           replace H : ((line_Ahead.f k t186 t198 t199 t200).bind fun t201 => (some ((t201.length : Int) == 3))) = some r := H
           have A18 := Aside0.mk A180
           clear A180
           replace H := Option.bind_eq_some_iff.mp H
           obtain ⟨t201, A190, H⟩ := H
           replace H : (some ((t201.length : Int) == 3)) = some r := H
           have A19 := Aside0.mk A190
           clear A190
           obtain rfl := Option.some.inj H
           go_enter Try.func10, Try.ntmps10
           go_wp2_with (first | ((with_reducible refine gate_callee (f := 18) rfl ?_); refine goesL_ (some 5) rfl rfl Try.func18 (by kernel_rfl) rfl #[.int .i64 0, .int .i64 2] rfl (by (try simp only [List.map_toArray, List.map_cons, List.map_nil]); first | done | rfl | (simp only [List.length_drop, List.length_take]; rfl)) ?_; (with_reducible refine (clusterlockslaw11_claim.calls 0 2 t155 t156 t157 t158 t159 t160 t161 _ A1.out).mono ?_); rintro e w20 ⟨rfl, hb⟩; refine ⟨_, rfl, ?_⟩; have n0_ := am (below_step (zL HB.out) hb); clear HB; have HB := n0_; clear n0_; (try clear hb); (try clear hb2); (try clear hk); (try clear hi)) | ((with_reducible refine gate_callee (f := 18) rfl ?_); refine goesL_ (some 6) rfl rfl Try.func18 (by kernel_rfl) rfl #[.int .i64 1, .int .i64 0] rfl (by (try simp only [List.map_toArray, List.map_cons, List.map_nil]); first | done | rfl | (simp only [List.length_drop, List.length_take]; rfl)) ?_; (with_reducible refine (clusterlockslaw11_claim.calls 1 0 t162 t163 t164 t165 t166 t167 t168 _ A2.out).mono ?_); rintro e w21 ⟨rfl, hb⟩; refine ⟨_, rfl, ?_⟩; have n0_ := am (below_step (zL HB.out) hb); clear HB; have HB := n0_; clear n0_; (try clear hb); (try clear hb2); (try clear hk); (try clear hi)) | ((with_reducible refine gate_callee (f := 18) rfl ?_); refine goesL_ (some 7) rfl rfl Try.func18 (by kernel_rfl) rfl #[.int .i64 2, .int .i64 0] rfl (by (try simp only [List.map_toArray, List.map_cons, List.map_nil]); first | done | rfl | (simp only [List.length_drop, List.length_take]; rfl)) ?_; (with_reducible refine (clusterlockslaw11_claim.calls 2 0 t169 t170 t171 t172 t173 t174 t175 _ A3.out).mono ?_); rintro e w22 ⟨rfl, hb⟩; refine ⟨_, rfl, ?_⟩; have n0_ := am (below_step (zL HB.out) hb); clear HB; have HB := n0_; clear n0_; (try clear hb); (try clear hb2); (try clear hk); (try clear hi)) | ((with_reducible refine gate_dst (N := 8) rfl ?_); (try (refine gate_guard (by rfl) ?_; dsimp only)); refine Kd.R_lit k28 _ 28 ?hg (N := 8) ?hd (xs := ([(⟨(⟨t155, t156, t157⟩ : S24), (⟨t158, t159⟩ : S26), t160, t161⟩ : S28), (⟨(⟨t162, t163, t164⟩ : S24), (⟨t165, t166⟩ : S26), t167, t168⟩ : S28), (⟨(⟨t169, t170, t171⟩ : S24), (⟨t172, t173⟩ : S26), t174, t175⟩ : S28)] : List (S28))) (inner := [.int .i64 t155, .int .i64 t156, .int .i64 t157, .int .i64 t158, .int .i64 t159, .int .i64 t160, .int .i64 t161, .int .i64 t162, .int .i64 t163, .int .i64 t164, .int .i64 t165, .int .i64 t166, .int .i64 t167, .int .i64 t168, .int .i64 t169, .int .i64 t170, .int .i64 t171, .int .i64 t172, .int .i64 t173, .int .i64 t174, .int .i64 t175]) (ok := fun _ => True) (okp := fun _ => True) ?hr ?hp (fun _ hk => hk) trivial (Below.refl _ _) (Nat.le_refl _) (by simp) ?_; (case hd => rfl); (case hg => rfl); (case hr => first | (go_simp; done) | (go_simp; rfl)); (case hp => exact (Reps.c7 (show Kd.M k28 _ _ _ (⟨(⟨t155, t156, t157⟩ : S24), (⟨t158, t159⟩ : S26), t160, t161⟩ : S28) [.int .i64 t155, .int .i64 t156, .int .i64 t157, .int .i64 t158, .int .i64 t159, .int .i64 t160, .int .i64 t161] from (k28_mkM _ _ _ (⟨(⟨t155, t156, t157⟩ : S24), (⟨t158, t159⟩ : S26), t160, t161⟩ : S28) )) (Reps.c7 (show Kd.M k28 _ _ _ (⟨(⟨t162, t163, t164⟩ : S24), (⟨t165, t166⟩ : S26), t167, t168⟩ : S28) [.int .i64 t162, .int .i64 t163, .int .i64 t164, .int .i64 t165, .int .i64 t166, .int .i64 t167, .int .i64 t168] from (k28_mkM _ _ _ (⟨(⟨t162, t163, t164⟩ : S24), (⟨t165, t166⟩ : S26), t167, t168⟩ : S28) )) (Reps.c7 (show Kd.M k28 _ _ _ (⟨(⟨t169, t170, t171⟩ : S24), (⟨t172, t173⟩ : S26), t174, t175⟩ : S28) [.int .i64 t169, .int .i64 t170, .int .i64 t171, .int .i64 t172, .int .i64 t173, .int .i64 t174, .int .i64 t175] from (k28_mkM _ _ _ (⟨(⟨t169, t170, t171⟩ : S24), (⟨t172, t173⟩ : S26), t174, t175⟩ : S28) )) (Reps.none _ _))))); intro v177 w23 ho24 hb hg_ hnew_; clear hg_ hnew_; (first | rw [← Ny176.out] at ho24 | (simp only [Int.reduceToNat] at ho24; rw [← Ny176.out] at ho24)); have n0_ := am (Kd.R_lower ho24 (below_size (zL HB.out))); have n1_ := am (below_step (zL HB.out) hb); clear HB; have HO178 := n0_; have HB := n1_; clear n0_ n1_; clear hb ho24) | ((with_reducible refine gate_callee (f := 18) rfl ?_); refine goesL_ (some 11) rfl rfl Try.func18 (by kernel_rfl) rfl #[.int .i64 3, .int .i64 1] rfl (by (try simp only [List.map_toArray, List.map_cons, List.map_nil]); first | done | rfl | (simp only [List.length_drop, List.length_take]; rfl)) ?_; (with_reducible refine (clusterlockslaw11_claim.calls 3 1 t179 t180 t181 t182 t183 t184 t185 _ A4.out).mono ?_); rintro e w25 ⟨rfl, hb⟩; refine ⟨_, rfl, ?_⟩; have n0_ := am (Kd.R_below (zR HO178.out) hb); have n1_ := am (below_step (zL HB.out) hb); clear HO178 HB; have HO178 := n0_; have HB := n1_; clear n0_ n1_; (try clear hb); (try clear hb2); (try clear hk); (try clear hi); obtain ⟨Ao26, co26, eo26⟩ := Kd.R_slice HO178.out; subst eo26) | ((with_reducible refine gate_callee (f := 15) rfl ?_); refine goesL_ (some 12) rfl rfl Try.func15 (by kernel_rfl) rfl #[.slice Ao26 y176.length co26, .agg #[.int .i64 t179, .int .i64 t180, .int .i64 t181, .int .i64 t182, .int .i64 t183, .int .i64 t184, .int .i64 t185]] rfl (by (try simp only [List.map_toArray, List.map_cons, List.map_nil]); first | done | rfl | (simp only [List.length_drop, List.length_take]; rfl)) ?_; (with_reducible refine (line_Insert.calls k _ _ y176 t179 t180 t181 t182 t183 t184 t185 t186 t189 t190 _ ?side1 ?side2 A5.out).mono ?_); (case side1 => exact zC (Kd.R_reads' HO178.out).2.2); (case side2 => exact (Kd.R_reads' HO178.out).2.1); rintro e w27 ⟨v187, rfl, ho0, hb⟩; refine ⟨_, rfl, ?_⟩; have n0_ := am (Kd.R_elder' (zR HO178.out) (Kd.R_base ho0) hb); have n1_ := am (Kd.R_lower (Kd.R_new' ho0 (Kd.R_lt (zR HO178.out))) (below_size (zL HB.out))); have n2_ := am (below_step (zL HB.out) hb); clear HO178 HB; have HO178 := n0_; have HO188 := n1_; have HB := n2_; clear n0_ n1_ n2_; (try clear hb); (try clear hb2); (try clear hk); (try clear hi); (try clear ho0); obtain ⟨Ao28, co28, eo28⟩ := Kd.R_slice HO188.out; subst eo28; have p191 : 0 ≤ (2 : Int) := (by omega); have q191 : 2 < (t186.length : Int) := of_decide_eq_true (by first | (with_reducible assumption) | assumption); obtain ⟨ad191, e191, hx191_0, hx191_1, hx191_2, hx191_3, hx191_4, hx191_5, hx191_6⟩ := at_T28 (Kd.R_reads' HO188.out).2.2 2 p191 q191; cases e191; (try simp only [show (2 : Int).toNat = 2 from rfl, Nat.reduceMul, Nat.reduceEqDiff, Go.Addr.add, ↓reduceIte] at hx191_0); (try simp only [show (2 : Int).toNat = 2 from rfl, Nat.reduceMul, Nat.reduceEqDiff, Go.Addr.add, ↓reduceIte] at hx191_1); (try simp only [show (2 : Int).toNat = 2 from rfl, Nat.reduceMul, Nat.reduceEqDiff, Go.Addr.add, ↓reduceIte] at hx191_2); (try simp only [show (2 : Int).toNat = 2 from rfl, Nat.reduceMul, Nat.reduceEqDiff, Go.Addr.add, ↓reduceIte] at hx191_3); (try simp only [show (2 : Int).toNat = 2 from rfl, Nat.reduceMul, Nat.reduceEqDiff, Go.Addr.add, ↓reduceIte] at hx191_4); (try simp only [show (2 : Int).toNat = 2 from rfl, Nat.reduceMul, Nat.reduceEqDiff, Go.Addr.add, ↓reduceIte] at hx191_5); (try simp only [show (2 : Int).toNat = 2 from rfl, Nat.reduceMul, Nat.reduceEqDiff, Go.Addr.add, ↓reduceIte] at hx191_6); have qi191 : (2 < t186.length) = True := eq_true (by omega); (try rw [show ((2 : Int)).toNat = 2 from rfl] at hx191_0); (try rw [show 2 * 7 = 14 from rfl] at hx191_0); (try rw [show ((2 : Int)).toNat = 2 from rfl] at hx191_1); (try rw [show 2 * 7 = 14 from rfl] at hx191_1); (try rw [show ((2 : Int)).toNat = 2 from rfl] at hx191_2); (try rw [show 2 * 7 = 14 from rfl] at hx191_2); (try rw [show ((2 : Int)).toNat = 2 from rfl] at hx191_3); (try rw [show 2 * 7 = 14 from rfl] at hx191_3); (try rw [show ((2 : Int)).toNat = 2 from rfl] at hx191_4); (try rw [show 2 * 7 = 14 from rfl] at hx191_4); (try rw [show ((2 : Int)).toNat = 2 from rfl] at hx191_5); (try rw [show 2 * 7 = 14 from rfl] at hx191_5); (try rw [show ((2 : Int)).toNat = 2 from rfl] at hx191_6); (try rw [show 2 * 7 = 14 from rfl] at hx191_6); replace p191 := eq_true p191; replace q191 := eq_true q191; have p192 : 0 ≤ (3 : Int) := (by omega); have q192 : 3 < (t186.length : Int) := of_decide_eq_true (by first | (with_reducible assumption) | assumption); obtain ⟨ad192, e192, hx192_0, hx192_1, hx192_2, hx192_3, hx192_4, hx192_5, hx192_6⟩ := at_T28 (Kd.R_reads' HO188.out).2.2 3 p192 q192; obtain rfl : ad191 = ad192 := (by injection e192); (try simp only [show (3 : Int).toNat = 3 from rfl, Nat.reduceMul, Nat.reduceEqDiff, Go.Addr.add, ↓reduceIte] at hx192_0); (try simp only [show (3 : Int).toNat = 3 from rfl, Nat.reduceMul, Nat.reduceEqDiff, Go.Addr.add, ↓reduceIte] at hx192_1); (try simp only [show (3 : Int).toNat = 3 from rfl, Nat.reduceMul, Nat.reduceEqDiff, Go.Addr.add, ↓reduceIte] at hx192_2); (try simp only [show (3 : Int).toNat = 3 from rfl, Nat.reduceMul, Nat.reduceEqDiff, Go.Addr.add, ↓reduceIte] at hx192_3); (try simp only [show (3 : Int).toNat = 3 from rfl, Nat.reduceMul, Nat.reduceEqDiff, Go.Addr.add, ↓reduceIte] at hx192_4); (try simp only [show (3 : Int).toNat = 3 from rfl, Nat.reduceMul, Nat.reduceEqDiff, Go.Addr.add, ↓reduceIte] at hx192_5); (try simp only [show (3 : Int).toNat = 3 from rfl, Nat.reduceMul, Nat.reduceEqDiff, Go.Addr.add, ↓reduceIte] at hx192_6); have qi192 : (3 < t186.length) = True := eq_true (by omega); (try rw [show ((3 : Int)).toNat = 3 from rfl] at hx192_0); (try rw [show 3 * 7 = 21 from rfl] at hx192_0); (try rw [show ((3 : Int)).toNat = 3 from rfl] at hx192_1); (try rw [show 3 * 7 = 21 from rfl] at hx192_1); (try rw [show ((3 : Int)).toNat = 3 from rfl] at hx192_2); (try rw [show 3 * 7 = 21 from rfl] at hx192_2); (try rw [show ((3 : Int)).toNat = 3 from rfl] at hx192_3); (try rw [show 3 * 7 = 21 from rfl] at hx192_3); (try rw [show ((3 : Int)).toNat = 3 from rfl] at hx192_4); (try rw [show 3 * 7 = 21 from rfl] at hx192_4); (try rw [show ((3 : Int)).toNat = 3 from rfl] at hx192_5); (try rw [show 3 * 7 = 21 from rfl] at hx192_5); (try rw [show ((3 : Int)).toNat = 3 from rfl] at hx192_6); (try rw [show 3 * 7 = 21 from rfl] at hx192_6); replace p192 := eq_true p192; replace q192 := eq_true q192; have p193 : 0 ≤ (0 : Int) := (by omega); have q193 : 0 < (t186.length : Int) := of_decide_eq_true (by first | (with_reducible assumption) | assumption); obtain ⟨ad193, e193, hx193_0, hx193_1, hx193_2, hx193_3, hx193_4, hx193_5, hx193_6⟩ := at_T28 (Kd.R_reads' HO188.out).2.2 0 p193 q193; obtain rfl : ad191 = ad193 := (by injection e193); have qi193 : (0 < t186.length) = True := eq_true (by omega); (try rw [show ((0 : Int)).toNat = 0 from rfl] at hx193_0); (try rw [show 0 * 7 = 0 from rfl] at hx193_0); (try rw [Addr.add_zero'] at hx193_0); (try rw [show ((0 : Int)).toNat = 0 from rfl] at hx193_1); (try rw [show 0 * 7 = 0 from rfl] at hx193_1); (try rw [Addr.add_zero'] at hx193_1); (try rw [show ((0 : Int)).toNat = 0 from rfl] at hx193_2); (try rw [show 0 * 7 = 0 from rfl] at hx193_2); (try rw [Addr.add_zero'] at hx193_2); (try rw [show ((0 : Int)).toNat = 0 from rfl] at hx193_3); (try rw [show 0 * 7 = 0 from rfl] at hx193_3); (try rw [Addr.add_zero'] at hx193_3); (try rw [show ((0 : Int)).toNat = 0 from rfl] at hx193_4); (try rw [show 0 * 7 = 0 from rfl] at hx193_4); (try rw [Addr.add_zero'] at hx193_4); (try rw [show ((0 : Int)).toNat = 0 from rfl] at hx193_5); (try rw [show 0 * 7 = 0 from rfl] at hx193_5); (try rw [Addr.add_zero'] at hx193_5); (try rw [show ((0 : Int)).toNat = 0 from rfl] at hx193_6); (try rw [show 0 * 7 = 0 from rfl] at hx193_6); (try rw [Addr.add_zero'] at hx193_6); replace p193 := eq_true p193; replace q193 := eq_true q193) | (go_at_call 29; (with_reducible refine (clusterlocksmill_Proc.calls 3 t194 t195 t196 _ A15.out).mono ?_); rintro e w29 ⟨rfl, hb⟩; have n0_ := am (Kd.R_below (zR HO178.out) hb); have n1_ := am (Kd.R_below (zR HO188.out) hb); have n2_ := am (below_step (zL HB.out) hb); clear HO178 HO188 HB; have HO178 := n0_; have HO188 := n1_; have HB := n2_; clear n0_ n1_ n2_; (try clear hb); (try clear hb2); (try clear hk); (try clear hi)) | (go_at_call 21; (with_reducible refine (line_Find.calls _ _ t186 t194 t195 t196 t197 _ ?side1 ?side2 A16.out).mono ?_); (case side1 => exact zC (Kd.R_reads' HO188.out).2.2); (case side2 => exact (Kd.R_reads' HO188.out).2.1); rintro e w30 ⟨rfl, hb⟩; have n0_ := am (Kd.R_below (zR HO178.out) hb); have n1_ := am (Kd.R_below (zR HO188.out) hb); have n2_ := am (below_step (zL HB.out) hb); clear HO178 HO188 HB; have HO178 := n0_; have HO188 := n1_; have HB := n2_; clear n0_ n1_ n2_; (try clear hb); (try clear hb2); (try clear hk); (try clear hi)) | (go_at_call 29; (with_reducible refine (clusterlocksmill_Proc.calls 2 t198 t199 t200 _ A18.out).mono ?_); rintro e w31 ⟨rfl, hb⟩; have n0_ := am (Kd.R_below (zR HO178.out) hb); have n1_ := am (Kd.R_below (zR HO188.out) hb); have n2_ := am (below_step (zL HB.out) hb); clear HO178 HO188 HB; have HO178 := n0_; have HO188 := n1_; have HB := n2_; clear n0_ n1_ n2_; (try clear hb); (try clear hb2); (try clear hk); (try clear hi)) | (go_at_call 24; (with_reducible refine (line_Ahead.calls k _ _ t186 t198 t199 t200 t201 _ ?side1 ?side2 A19.out).mono ?_); (case side1 => exact zC (Kd.R_reads' HO188.out).2.2); (case side2 => exact (Kd.R_reads' HO188.out).2.1); rintro e w32 ⟨v202, rfl, ho0, hb⟩; have n0_ := am (Kd.R_below (zR HO178.out) hb); have n1_ := am (Kd.R_below (zR HO188.out) hb); have n2_ := am (Kd.R_lower ho0 (below_size (zL HB.out))); have n3_ := am (below_step (zL HB.out) hb); clear HO178 HO188 HB; have HO178 := n0_; have HO188 := n1_; have HO203 := n2_; have HB := n3_; clear n0_ n1_ n2_ n3_; (try clear hb); (try clear hb2); (try clear hk); (try clear hi); (try clear ho0); obtain ⟨Ao33, co33, eo33⟩ := Kd.R_slice HO203.out; subst eo33))
           go_ret
           exact ⟨by first | rfl | (simp [errW_none, errW_some] <;> rfl) | (simp [*, errW_none, errW_some] <;> rfl), zL HB.out⟩
          ·rw [if_neg c17] at H
           exact absurd H (by simp)
         ·rw [if_neg c14] at H
          exact absurd H (by simp)
        ·rw [if_neg c13] at H
         exact absurd H (by simp)
       ·rw [if_neg c12] at H
        exact absurd H (by simp)
      ·rw [if_neg c11] at H
       exact absurd H (by simp)
     ·rw [if_neg c10] at H
      exact absurd H (by simp)
    ·rw [if_neg c9] at H
     exact absurd H (by simp)
   ·rw [if_neg c8] at H
    exact absurd H (by simp)
  ·rw [if_neg c7] at H
   exact absurd H (by simp)
 ·rw [if_neg c6] at H
  exact absurd H (by simp)

end Go.Proofs.Ytgomhoolipfkmaa.Y
