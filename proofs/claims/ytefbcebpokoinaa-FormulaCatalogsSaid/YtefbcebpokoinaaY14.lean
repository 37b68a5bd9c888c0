-- Laid by a program of this session's (xprint.py, which runs the kit's print.py with patches of its own). Lean checks it.
import Derived.Test.YtefbcebpokoinaaY0
namespace Go.Proofs.Ytefbcebpokoinaa.Y
open Go.RowKit Go.Proofs.YtefbcebpokoinaaW.PrintWords Go.Proofs.YtefbcebpokoinaaW.PrintLast Go.Proofs.YtefbcebpokoinaaW.PrintMore
attribute [local go_sem] max2_int min2_int max_two min_two max_three min_three max_four min_four   -- for this text's walks alone
set_option linter.unusedVariables false
set_option linter.unusedSimpArgs false

/-! ### clusterlocksmill_Light: function 19 -/
def clusterlocksmill_Light.f (l0 : List Int) : Option (Bool) := some (decide ((l0.length : Int) ≤ 300))
set_option maxHeartbeats 8000000 in
set_option maxRecDepth 100000 in
theorem clusterlocksmill_Light.calls (A0 : Option Addr) (c0 : Nat) (l0 : List Int) (r : Bool) (w : World) (hr0 : Kd.C (Kd.int .i64) w A0 l0.length l0) (hc0 : l0.length ≤ c0) (h : clusterlocksmill_Light.f l0 = some r) :
  Calls Try.prog 19 #[.slice A0 l0.length c0] w fun e w' => e = .returned (.bool r) ∧ Drawn0 w w' := by
 have HR0 := Aside0.mk hr0
 have HC0 := Aside0.mk hc0
 clear hr0 hc0
 have H : (some (decide ((l0.length : Int) ≤ 300))) = some r := h
 clear h
 obtain rfl := Option.some.inj H
 go_enter Try.func19, Try.ntmps19
 go_wp2
 go_ret
 exact ⟨by first | rfl | (simp; done) | (simp [*]; done), by repeat (first | exact Drawn0.refl _ | apply Drawn0.step)⟩

/-! ### clusterlocksmill_Mod: function 46 -/
def clusterlocksmill_Mod.f (a0 : Int) (a1 : Int) : Option (Int) := if a1 < 1 then (some 0) else (if a1 = 0 then (none) else (if (Int.tmod a0 a1) < 0 then (some (wrap64 ((Int.tmod a0 a1) + a1))) else (some (Int.tmod a0 a1))))
set_option maxHeartbeats 8000000 in
set_option maxRecDepth 100000 in
theorem clusterlocksmill_Mod.calls (a0 : Int) (a1 : Int) (r : Int) (w : World) (h : clusterlocksmill_Mod.f a0 a1 = some r) :
  Calls Try.prog 46 #[.int .i64 a0, .int .i64 a1] w fun e w' => e = .returned (.int .i64 r) ∧ Drawn0 w w' := by
 have H : (if a1 < 1 then (some 0) else (if a1 = 0 then (none) else (if (Int.tmod a0 a1) < 0 then (some (wrap64 ((Int.tmod a0 a1) + a1))) else (some (Int.tmod a0 a1))))) = some r := h
 clear h
 by_cases c3 : a1 < 1
 ·rw [if_pos c3] at H
  have c3b0 : decide (a1 < 1) = true := decide_eq_true c3
  clear c3
  obtain rfl := Option.some.inj H
  go_enter Try.func46, Try.ntmps46
  go_wp2
  go_ret
  exact ⟨by first | rfl | (simp; done) | (simp [*]; done), by repeat (first | exact Drawn0.refl _ | apply Drawn0.step)⟩
 ·rw [if_neg c3] at H
  have c3b0 : decide (a1 < 1) = false := decide_eq_false c3
  clear c3
  by_cases c4 : a1 = 0
  ·rw [if_pos c4] at H
   exact absurd H (by simp)
  ·rw [if_neg c4] at H
   have c4b0 : (a1 == 0) = false := beq_eq_false_iff_ne.mpr c4
   have c4b1 : (a1 != 0) = true := bne_iff_ne.mpr c4
   by_cases c5 : (Int.tmod a0 a1) < 0
   ·rw [if_pos c5] at H
    have c5b0 : decide ((Int.tmod a0 a1) < 0) = true := decide_eq_true c5
    clear c5
    obtain rfl := Option.some.inj H
    go_enter Try.func46, Try.ntmps46
    go_wp2
    go_ret
    exact ⟨by first | rfl | (simp; done) | (simp [*]; done), by repeat (first | exact Drawn0.refl _ | apply Drawn0.step)⟩
   ·rw [if_neg c5] at H
    have c5b0 : decide ((Int.tmod a0 a1) < 0) = false := decide_eq_false c5
    clear c5
    obtain rfl := Option.some.inj H
    go_enter Try.func46, Try.ntmps46
    go_wp2
    go_ret
    exact ⟨by first | rfl | (simp; done) | (simp [*]; done), by repeat (first | exact Drawn0.refl _ | apply Drawn0.step)⟩

/-- A state of type 39 at block g of W; what its slices lead to came in by w0. -/
def IsS39 (w0 W : World) (g : Nat) (f0 : List Int) (f1 : Int) : Prop := ∃ A0 c0, W.heap[g]? = some (.cells #[.slice A0 f0.length c0, .int .i64 f1] 39 (0, 0)) ∧ w0.heap.size ≤ g ∧ Kd.C (Kd.int .i64) w0 A0 f0.length f0
theorem IsS39.grown {w0 W : World} {g : Nat} {f0 : List Int} {f1 : Int} {W1 : World} {row : Option Nat} (h : IsS39 w0 W g f0 f1) (hw : W.grownBy W1 row) (hne : some g ≠ row) : IsS39 w0 W1 g f0 f1 := by
 obtain ⟨A0, c0, hb, hg, hr0⟩ := h
 exact ⟨A0, c0, blk_grown hb hw hne, hg, hr0⟩
theorem IsS39.own_neN {w0 W : World} {g : Nat} {f0 : List Int} {f1 : Int} {α : Type} {d : Kd α} {e : Nat} {base : Nat} {ok : Nat → Prop} {v : Value} {xs : List α} (h : IsS39 w0 W g f0 f1) (ho : Kd.N d e W base ok v xs) (ht : e ≠ 39) : some g ≠ v.ownBlock := by
 obtain ⟨A0, c0, hb, hg, hr0⟩ := h
 exact Kd.N_ne ho hb ht
theorem IsS39.fresh {w0 W : World} {g : Nat} {f0 : List Int} {f1 : Int} (h : IsS39 w0 W g f0 f1) : ∀ k, W.heap.size ≤ k → k ≠ g := by
 obtain ⟨A0, c0, hb, hg, hr0⟩ := h
 exact Kd.freshB hb
theorem IsS39.kept {w0 W : World} {g : Nat} {f0 : List Int} {f1 : Int} {W1 : World} {S : Nat → Prop} (h : IsS39 w0 W g f0 f1) (hk : Kept W W1 S) (hne : ¬ S g) : IsS39 w0 W1 g f0 f1 := by
 obtain ⟨A0, c0, hb, hg, hr0⟩ := h
 exact ⟨A0, c0, blk_kept hb hk hne, hg, hr0⟩
theorem IsS39.below {w0 W : World} {g : Nat} {f0 : List Int} {f1 : Int} {W1 : World} (h : IsS39 w0 W g f0 f1) (hw : Below W.heap.size W W1) : IsS39 w0 W1 g f0 f1 := h.grown (grown_of_below hw none) (by simp)
theorem IsS39.alloc {w0 W : World} {g : Nat} {f0 : List Int} {f1 : Int} (h : IsS39 w0 W g f0 f1) (o : Obj) : IsS39 w0 (W.alloc o) g f0 f1 := h.below (below_alloc (Below.refl _ _) o)
theorem IsS39.drewN {w0 W : World} {g : Nat} {f0 : List Int} {f1 : Int} (h : IsS39 w0 W g f0 f1) (m : Nat) : IsS39 w0 (W.drewN m) g f0 f1 := h
theorem IsS39.drew {w0 W : World} {g : Nat} {f0 : List Int} {f1 : Int} (h : IsS39 w0 W g f0 f1) : IsS39 w0 W.drew g f0 f1 := h
theorem IsS39.at_ {w0 W : World} {g : Nat} {f0 : List Int} {f1 : Int} {w' : World} {m : Nat} (hq : W.drewN m = w') (h : IsS39 w0 W g f0 f1) : IsS39 w0 w' g f0 f1 := by subst hq; exact IsS39.drewN h m
theorem IsS39.apart {w0 W : World} {g : Nat} {f0 : List Int} {f1 : Int} {α : Type} {d : Kd α} {e : Nat} {base : Nat} {ok : Nat → Prop} {v : Value} {xs : List α} (h : IsS39 w0 W g f0 f1) (ho : d.R e W base ok v xs) (ht : ∀ q, q ∈ e :: d.E → q ≠ 39) : d.R e W base (fun k => ok k ∧ k ≠ g) v xs := by
 obtain ⟨A0, c0, hb, hg, hr0⟩ := h
 exact Kd.R_types ho hb ht
theorem IsS39.own_ne {w0 W : World} {g : Nat} {f0 : List Int} {f1 : Int} {α : Type} {d : Kd α} {e : Nat} {base : Nat} {ok : Nat → Prop} {v : Value} {xs : List α} (h : IsS39 w0 W g f0 f1) (ho : d.R e W base ok v xs) (ht : e ≠ 39) : some g ≠ v.ownBlock := by
 obtain ⟨A0, c0, hb, hg, hr0⟩ := h
 exact Kd.R_ne ho hb ht
theorem IsS39.apartQ {w0 W : World} {g : Nat} {f0 : List Int} {f1 : Int} {α : Type} {d : Kd α} {e : Nat} {base : Nat} {ok : Nat → Prop} {v : Value} {xs : List α} (h : IsS39 w0 W g f0 f1) (ho : d.Q e W base ok v xs) (ht : ∀ q, q ∈ e :: d.E → q ≠ 39) : d.Q e W base (fun k => ok k ∧ k ≠ g) v xs := by
 obtain ⟨A0, c0, hb, hg, hr0⟩ := h
 exact Kd.Q_types ho hb ht
theorem IsS39.own_neQ {w0 W : World} {g : Nat} {f0 : List Int} {f1 : Int} {α : Type} {d : Kd α} {e : Nat} {base : Nat} {ok : Nat → Prop} {v : Value} {xs : List α} (h : IsS39 w0 W g f0 f1) (ho : d.Q e W base ok v xs) (ht : e ≠ 39) : some g ≠ v.ownBlock := by
 obtain ⟨A0, c0, hb, hg, hr0⟩ := h
 exact Kd.Q_ne ho hb ht
theorem IsS39.apartS {w0 W : World} {g : Nat} {f0 : List Int} {f1 : Int} {α : Type} {d : Kd α} {e : Nat} {base : Nat} {ok : Nat → Prop} {v : Value} {xs : List α} (h : IsS39 w0 W g f0 f1) (ho : d.S e W base ok v xs) (ht : ∀ q, q ∈ e :: d.E → q ≠ 39) : d.S e W base (fun k => ok k ∧ k ≠ g) v xs := by
 obtain ⟨A0, c0, hb, hg, hr0⟩ := h
 exact Kd.S_types ho hb ht
theorem IsS39.own_neS {w0 W : World} {g : Nat} {f0 : List Int} {f1 : Int} {α : Type} {d : Kd α} {e : Nat} {base : Nat} {ok : Nat → Prop} {v : Value} {xs : List α} (h : IsS39 w0 W g f0 f1) (ho : d.S e W base ok v xs) (ht : e ≠ 39) : some g ≠ v.ownBlock := by
 obtain ⟨A0, c0, hb, hg, hr0⟩ := h
 exact Kd.S_ne ho hb ht
theorem IsS39.lt {w0 W : World} {g : Nat} {f0 : List Int} {f1 : Int} (h : IsS39 w0 W g f0 f1) : g < W.heap.size := by
 obtain ⟨A0, c0, hb, hg, hr0⟩ := h
 exact blk_lt hb
theorem IsS39.ge {w0 W : World} {g : Nat} {f0 : List Int} {f1 : Int} (h : IsS39 w0 W g f0 f1) : w0.heap.size ≤ g := by
 obtain ⟨A0, c0, hb, hg, hr0⟩ := h
 exact hg
theorem IsS39.ne_blk {w0 W : World} {g : Nat} {f0 : List Int} {f1 : Int} {a : Nat} {cs : Array Value} {t : TypeId} {fr : Nat × Nat} (h : IsS39 w0 W g f0 f1) (hb2 : W.heap[a]? = some (.cells cs t fr)) (ht : t ≠ 39) : g ≠ a := by
 obtain ⟨A0, c0, hb, hg, hr0⟩ := h
 rintro rfl
 rw [hb] at hb2
 injection hb2 with hb2
 injection hb2 with _ ht2
 exact ht ht2.symm
theorem IsS39.far {w0 W : World} {g : Nat} {f0 : List Int} {f1 : Int} {p : Addr} (h : IsS39 w0 W g f0 f1) (hne : g ≠ p.block) (u : Value) : IsS39 w0 (W.setCell p u) g f0 f1 := by
 obtain ⟨A0, c0, hb, hg, hr0⟩ := h
 exact ⟨A0, c0, blk_far hb hne u, hg, hr0⟩
theorem cellS39_0 {W : World} {g : Nat} {A0 : Option Addr} {c0 : Nat} {f0 : List Int} {f1 : Int} (h : W.heap[g]? = some (.cells #[.slice A0 f0.length c0, .int .i64 f1] 39 (0, 0))) : W.cell? ⟨g, 0, none⟩ = some (.slice A0 f0.length c0) := (blk_cell h 0).trans rfl
theorem cellS39_1 {W : World} {g : Nat} {A0 : Option Addr} {c0 : Nat} {f0 : List Int} {f1 : Int} (h : W.heap[g]? = some (.cells #[.slice A0 f0.length c0, .int .i64 f1] 39 (0, 0))) : W.cell? ⟨g, 1, none⟩ = some (.int .i64 f1) := (blk_cell h 1).trans rfl
theorem IsS39.set_1 {w0 W : World} {g : Nat} {f0 : List Int} {f1 : Int} (h : IsS39 w0 W g f0 f1) (x : Int) : IsS39 w0 (W.setCell ⟨g, 1, none⟩ (.int .i64 x)) g f0 x := by
 obtain ⟨A0, c0, hb, hg, hr0⟩ := h
 exact ⟨A0, c0, by simpa using blk_set hb 1 (.int .i64 x), hg, hr0⟩
theorem IsS39.new (w0 W : World) (A0 : Option Addr) (c0 : Nat) (f0 : List Int) (f1 : Int) (hB : Below w0.heap.size w0 W) (hr0 : Kd.C (Kd.int .i64) w0 A0 f0.length f0) : IsS39 w0 (W.alloc (.cells #[.slice A0 f0.length c0, .int .i64 f1] 39)) W.heap.size f0 f1 := ⟨A0, c0, by simpa using heap_alloc_new W _, hB.size, hr0⟩

/-! ### clusterlocksmill_Tape_Next: function 35 -/
def clusterlocksmill_Tape_Next.f (s0_0 : List Int) (s0_1 : Int) (a1 : Int) : Option (Int × Int) := if s0_1 ≥ (s0_0.length : Int) then (some (0, s0_1)) else (if 0 ≤ (wrap64 ((wrap64 (s0_1 + 1)) - 1)) then (if (wrap64 ((wrap64 (s0_1 + 1)) - 1)) < (s0_0.length : Int) then ((clusterlocksmill_Mod.f (rd s0_0 (wrap64 ((wrap64 (s0_1 + 1)) - 1))) a1).bind fun t314 => (some (t314, wrap64 (s0_1 + 1)))) else (none)) else (none))
set_option maxHeartbeats 8000000 in
set_option maxRecDepth 100000 in
theorem clusterlocksmill_Tape_Next.calls (g : Nat) (s0_0 : List Int) (s0_1 : Int) (a1 : Int) (r1 : Int) (r2 : Int) (w0 w : World) (hI : IsS39 w0 w g s0_0 s0_1) (hB : Below w0.heap.size w0 w) (h : clusterlocksmill_Tape_Next.f s0_0 s0_1 a1 = some (r1, r2)) :
  Calls Try.prog 35 #[.pointer (some ⟨g, 0, none⟩), .int .i64 a1] w fun e w' => e = .returned (.int .i64 r1) ∧ IsS39 w0 w' g s0_0 r2 ∧ Below w0.heap.size w0 w' ∧ KeepBut w w' g none := by
 have HI0 := Aside0.mk hI
 have HK := am (KeepBut.refl w g none)
 have HL := Aside0.mk hB.size
 clear hI
 have HW0 := Aside0.mk hB.size
 have HB := Aside0.mk hB
 clear hB
 have H : (if s0_1 ≥ (s0_0.length : Int) then (some (0, s0_1)) else (if 0 ≤ (wrap64 ((wrap64 (s0_1 + 1)) - 1)) then (if (wrap64 ((wrap64 (s0_1 + 1)) - 1)) < (s0_0.length : Int) then ((clusterlocksmill_Mod.f (rd s0_0 (wrap64 ((wrap64 (s0_1 + 1)) - 1))) a1).bind fun t314 => (some (t314, wrap64 (s0_1 + 1)))) else (none)) else (none))) = some (r1, r2) := h
 clear h
 by_cases c3 : s0_1 ≥ (s0_0.length : Int)
 ·rw [if_pos c3] at H
  have c3b0 : decide ((s0_0.length : Int) ≤ s0_1) = true := decide_eq_true c3
  clear c3
  simp only [Option.some.injEq, Prod.mk.injEq] at H
  obtain ⟨rfl, rfl⟩ := H
  obtain ⟨ASz4_0, cSz4_0, HGz4, hgz4, HSz4_0⟩ := HI0.out
  have hcz4_0 := cellS39_0 HGz4
  have hcz4_1 := cellS39_1 HGz4
  have hfz4_1 := blk_frozen HGz4 1
  clear HGz4 hgz4
  go_enter Try.func35, Try.ntmps35
  go_wp2
  repeat (go_quiet (fail); try go_wp2)
  go_ret
  exact ⟨by first | rfl | (simp [errW_none, errW_some] <;> rfl) | (simp [*, errW_none, errW_some] <;> rfl), by repeat (first | (with_reducible first | exact HI0.out | apply IsS39.alloc | apply IsS39.drewN | apply IsS39.drew | apply IsS39.set_1) | exact HI0.out), by repeat (first | (with_reducible first | exact HB.out | apply ba | apply bd | apply be | refine below_set ?_ (IsS39.ge HI0.out)) | exact HB.out), by repeat (first | (with_reducible first | exact HK.out | apply KeepBut.set_ | apply keep_drewN | apply keep_drew | apply keep_alloc) | exact HK.out)⟩
 ·rw [if_neg c3] at H
  have c3b0 : decide ((s0_0.length : Int) ≤ s0_1) = false := decide_eq_false c3
  clear c3
  obtain ⟨ji5, hji5⟩ : ∃ j_ : Int, (wrap64 ((wrap64 (s0_1 + 1)) - 1)) = j_ := ⟨_, rfl⟩
  replace H : (if 0 ≤ (ji5) then (if (ji5) < (s0_0.length : Int) then ((clusterlocksmill_Mod.f (rd s0_0 (ji5)) a1).bind fun t314 => (some (t314, wrap64 (s0_1 + 1)))) else (none)) else (none)) = some (r1, r2) := by first | (rw [hji5] at H; exact H) | (simp only [hji5] at H ⊢; exact H)
  have hji5w : (IntKind.i64.wrap ((wrap64 (s0_1 + 1)) - 1)) = ji5 := (i64_w _).trans hji5
  by_cases c6 : 0 ≤ (ji5)
  ·rw [if_pos c6] at H
   have c6b0 : decide (0 ≤ (ji5)) = true := decide_eq_true c6
   clear c6
   by_cases c7 : (ji5) < (s0_0.length : Int)
   ·rw [if_pos c7] at H
    have c7b0 : decide ((ji5) < (s0_0.length : Int)) = true := decide_eq_true c7
    clear c7
    replace H := Option.bind_eq_some_iff.mp H
    obtain ⟨t314, A80, H⟩ := H
    replace H : (some (t314, wrap64 (s0_1 + 1))) = some (r1, r2) := H
    have A8 := Aside0.mk A80
    clear A80
    simp only [Option.some.injEq, Prod.mk.injEq] at H
    obtain ⟨rfl, rfl⟩ := H
    obtain ⟨ASz9_0, cSz9_0, HGz9, hgz9, HSz9_0⟩ := HI0.out
    have hcz9_0 := cellS39_0 HGz9
    have hcz9_1 := cellS39_1 HGz9
    have hfz9_1 := blk_frozen HGz9 1
    clear HGz9 hgz9
    have p313 : 0 ≤ ((ji5) : Int) := of_decide_eq_true (by first | (with_reducible assumption) | assumption)
    have q313 : (ji5) < (s0_0.length : Int) := of_decide_eq_true (by first | (with_reducible assumption) | assumption)
    obtain ⟨ad313, e313, hx313_0⟩ := Kd.at_int HSz9_0 (ji5) p313 q313
    cases e313
    have hn313_0 : ad313.block ≠ g := Nat.ne_of_lt (Nat.lt_of_lt_of_le (by have := World.block_lt_of_cell? _ _ hx313_0; first | rwa [add_block] at this | exact this) (IsS39.ge HI0.out))
    replace hx313_0 := pw_cell_below HB.out hx313_0
    replace hx313_0 := (cell_far (p := ⟨g, 1, none⟩) (by first | (rw [add_block]; exact hn313_0) | (show (Addr.add _ _).block ≠ _; rw [add_block]; exact hn313_0) | exact hn313_0) (.int .i64 (wrap64 (s0_1 + 1)))).trans hx313_0
    (try have hy313_0 := fun (n_ : Nat) => (show (((w.drewN n_).setCell ⟨g, 1, none⟩ (.int .i64 (wrap64 (s0_1 + 1))))).cell? _ = some _ from hx313_0))
    clear hn313_0
    replace p313 := eq_true p313
    replace q313 := eq_true q313
    go_enter Try.func35, Try.ntmps35
    go_wp2_with (first | (go_at_call 46; (with_reducible refine (clusterlocksmill_Mod.calls (rd s0_0 (ji5)) a1 t314 _ A8.out).mono ?_); rintro e w' ⟨rfl, ⟨nd, rfl⟩⟩; (try first | exact ⟨rfl, _, World.drewN_drewN _ _ _⟩ | exact ⟨rfl, _, Eq.trans (World.drewN_drewN _ _ _) (congrArg (World.drewN _) (Nat.add_assoc _ _ _))⟩)))
    repeat (go_quiet (first | (go_at_call 46; (with_reducible refine (clusterlocksmill_Mod.calls (rd s0_0 (ji5)) a1 t314 _ A8.out).mono ?_); rintro e w' ⟨rfl, ⟨nd, rfl⟩⟩; (try first | exact ⟨rfl, _, World.drewN_drewN _ _ _⟩ | exact ⟨rfl, _, Eq.trans (World.drewN_drewN _ _ _) (congrArg (World.drewN _) (Nat.add_assoc _ _ _))⟩))); try go_wp2_with (first | (go_at_call 46; (with_reducible refine (clusterlocksmill_Mod.calls (rd s0_0 (ji5)) a1 t314 _ A8.out).mono ?_); rintro e w' ⟨rfl, ⟨nd, rfl⟩⟩; (try first | exact ⟨rfl, _, World.drewN_drewN _ _ _⟩ | exact ⟨rfl, _, Eq.trans (World.drewN_drewN _ _ _) (congrArg (World.drewN _) (Nat.add_assoc _ _ _))⟩))))
    go_ret
    exact ⟨by first | rfl | (simp [errW_none, errW_some] <;> rfl) | (simp only [← hji5]; first | rfl | (simp [errW_none, errW_some] <;> rfl)) | (simp [*, errW_none, errW_some] <;> rfl), by repeat (first | (with_reducible first | exact HI0.out | apply IsS39.alloc | apply IsS39.drewN | apply IsS39.drew | apply IsS39.set_1) | exact HI0.out), by repeat (first | (with_reducible first | exact HB.out | apply ba | apply bd | apply be | refine below_set ?_ (IsS39.ge HI0.out)) | exact HB.out), by repeat (first | (with_reducible first | exact HK.out | apply KeepBut.set_ | apply keep_drewN | apply keep_drew | apply keep_alloc) | exact HK.out)⟩
   ·rw [if_neg c7] at H
    exact absurd H (by simp)
  ·rw [if_neg c6] at H
   exact absurd H (by simp)

/-! ### clusterlocksmill_Mode: function 47 -/
def clusterlocksmill_Mode.f (a0 : Int) : Option (Int) := (some (([5, 5, 3, 4, 2, 1, 3, 5] : List Int) : List Int)).bind fun y315 => ((clusterlocksmill_Mod.f a0 (y315.length : Int)).bind fun t318 => (if 0 ≤ t318 then (if t318 < (y315.length : Int) then (some (rd y315 t318)) else (none)) else (none)))
set_option maxHeartbeats 8000000 in
set_option maxRecDepth 100000 in
theorem clusterlocksmill_Mode.calls (a0 : Int) (r : Int) (w : World) (h : clusterlocksmill_Mode.f a0 = some r) :
  Calls Try.prog 47 #[.int .i64 a0] w fun e w' => e = .returned (.int .i64 r) ∧ Below w.heap.size w w' := by
 have HB := am (Below.refl w.heap.size w)
 have H : ((some (([5, 5, 3, 4, 2, 1, 3, 5] : List Int) : List Int)).bind fun y315 => ((clusterlocksmill_Mod.f a0 (y315.length : Int)).bind fun t318 => (if 0 ≤ t318 then (if t318 < (y315.length : Int) then (some (rd y315 t318)) else (none)) else (none)))) = some r := h
 clear h
 obtain ⟨y315, hy315⟩ : ∃ y_ : List Int, y_ = (([5, 5, 3, 4, 2, 1, 3, 5] : List Int)) := ⟨_, rfl⟩
 replace H : ((clusterlocksmill_Mod.f a0 (y315.length : Int)).bind fun t318 => (if 0 ≤ t318 then (if t318 < (y315.length : Int) then (some (rd y315 t318)) else (none)) else (none))) = some r := by first | (rw [hy315]; with_reducible exact H) | (have H2_ := (Option.bind_some _ _).symm.trans H; rw [hy315]; with_reducible exact H2_) | (have H2_ := (Option.bind_some _ _).symm.trans H; with_reducible exact H2_) | with_reducible exact H | (rw [hy315]; exact H) | exact H
 have Ny315 := Aside0.mk hy315
 clear hy315
 replace H := Option.bind_eq_some_iff.mp H
 obtain ⟨t318, A20, H⟩ := H
 replace H : (if 0 ≤ t318 then (if t318 < (y315.length : Int) then (some (rd y315 t318)) else (none)) else (none)) = some r := H
 have A2 := Aside0.mk A20
 clear A20
 by_cases c3 : 0 ≤ t318
 ·rw [if_pos c3] at H
  have c3b0 : decide (0 ≤ t318) = true := decide_eq_true c3
  clear c3
  by_cases c4 : t318 < (y315.length : Int)
  ·rw [if_pos c4] at H
   have c4b0 : decide (t318 < (y315.length : Int)) = true := decide_eq_true c4
   clear c4
   obtain rfl := Option.some.inj H
   go_enter Try.func47, Try.ntmps47
   go_wp2_with (first | ((with_reducible refine gate_dst (N := 4) rfl ?_); refine Kd.R_lit (Kd.int .i64) _ 3 ?hg (N := 4) ?hd (xs := ([5, 5, 3, 4, 2, 1, 3, 5] : List Int)) (inner := [.int .i64 5, .int .i64 5, .int .i64 3, .int .i64 4, .int .i64 2, .int .i64 1, .int .i64 3, .int .i64 5]) (ok := fun _ => True) (okp := fun _ => True) ?hr ?hp (fun _ hk => hk) trivial (Below.refl _ _) (Nat.le_refl _) (by simp) ?_; (case hd => rfl); (case hg => rfl); (case hr => first | (go_simp; done) | (go_simp; rfl)); (case hp => exact (Reps.one (show Kd.M (Kd.int .i64) _ _ _ 5 [.int .i64 5] from rfl) (Reps.one (show Kd.M (Kd.int .i64) _ _ _ 5 [.int .i64 5] from rfl) (Reps.one (show Kd.M (Kd.int .i64) _ _ _ 3 [.int .i64 3] from rfl) (Reps.one (show Kd.M (Kd.int .i64) _ _ _ 4 [.int .i64 4] from rfl) (Reps.one (show Kd.M (Kd.int .i64) _ _ _ 2 [.int .i64 2] from rfl) (Reps.one (show Kd.M (Kd.int .i64) _ _ _ 1 [.int .i64 1] from rfl) (Reps.one (show Kd.M (Kd.int .i64) _ _ _ 3 [.int .i64 3] from rfl) (Reps.one (show Kd.M (Kd.int .i64) _ _ _ 5 [.int .i64 5] from rfl) (Reps.none _ _)))))))))); intro v316 w5 ho6 hb hg_ hnew_; clear hg_ hnew_; (first | rw [← Ny315.out] at ho6 | (simp only [Int.reduceToNat] at ho6; rw [← Ny315.out] at ho6)); have n0_ := am (Kd.R_lower ho6 (below_size (zL HB.out))); have n1_ := am (below_step (zL HB.out) hb); clear HB; have HO317 := n0_; have HB := n1_; clear n0_ n1_; clear hb ho6; obtain ⟨Ao7, co7, eo7⟩ := Kd.R_slice HO317.out; subst eo7) | ((with_reducible refine gate_callee (f := 46) rfl ?_); refine goesL_ (some 9) rfl rfl Try.func46 (by kernel_rfl) rfl #[.int .i64 a0, .int .i64 (y315.length : Int)] rfl mp2 ?_; (with_reducible refine (clusterlocksmill_Mod.calls a0 (y315.length : Int) t318 _ A2.out).mono ?_); rintro e w' ⟨rfl, ⟨nd, rfl⟩⟩; refine ⟨_, rfl, ?_⟩; have p319 : 0 ≤ (t318 : Int) := of_decide_eq_true (by first | (with_reducible assumption) | assumption); have q319 : t318 < (y315.length : Int) := of_decide_eq_true (by first | (with_reducible assumption) | assumption); obtain ⟨ad319, e319, hx319_0⟩ := Kd.at_int (Kd.R_reads' HO317.out).2.2 t318 p319 q319; cases e319; replace p319 := eq_true p319; replace q319 := eq_true q319))
   go_ret
   exact ⟨by first | rfl | (simp [errW_none, errW_some] <;> rfl) | (simp [*, errW_none, errW_some] <;> rfl), zL HB.out⟩
  ·rw [if_neg c4] at H
   exact absurd H (by simp)
 ·rw [if_neg c3] at H
  exact absurd H (by simp)

/-! ### clusterlocksmill_Amount: function 36 -/
def clusterlocksmill_Amount.f (a0_0 : ByteArray) (a0_1 : Int) (a0_2 : Int) (a0_3 : Int) (a1 : Int) : Option (Int × Int) := if a0_1 = 1 then ((clusterlocksmill_Mode.f a1).bind fun t322 => (some (t322, 0))) else ((clusterlocksmill_Mod.f a1 a0_2).bind fun t323 => (some (0, wrap64 (1 + t323))))
set_option maxHeartbeats 8000000 in
set_option maxRecDepth 100000 in
theorem clusterlocksmill_Amount.calls (a0_0 : ByteArray) (a0_1 : Int) (a0_2 : Int) (a0_3 : Int) (a1 : Int) (r1 : Int) (r2 : Int) (w : World) (h : clusterlocksmill_Amount.f a0_0 a0_1 a0_2 a0_3 a1 = some (r1, r2)) :
  Calls Try.prog 36 #[.agg #[.string a0_0, .int .i64 a0_1, .int .i64 a0_2, .int .i64 a0_3], .int .i64 a1] w fun e w' => e = .returned (.agg #[.int .i64 r1, .int .i64 r2]) ∧ Below w.heap.size w w' := by
 have hu59 := Try.underlying59
 have hu23 := Try.underlying23
 have HB := am (Below.refl w.heap.size w)
 have H : (if a0_1 = 1 then ((clusterlocksmill_Mode.f a1).bind fun t322 => (some (t322, 0))) else ((clusterlocksmill_Mod.f a1 a0_2).bind fun t323 => (some (0, wrap64 (1 + t323))))) = some (r1, r2) := h
 clear h
 by_cases c3 : a0_1 = 1
 ·rw [if_pos c3] at H
  have c3b0 : (a0_1 == 1) = true := beq_iff_eq.mpr c3
  have c3b1 : (a0_1 != 1) = false := bne_eq_false_iff_eq.mpr c3
  clear c3
  replace H := Option.bind_eq_some_iff.mp H
  obtain ⟨t322, A40, H⟩ := H
  replace H : (some (t322, 0)) = some (r1, r2) := H
  have A4 := Aside0.mk A40
  clear A40
  simp only [Option.some.injEq, Prod.mk.injEq] at H
  obtain ⟨rfl, rfl⟩ := H
  go_enter Try.func36, Try.ntmps36
  go_wp2_with (first | ((with_reducible refine gate_dst (N := 2) rfl ?_); refine box_event ?hg (N := 2) ?hd (cs := #[.string a0_0, .int .i64 a0_1, .int .i64 a0_2, .int .i64 a0_3]) (t := 59) ?hr ?_; (case hd => rfl); (case hg => rfl); (case hr => first | (go_simp; done) | (go_simp; rfl)); intro gb320 hg w5 hbox hb; have n0_ := am (below_step (zL HB.out) hb); have n1_ := am (hbox); have n2_ := am (zS hg HB.out); have n3_ := am (zS hg HB.out); clear HB; have HB := n0_; have BK320 := n1_; have GW320 := n2_; have GE320 := n3_; clear n0_ n1_ n2_ n3_; clear hb hbox hg) | ((with_reducible refine gate_dst (N := 4) rfl ?_); refine box_event ?hg (N := 4) ?hd (cs := #[.int .i64 0, .int .i64 0]) (t := 23) ?hr ?_; (case hd => rfl); (case hg => rfl); (case hr => first | (go_simp; done) | (go_simp; rfl)); intro gb321 hg w6 hbox hb; have n0_ := am (blk_below (zB BK320.out) hb); have n1_ := am (below_step (zL HB.out) hb); have n2_ := am (hbox); have n3_ := am (zS hg HB.out); have n4_ := am (zS hg HB.out); have n5_ := am (zN hg BK320.out); have n6_ := am (zM hg BK320.out); clear BK320 HB; have BK320 := n0_; have HB := n1_; have BK321 := n2_; have GW321 := n3_; have GE321 := n4_; have NB320_321 := n5_; have NB321_320 := n6_; clear n0_ n1_ n2_ n3_ n4_ n5_ n6_; clear hb hbox hg; have hnb7 := NB320_321.out; have hnc7 := NB321_320.out; obtain ⟨hcz8_0, hcz8_1, hcz8_2, hcz8_3, hfz8_0, hfz8_1, hfz8_2, hfz8_3⟩ := b4 BK320.out) | ((with_reducible refine gate_callee (f := 47) rfl ?_); refine goesL_ (some 9) rfl rfl Try.func47 (by kernel_rfl) rfl #[.int .i64 a1] rfl mp1 ?_; (with_reducible refine (clusterlocksmill_Mode.calls a1 t322 _ A4.out).mono ?_); rintro e w9 ⟨rfl, hb⟩; refine ⟨_, rfl, ?_⟩; have n0_ := am (blk_below (zB BK320.out) hb); have n1_ := am (blk_below (zB BK321.out) hb); have n2_ := am (below_step (zL HB.out) hb); clear BK320 BK321 HB; have BK320 := n0_; have BK321 := n1_; have HB := n2_; clear n0_ n1_ n2_; (try clear hb); (try clear hb2); (try clear hk); (try clear hi); obtain ⟨hcz10_0, hcz10_1, hfz10_0, hfz10_1⟩ := b2 BK321.out) | ((with_reducible refine gate_store (t := 23) (p := 4) rfl ?_); refine store_event (t := 23) (p := 4) (v := ?vo_w11) (w1 := ((w9.setCell ⟨gb321, 0, none⟩ (.int .i64 t322)).setCell ⟨gb321, 1, none⟩ (.int .i64 0))) ?hg ?ho ?hn ?hr ?_; (case ho => rfl); (case hg => rfl); (case hn => rfl); (case hr => first | (go_simp; done) | (go_simp; rfl)); intro w11 hw; have n0_ : Aside0 (w11.heap[gb320]? = some (.cells #[.string a0_0, .int .i64 a0_1, .int .i64 a0_2, .int .i64 a0_3] 59 (0, 0))) := ⟨(by rw [hw]; exact (by refine blk_far ?_ NB320_321.out _; refine blk_far ?_ NB320_321.out _; exact zB <| BK320.out))⟩; have n1_ : Aside0 (w11.heap[gb321]? = some (.cells #[.int .i64 t322, .int .i64 0] 23 (0, 0))) := ⟨(by rw [hw]; exact (by refine blk_put (cs := #[.int .i64 t322, .int .i64 0]) ?_ 1 _ rfl; refine blk_put (cs := #[.int .i64 0, .int .i64 0]) ?_ 0 _ rfl; exact zB <| BK321.out))⟩; have n2_ : Aside0 (Below w.heap.size w w11) := ⟨(by rw [hw]; exact (by repeat (first | (with_reducible first | exact HB.out | apply ba | apply bd | apply be | refine below_set ?_ GE320.out | refine below_set ?_ GE321.out) | exact HB.out)))⟩; clear hw BK320 BK321 HB; have BK320 := n0_; have BK321 := n1_; have HB := n2_; clear n0_ n1_ n2_))
  refine bodyPost_ret (results_cell_row rfl _ _ gb321 23 #[.int .i64 t322, .int .i64 0] (0, 0) _ rfl (zB BK321.out) Try.underlying23 rfl (by kernel_rfl)) rfl ?_
  exact ⟨by first | rfl | (simp [errW_none, errW_some] <;> rfl) | (simp [*, errW_none, errW_some] <;> rfl), by repeat (first | (with_reducible first | exact HB.out | apply ba | apply bd | apply be | refine below_set ?_ GE320.out | refine below_set ?_ GE321.out) | exact HB.out)⟩
 ·rw [if_neg c3] at H
  have c3b0 : (a0_1 == 1) = false := beq_eq_false_iff_ne.mpr c3
  have c3b1 : (a0_1 != 1) = true := bne_iff_ne.mpr c3
  replace H := Option.bind_eq_some_iff.mp H
  obtain ⟨t323, A120, H⟩ := H
  replace H : (some (0, wrap64 (1 + t323))) = some (r1, r2) := H
  have A12 := Aside0.mk A120
  clear A120
  simp only [Option.some.injEq, Prod.mk.injEq] at H
  obtain ⟨rfl, rfl⟩ := H
  go_enter Try.func36, Try.ntmps36
  go_wp2_with (first | ((with_reducible refine gate_dst (N := 2) rfl ?_); refine box_event ?hg (N := 2) ?hd (cs := #[.string a0_0, .int .i64 a0_1, .int .i64 a0_2, .int .i64 a0_3]) (t := 59) ?hr ?_; (case hd => rfl); (case hg => rfl); (case hr => first | (go_simp; done) | (go_simp; rfl)); intro gb320 hg w13 hbox hb; have n0_ := am (below_step (zL HB.out) hb); have n1_ := am (hbox); have n2_ := am (zS hg HB.out); have n3_ := am (zS hg HB.out); clear HB; have HB := n0_; have BK320 := n1_; have GW320 := n2_; have GE320 := n3_; clear n0_ n1_ n2_ n3_; clear hb hbox hg) | ((with_reducible refine gate_dst (N := 4) rfl ?_); refine box_event ?hg (N := 4) ?hd (cs := #[.int .i64 0, .int .i64 0]) (t := 23) ?hr ?_; (case hd => rfl); (case hg => rfl); (case hr => first | (go_simp; done) | (go_simp; rfl)); intro gb321 hg w14 hbox hb; have n0_ := am (blk_below (zB BK320.out) hb); have n1_ := am (below_step (zL HB.out) hb); have n2_ := am (hbox); have n3_ := am (zS hg HB.out); have n4_ := am (zS hg HB.out); have n5_ := am (zN hg BK320.out); have n6_ := am (zM hg BK320.out); clear BK320 HB; have BK320 := n0_; have HB := n1_; have BK321 := n2_; have GW321 := n3_; have GE321 := n4_; have NB320_321 := n5_; have NB321_320 := n6_; clear n0_ n1_ n2_ n3_ n4_ n5_ n6_; clear hb hbox hg; have hnb15 := NB320_321.out; have hnc15 := NB321_320.out; obtain ⟨hcz16_0, hcz16_1, hcz16_2, hcz16_3, hfz16_0, hfz16_1, hfz16_2, hfz16_3⟩ := b4 BK320.out) | ((with_reducible refine gate_callee (f := 46) rfl ?_); refine goesL_ (some 14) rfl rfl Try.func46 (by kernel_rfl) rfl #[.int .i64 a1, .int .i64 a0_2] rfl mp2 ?_; (with_reducible refine (clusterlocksmill_Mod.calls a1 a0_2 t323 _ A12.out).mono ?_); rintro e w' ⟨rfl, ⟨nd, rfl⟩⟩; refine ⟨_, rfl, ?_⟩; (try (rw [drewN_self w14]; generalize hq_ : World.drewN w14 _ = w14; have n0_ : Aside0 (w14.heap[gb320]? = some (.cells #[.string a0_0, .int .i64 a0_1, .int .i64 a0_2, .int .i64 a0_3] 59 (0, 0))) := ⟨by rw [← hq_]; exact (zB BK320.out)⟩; have n1_ : Aside0 (w14.heap[gb321]? = some (.cells #[.int .i64 0, .int .i64 0] 23 (0, 0))) := ⟨by rw [← hq_]; exact (zB BK321.out)⟩; have n2_ : Aside0 (Below w.heap.size w w14) := ⟨by rw [← hq_]; exact (zL HB.out)⟩; clear BK320 BK321 HB hq_; have BK320 := n0_; have BK321 := n1_; have HB := n2_; clear n0_ n1_ n2_)); obtain ⟨hcz17_0, hcz17_1, hfz17_0, hfz17_1⟩ := b2 BK321.out) | ((with_reducible refine gate_store (t := 23) (p := 4) rfl ?_); refine store_event (t := 23) (p := 4) (v := ?vo_w18) (w1 := ((w14.setCell ⟨gb321, 0, none⟩ (.int .i64 0)).setCell ⟨gb321, 1, none⟩ (.int .i64 (wrap64 (1 + t323))))) ?hg ?ho ?hn ?hr ?_; (case ho => rfl); (case hg => rfl); (case hn => rfl); (case hr => first | (go_simp; done) | (go_simp; rfl)); intro w18 hw; have n0_ : Aside0 (w18.heap[gb320]? = some (.cells #[.string a0_0, .int .i64 a0_1, .int .i64 a0_2, .int .i64 a0_3] 59 (0, 0))) := ⟨(by rw [hw]; exact (by refine blk_far ?_ NB320_321.out _; refine blk_far ?_ NB320_321.out _; exact zB <| BK320.out))⟩; have n1_ : Aside0 (w18.heap[gb321]? = some (.cells #[.int .i64 0, .int .i64 (wrap64 (1 + t323))] 23 (0, 0))) := ⟨(by rw [hw]; exact (by refine blk_put (cs := #[.int .i64 0, .int .i64 0]) ?_ 1 _ rfl; refine blk_put (cs := #[.int .i64 0, .int .i64 0]) ?_ 0 _ rfl; exact zB <| BK321.out))⟩; have n2_ : Aside0 (Below w.heap.size w w18) := ⟨(by rw [hw]; exact (by repeat (first | (with_reducible first | exact HB.out | apply ba | apply bd | apply be | refine below_set ?_ GE320.out | refine below_set ?_ GE321.out) | exact HB.out)))⟩; clear hw BK320 BK321 HB; have BK320 := n0_; have BK321 := n1_; have HB := n2_; clear n0_ n1_ n2_))
  refine bodyPost_ret (results_cell_row rfl _ _ gb321 23 #[.int .i64 0, .int .i64 (wrap64 (1 + t323))] (0, 0) _ rfl (zB BK321.out) Try.underlying23 rfl (by kernel_rfl)) rfl ?_
  exact ⟨by first | rfl | (simp [errW_none, errW_some] <;> rfl) | (simp [*, errW_none, errW_some] <;> rfl), by repeat (first | (with_reducible first | exact HB.out | apply ba | apply bd | apply be | refine below_set ?_ GE320.out | refine below_set ?_ GE321.out) | exact HB.out)⟩

/-! ### clusterlocksmill_group: function 37 -/
mutual
def clusterlocksmill_group.j0 : Nat → List (S25) → Int → Bool → List Int → Int → Option (Int × ByteArray × Int × Int × (List (S28)) × Int)
 | 0, _, _, _, _, _ => none
 | k + 1, x1, x2, x16, x1000, x1001 => if x16 = true then ((clusterlocksmill_Tape_Next.f x1000 x1001 (x1.length : Int)).bind fun bt327 => (if 0 ≤ bt327.1 then (if bt327.1 < (x1.length : Int) then (some (0, (rd_T25 x1 bt327.1).f0, (rd_T25 x1 bt327.1).f1.f0, (rd_T25 x1 bt327.1).f1.f1, ([] : List (S28)), bt327.2)) else (none)) else (none))) else ((clusterlocksmill_Tape_Next.f x1000 x1001 3).bind fun bt330 => ((clusterlocksmill_Tape_Next.f x1000 bt330.2 (wrap64 (1 + bt330.1))).bind fun bt332 => (clusterlocksmill_group.l0 k x1 x2 (wrap64 (1 + bt330.1)) 0 x1000 bt332.2 (wrap64 (1 + bt332.1)) (⟨#[]⟩ : ByteArray) 0 0 ([] : List (S28)))))
def clusterlocksmill_group.l0 : Nat → List (S25) → Int → Int → Int → List Int → Int → Int → ByteArray → Int → Int → List (S28) → Option (Int × ByteArray × Int × Int × (List (S28)) × Int)
 | 0, _, _, _, _, _, _, _, _, _, _, _ => none
 | k + 1, x1, x2, x7, x9, x1000, x1001, x335000, x335001, x335002, x335003, x335004 => if x9 < x7 then ((clusterlocksmill_group.f k x1000 x1001 x1 (wrap64 (x2 - 1))).bind fun bt335 => (if x335004.length < 2199023255552 then (clusterlocksmill_group.l0 k x1 x2 x7 (wrap64 (x9 + 1)) x1000 bt335.2.2.2.2.2 x335000 x335001 x335002 x335003 (x335004 ++ [(⟨bt335.1, (⟨bt335.2.1, (⟨bt335.2.2.1, bt335.2.2.2.1⟩ : S23)⟩ : S25), bt335.2.2.2.2.1⟩ : S28)])) else (none))) else (some (x335000, x335001, x335002, x335003, x335004, x1001))
def clusterlocksmill_group.f : Nat → List Int → Int → List (S25) → Int → Option (Int × ByteArray × Int × Int × (List (S28)) × Int)
 | 0, _, _, _, _ => none
 | k + 1, s0_0, s0_1, l1, a2 => if a2 = 0 then (clusterlocksmill_group.j0 k l1 a2 true s0_0 s0_1) else ((clusterlocksmill_Tape_Next.f s0_0 s0_1 4).bind fun bt325 => (clusterlocksmill_group.j0 k l1 a2 (bt325.1 == 0) s0_0 bt325.2))
end
theorem clusterlocksmill_group.mono_l : ∀ k, (∀ y0 y1 y2 y3, LeO (clusterlocksmill_group.f k y0 y1 y2 y3) (clusterlocksmill_group.f (k + 1) y0 y1 y2 y3)) ∧ (∀ y0 y1 y2 y3 y4, LeO (clusterlocksmill_group.j0 k y0 y1 y2 y3 y4) (clusterlocksmill_group.j0 (k + 1) y0 y1 y2 y3 y4)) ∧ (∀ y0 y1 y2 y3 y4 y5 y6 y7 y8 y9 y10, LeO (clusterlocksmill_group.l0 k y0 y1 y2 y3 y4 y5 y6 y7 y8 y9 y10) (clusterlocksmill_group.l0 (k + 1) y0 y1 y2 y3 y4 y5 y6 y7 y8 y9 y10))
 | 0 => ⟨fun _ _ _ _ r h => by simp [clusterlocksmill_group.f] at h, fun _ _ _ _ _ r h => by simp [clusterlocksmill_group.j0] at h, fun _ _ _ _ _ _ _ _ _ _ _ r h => by simp [clusterlocksmill_group.l0] at h⟩
 | k + 1 => by
  obtain ⟨ih0, ih1, ih2⟩ := clusterlocksmill_group.mono_l k
  refine ⟨?_, ?_, ?_⟩
  ·intro y0 y1 y2 y3
   unfold clusterlocksmill_group.f
   repeat' first
   | (with_reducible exact ih0 _ _ _ _)
   | (with_reducible exact ih1 _ _ _ _ _)
   | (with_reducible exact ih2 _ _ _ _ _ _ _ _ _ _ _)
   | (with_reducible exact LeO.refl _)
   | (with_reducible exact LeO.none _)
   | (with_reducible refine LeO.ite ?_ ?_)
   | (with_reducible refine LeO.bind ?_ (fun _ => ?_))
   | exact ih0 _ _ _ _
   | exact ih1 _ _ _ _ _
   | exact ih2 _ _ _ _ _ _ _ _ _ _ _
   | exact LeO.none _
   | refine LeO.ite ?_ ?_
   | refine LeO.bind ?_ (fun _ => ?_)
  ·intro y0 y1 y2 y3 y4
   unfold clusterlocksmill_group.j0
   repeat' first
   | (with_reducible exact ih0 _ _ _ _)
   | (with_reducible exact ih1 _ _ _ _ _)
   | (with_reducible exact ih2 _ _ _ _ _ _ _ _ _ _ _)
   | (with_reducible exact LeO.refl _)
   | (with_reducible exact LeO.none _)
   | (with_reducible refine LeO.ite ?_ ?_)
   | (with_reducible refine LeO.bind ?_ (fun _ => ?_))
   | exact ih0 _ _ _ _
   | exact ih1 _ _ _ _ _
   | exact ih2 _ _ _ _ _ _ _ _ _ _ _
   | exact LeO.none _
   | refine LeO.ite ?_ ?_
   | refine LeO.bind ?_ (fun _ => ?_)
  ·intro y0 y1 y2 y3 y4 y5 y6 y7 y8 y9 y10
   unfold clusterlocksmill_group.l0
   repeat' first
   | (with_reducible exact ih0 _ _ _ _)
   | (with_reducible exact ih1 _ _ _ _ _)
   | (with_reducible exact ih2 _ _ _ _ _ _ _ _ _ _ _)
   | (with_reducible exact LeO.refl _)
   | (with_reducible exact LeO.none _)
   | (with_reducible refine LeO.ite ?_ ?_)
   | (with_reducible refine LeO.bind ?_ (fun _ => ?_))
   | exact ih0 _ _ _ _
   | exact ih1 _ _ _ _ _
   | exact ih2 _ _ _ _ _ _ _ _ _ _ _
   | exact LeO.none _
   | refine LeO.ite ?_ ?_
   | refine LeO.bind ?_ (fun _ => ?_)
theorem clusterlocksmill_group.mono : ∀ a0 a1 a2 a3 k, LeO (clusterlocksmill_group.f k a0 a1 a2 a3) (clusterlocksmill_group.f (k + 1) a0 a1 a2 a3) := by
 intro a0 a1 a2 a3 k
 obtain ⟨ih0, ih1, ih2⟩ := clusterlocksmill_group.mono_l k
 exact ih0 a0 a1 a2 a3
def clusterlocksmill_group.T8 : Bool × List (List Nat × List Nat) := (true, [([], []), ([0], [0]), ([], []), ([], []), ([], []), ([4], [4]), ([2, 3, 5], [2, 3, 5]), ([6], [6]), ([1, 7, 6], [1, 7]), ([0, 1, 2, 3, 4, 5, 6, 7, 8], []), ([9, 8, 8, 0, 1, 2, 3, 4, 5, 6, 7, 8], [8, 9])])
def clusterlocksmill_group.B8 : List Nat := [0, 1, 0, 0, 0, 16, 60, 124, 255, 511, 1023]
theorem clusterlocksmill_group.tab8 : rtab .any (opsOf Try.f37 8) = clusterlocksmill_group.T8 := by kernel_rfl
theorem clusterlocksmill_group.bits8 : waitsOk clusterlocksmill_group.T8.2 clusterlocksmill_group.B8 = true := by kernel_rfl
set_option maxHeartbeats 8000000 in
set_option maxRecDepth 100000 in
theorem clusterlocksmill_group.calls (k : Nat) : ∀ (g : Nat) (s0_0 : List Int) (s0_1 : Int) (A1 : Option Addr) (c1 : Nat) (l1 : List (S25)) (a2 : Int) (r1 : Int) (r2 : ByteArray) (r3 : Int) (r4 : Int) (r5 : List (S28)) (r6 : Int) (w0 w : World) (hI : IsS39 w0 w g s0_0 s0_1) (hB : Below w0.heap.size w0 w) (hr1 : ∀ W_, KeepBut w W_ g none → Kd.C k25 W_ A1 l1.length l1) (hc1 : l1.length ≤ c1) (h : clusterlocksmill_group.f k s0_0 s0_1 l1 a2 = some (r1, r2, r3, r4, r5, r6)),
  Calls Try.prog 37 #[.pointer (some ⟨g, 0, none⟩), .slice A1 l1.length c1, .int .i64 a2] w fun e w' => ∃ v4_ : Value, e = .returned (.agg #[.int .i64 r1, .string r2, .int .i64 r3, .int .i64 r4, v4_]) ∧ Kd.R k28 28 w' w.heap.size (fun _ => True) v4_ r5 ∧ IsS39 w0 w' g s0_0 r6 ∧ Below w0.heap.size w0 w' ∧ KeepBut w w' g none := by
 induction k using Nat.strongRecOn with
 | _ k ih =>
 intro g s0_0 s0_1 A1 c1 l1 a2 r1 r2 r3 r4 r5 r6 w0 w hI hB hr1 hc1 h
 cases k with
 | zero => exact absurd h (by simp [clusterlocksmill_group.f])
 | succ k =>
 simp only [clusterlocksmill_group.f] at h
 have hu28 := Try.underlying28
 have hu25 := Try.underlying25
 have HR1 := Aside0.mk hr1
 have HC1 := Aside0.mk hc1
 clear hr1 hc1
 have HI0 := Aside0.mk hI
 have HK := am (KeepBut.refl w g none)
 have HL := Aside0.mk hB.size
 clear hI
 have HW0 := Aside0.mk hB.size
 have HB := Aside0.mk hB
 clear hB
 have H : (if a2 = 0 then (clusterlocksmill_group.j0 k l1 a2 true s0_0 s0_1) else ((clusterlocksmill_Tape_Next.f s0_0 s0_1 4).bind fun bt325 => (clusterlocksmill_group.j0 k l1 a2 (bt325.1 == 0) s0_0 bt325.2))) = some (r1, r2, r3, r4, r5, r6) := h
 clear h
 have HC4 := Aside0.mk H
 clear H
 go_enter Try.func37, Try.ntmps37
 go_upto_region 1 with (first | ((with_reducible refine gate_dst (N := 6) rfl ?_); refine box_event ?hg (N := 6) ?hd (cs := #[.int .i64 0, .string (⟨#[]⟩ : ByteArray), .int .i64 0, .int .i64 0, .slice none 0 0]) (t := 28) ?hr ?_; (case hd => rfl); (case hg => rfl); (case hr => first | (go_simp; done) | (go_simp; rfl)); intro gb324 hg w5 hbox hb; have n0_ := am (IsS39.below (by repeat (first | (with_reducible first | exact HI0.out | apply IsS39.alloc | apply IsS39.drewN | apply IsS39.drew | apply IsS39.set_1) | exact HI0.out)) hb); have n1_ := am (KeepBut.trans (by repeat (first | (with_reducible first | exact HK.out | apply KeepBut.set_ | apply keep_drewN | apply keep_drew | apply keep_alloc) | exact HK.out)) (KeepBut.of_below hb g none) (.inl rfl)); have n2_ := am (below_step (by repeat (first | (with_reducible first | exact HB.out | apply ba | apply bd | apply be | refine below_set ?_ (IsS39.ge HI0.out)) | exact HB.out)) hb); have n3_ := am (hbox); have n4_ := am ((by rw [hg]; exact (keep_size (w := w) (g := g) (row := none) (by repeat (first | (with_reducible first | exact HK.out | apply KeepBut.set_ | apply keep_drewN | apply keep_drew | apply keep_alloc) | exact HK.out))) : w.heap.size ≤ gb324)); have n5_ := am ((Nat.le_trans HW0.out (by rw [hg]; exact (keep_size (w := w) (g := g) (row := none) (by repeat (first | (with_reducible first | exact HK.out | apply KeepBut.set_ | apply keep_drewN | apply keep_drew | apply keep_alloc) | exact HK.out))) : w.heap.size ≤ gb324) : w0.heap.size ≤ gb324)); have n6_ := am ((by rw [hg]; exact Nat.ne_of_lt (IsS39.lt (show IsS39 w0 _ g s0_0 s0_1 from by repeat (first | (with_reducible first | exact HI0.out | apply IsS39.alloc | apply IsS39.drewN | apply IsS39.drew | apply IsS39.set_1) | exact HI0.out))) : g ≠ gb324)); have n7_ := am ((by rw [hg]; exact Nat.ne_of_gt (IsS39.lt (show IsS39 w0 _ g s0_0 s0_1 from by repeat (first | (with_reducible first | exact HI0.out | apply IsS39.alloc | apply IsS39.drewN | apply IsS39.drew | apply IsS39.set_1) | exact HI0.out))) : gb324 ≠ g)); clear HI0 HK HB; have HI0 := n0_; have HK := n1_; have HB := n2_; have BK324 := n3_; have GW324 := n4_; have GE324 := n5_; have NB0_324 := n6_; have NB324_0 := n7_; clear n0_ n1_ n2_ n3_ n4_ n5_ n6_ n7_; clear hb hbox hg))
 (try simp only [Act.put, List.setIfInBounds_toArray, List.set_cons_zero, List.set_cons_succ])
 go_cut [16] (fun v16 wc => ∃ (kq : Nat) (x16_3 : Bool) (x1001_3 : Int), v16 = .bool x16_3 ∧ Aside0 (clusterlocksmill_group.j0 kq l1 a2 x16_3 s0_0 x1001_3 = some (r1, r2, r3, r4, r5, r6)) ∧ Aside0 (kq ≤ k) ∧ Aside0 (wc.heap[gb324]? = some (.cells #[.int .i64 0, .string (⟨#[]⟩ : ByteArray), .int .i64 0, .int .i64 0, (.slice none 0 0)] 28 (0, 0))) ∧ Aside0 (IsS39 w0 wc g s0_0 x1001_3) ∧ Aside0 (KeepBut w wc g none) ∧ Aside0 (Below w0.heap.size w0 wc))
 case first =>
  have H := HC4.out
  clear HC4
  by_cases c6 : a2 = 0
  ·rw [if_pos c6] at H
   have c6b0 : (a2 == 0) = true := beq_iff_eq.mpr c6
   have c6b1 : (a2 != 0) = false := bne_eq_false_iff_eq.mpr c6
   clear c6
   (first | rw [c6b0] | (simp only [i64_w, i32_w]; rw [c6b0]) | skip)
   have H' := Aside0.mk H
   clear H
   go_wp2
   go_meet
   case rel => exact ⟨_, (true), (s0_1), (by first | rfl | (simp; done) | (simp [*]; done)), H', ⟨by first | omega | exact Nat.le_refl _⟩, ⟨by exact zB <| BK324.out⟩, ⟨by repeat (first | (with_reducible first | exact HI0.out | apply IsS39.alloc | apply IsS39.drewN | apply IsS39.drew | apply IsS39.set_1 | refine IsS39.far ?_ NB0_324.out _) | exact HI0.out)⟩, ⟨by repeat (first | (with_reducible first | exact HK.out | apply KeepBut.set_ | apply keep_drewN | apply keep_drew | apply keep_alloc | refine keep_far ?_ GW324.out _) | exact HK.out)⟩, ⟨by repeat (first | (with_reducible first | exact HB.out | apply ba | apply bd | apply be | refine below_set ?_ (IsS39.ge HI0.out) | refine below_set ?_ GE324.out) | exact HB.out)⟩⟩
  ·rw [if_neg c6] at H
   have c6b0 : (a2 == 0) = false := beq_eq_false_iff_ne.mpr c6
   have c6b1 : (a2 != 0) = true := bne_iff_ne.mpr c6
   (first | rw [c6b0] | (simp only [i64_w, i32_w]; rw [c6b0]) | skip)
   replace H := Option.bind_eq_some_iff.mp H
   obtain ⟨⟨t325, t326⟩, A70, H⟩ := H
   replace H : (clusterlocksmill_group.j0 k l1 a2 (t325 == 0) s0_0 t326) = some (r1, r2, r3, r4, r5, r6) := H
   have A7 := Aside0.mk A70
   clear A70
   have H' := Aside0.mk H
   clear H
   go_wp2_with (first | (go_at_call 35; (with_reducible refine (clusterlocksmill_Tape_Next.calls g s0_0 s0_1 4 t325 t326 w0 _ ?side1 ?side2 A7.out).mono ?_); (case side1 => repeat (first | (with_reducible first | exact HI0.out | apply IsS39.alloc | apply IsS39.drewN | apply IsS39.drew | apply IsS39.set_1 | refine IsS39.far ?_ NB0_324.out _) | exact HI0.out)); (case side2 => repeat (first | (with_reducible first | exact HB.out | apply ba | apply bd | apply be | refine below_set ?_ (IsS39.ge HI0.out) | refine below_set ?_ GE324.out) | exact HB.out)); rintro e w8 ⟨rfl, hi, hb, hk⟩; have n0_ := am (KeepBut.blk hk (g' := gb324) (o := .cells #[.int .i64 0, .string (⟨#[]⟩ : ByteArray), .int .i64 0, .int .i64 0, .slice none 0 0] 28 (0, 0)) (zB BK324.out) NB324_0.out (by simp)); have n1_ := am (KeepBut.trans (by repeat (first | (with_reducible first | exact HK.out | apply KeepBut.set_ | apply keep_drewN | apply keep_drew | apply keep_alloc | refine keep_far ?_ GW324.out _) | exact HK.out)) hk (.inl rfl)); have n2_ := am (hb); have n3_ := am (hi); clear BK324 HK HB HI0; have BK324 := n0_; have HK := n1_; have HB := n2_; have HI0 := n3_; clear n0_ n1_ n2_ n3_; (try clear hb); (try clear hb2); (try clear hk); (try clear hi)))
   go_meet
   case rel => exact ⟨_, ((t325 == 0)), (t326), (by first | rfl | (simp; done) | (simp [*]; done)), H', ⟨by first | omega | exact Nat.le_refl _⟩, ⟨by exact zB <| BK324.out⟩, ⟨by repeat (first | (with_reducible first | exact HI0.out | apply IsS39.alloc | apply IsS39.drewN | apply IsS39.drew | apply IsS39.set_1 | refine IsS39.far ?_ NB0_324.out _) | exact HI0.out)⟩, ⟨by repeat (first | (with_reducible first | exact HK.out | apply KeepBut.set_ | apply keep_drewN | apply keep_drew | apply keep_alloc | refine keep_far ?_ GW324.out _) | exact HK.out)⟩, ⟨by repeat (first | (with_reducible first | exact HB.out | apply ba | apply bd | apply be | refine below_set ?_ (IsS39.ge HI0.out) | refine below_set ?_ GE324.out) | exact HB.out)⟩⟩
 case rest =>
  clear HC4
  try clear c1
  try clear p2
  try clear c3
  try clear c6
  try clear c6b0
  try clear c6b1
  obtain ⟨kq, x16_3, x1001_3, rfl, HA, HJ3, BK324, HI0, HK, HB⟩ := hcut
  cases kq with
  | zero => exact absurd HA.out (by simp [clusterlocksmill_group.j0])
  | succ kj3 =>
   have H := HA.out
   clear HA
   simp only [clusterlocksmill_group.j0] at H
   by_cases c9 : x16_3 = true
   ·subst c9
    have H1 : ((clusterlocksmill_Tape_Next.f s0_0 x1001_3 (l1.length : Int)).bind fun bt327 => (if 0 ≤ bt327.1 then (if bt327.1 < (l1.length : Int) then (some (0, (rd_T25 l1 bt327.1).f0, (rd_T25 l1 bt327.1).f1.f0, (rd_T25 l1 bt327.1).f1.f1, ([] : List (S28)), bt327.2)) else (none)) else (none))) = some (r1, r2, r3, r4, r5, r6) := by rw [if_pos rfl] at H; exact H
    clear H
    have H := H1
    clear H1
    replace H := Option.bind_eq_some_iff.mp H
    obtain ⟨⟨t327, t328⟩, A100, H⟩ := H
    replace H : (if 0 ≤ t327 then (if t327 < (l1.length : Int) then (some (0, (rd_T25 l1 t327).f0, (rd_T25 l1 t327).f1.f0, (rd_T25 l1 t327).f1.f1, ([] : List (S28)), t328)) else (none)) else (none)) = some (r1, r2, r3, r4, r5, r6) := H
    have A10 := Aside0.mk A100
    clear A100
    by_cases c11 : 0 ≤ t327
    ·rw [if_pos c11] at H
     have c11b0 : decide (0 ≤ t327) = true := decide_eq_true c11
     clear c11
     by_cases c12 : t327 < (l1.length : Int)
     ·rw [if_pos c12] at H
      have c12b0 : decide (t327 < (l1.length : Int)) = true := decide_eq_true c12
      clear c12
      simp only [Option.some.injEq, Prod.mk.injEq] at H
      obtain ⟨rfl, rfl, rfl, rfl, rfl, rfl⟩ := H
      go_wp2_with (first | ((with_reducible refine gate_callee (f := 35) rfl ?_); refine goesL_ (some 21) rfl rfl Try.func35 (by kernel_rfl) rfl #[.pointer (some ⟨g, 0, none⟩), .int .i64 (l1.length : Int)] rfl mp2 ?_; (with_reducible refine (clusterlocksmill_Tape_Next.calls g s0_0 x1001_3 (l1.length : Int) t327 t328 w0 _ ?side1 ?side2 A10.out).mono ?_); (case side1 => repeat (first | (with_reducible first | exact HI0.out | apply IsS39.alloc | apply IsS39.drewN | apply IsS39.drew | apply IsS39.set_1 | refine IsS39.far ?_ NB0_324.out _) | exact HI0.out)); (case side2 => repeat (first | (with_reducible first | exact HB.out | apply ba | apply bd | apply be | refine below_set ?_ (IsS39.ge HI0.out) | refine below_set ?_ GE324.out) | exact HB.out)); rintro e w13 ⟨rfl, hi, hb, hk⟩; refine ⟨_, rfl, ?_⟩; have n0_ := am (KeepBut.blk hk (g' := gb324) (o := .cells #[.int .i64 0, .string (⟨#[]⟩ : ByteArray), .int .i64 0, .int .i64 0, .slice none 0 0] 28 (0, 0)) (zB BK324.out) NB324_0.out (by simp)); have n1_ := am (KeepBut.trans (by repeat (first | (with_reducible first | exact HK.out | apply KeepBut.set_ | apply keep_drewN | apply keep_drew | apply keep_alloc | refine keep_far ?_ GW324.out _) | exact HK.out)) hk (.inl rfl)); have n2_ := am (hb); have n3_ := am (hi); clear BK324 HK HB HI0; have BK324 := n0_; have HK := n1_; have HB := n2_; have HI0 := n3_; clear n0_ n1_ n2_ n3_; (try clear hb); (try clear hb2); (try clear hk); (try clear hi); have p329 : 0 ≤ (t327 : Int) := of_decide_eq_true (by first | (with_reducible assumption) | assumption); have q329 : t327 < (l1.length : Int) := of_decide_eq_true (by first | (with_reducible assumption) | assumption); obtain ⟨ad329, e329, hx329_0, hx329_1, hx329_2⟩ := at_T25 (Kd.C_foot_now HR1.out HK.out) t327 p329 q329; cases e329; replace p329 := eq_true p329; replace q329 := eq_true q329; have hnb14 := NB324_0.out; have hnc14 := NB0_324.out; obtain ⟨hcz15_0, hcz15_1, hcz15_2, hcz15_3, hcz15_4, hfz15_0, hfz15_1, hfz15_2, hfz15_3, hfz15_4⟩ := b5 BK324.out) | ((with_reducible refine gate_store (t := 28) (p := 6) rfl ?_); refine store_event (t := 28) (p := 6) (v := ?vo_w16) (w1 := (((((w13.setCell ⟨gb324, 0, none⟩ (.int .i64 0)).setCell ⟨gb324, 1, none⟩ (.string ((rd_T25 l1 t327).f0))).setCell ⟨gb324, 2, none⟩ (.int .i64 ((rd_T25 l1 t327).f1.f0))).setCell ⟨gb324, 3, none⟩ (.int .i64 ((rd_T25 l1 t327).f1.f1))).setCell ⟨gb324, 4, none⟩ (.slice none 0 0))) ?hg ?ho ?hn ?hr ?_; (case ho => rfl); (case hg => rfl); (case hn => rfl); (case hr => first | (go_simp; done) | (go_simp; rfl)); intro w16 hw; have n0_ : Aside0 (w16.heap[gb324]? = some (.cells #[.int .i64 0, .string ((rd_T25 l1 t327).f0), .int .i64 ((rd_T25 l1 t327).f1.f0), .int .i64 ((rd_T25 l1 t327).f1.f1), .slice none 0 0] 28 (0, 0))) := ⟨(by rw [hw]; exact (by refine blk_put (cs := #[.int .i64 0, .string ((rd_T25 l1 t327).f0), .int .i64 ((rd_T25 l1 t327).f1.f0), .int .i64 ((rd_T25 l1 t327).f1.f1), .slice none 0 0]) ?_ 4 _ rfl; refine blk_put (cs := #[.int .i64 0, .string ((rd_T25 l1 t327).f0), .int .i64 ((rd_T25 l1 t327).f1.f0), .int .i64 0, .slice none 0 0]) ?_ 3 _ rfl; refine blk_put (cs := #[.int .i64 0, .string ((rd_T25 l1 t327).f0), .int .i64 0, .int .i64 0, .slice none 0 0]) ?_ 2 _ rfl; refine blk_put (cs := #[.int .i64 0, .string (⟨#[]⟩ : ByteArray), .int .i64 0, .int .i64 0, .slice none 0 0]) ?_ 1 _ rfl; refine blk_put (cs := #[.int .i64 0, .string (⟨#[]⟩ : ByteArray), .int .i64 0, .int .i64 0, .slice none 0 0]) ?_ 0 _ rfl; exact zB <| BK324.out))⟩; have n1_ : Aside0 (IsS39 w0 w16 g s0_0 t328) := ⟨(by rw [hw]; exact (by repeat (first | (with_reducible first | exact HI0.out | apply IsS39.alloc | apply IsS39.drewN | apply IsS39.drew | apply IsS39.set_1 | refine IsS39.far ?_ NB0_324.out _) | exact HI0.out)))⟩; have n2_ : Aside0 (KeepBut w w16 g none) := ⟨(by rw [hw]; exact (by repeat (first | (with_reducible first | exact HK.out | apply KeepBut.set_ | apply keep_drewN | apply keep_drew | apply keep_alloc | refine keep_far ?_ GW324.out _) | exact HK.out)))⟩; have n3_ : Aside0 (Below w0.heap.size w0 w16) := ⟨(by rw [hw]; exact (by repeat (first | (with_reducible first | exact HB.out | apply ba | apply bd | apply be | refine below_set ?_ (IsS39.ge HI0.out) | refine below_set ?_ GE324.out) | exact HB.out)))⟩; clear hw BK324 HI0 HK HB; have BK324 := n0_; have HI0 := n1_; have HK := n2_; have HB := n3_; clear n0_ n1_ n2_ n3_))
      refine bodyPost_ret (results_cell_row rfl _ _ gb324 28 #[.int .i64 0, .string ((rd_T25 l1 t327).f0), .int .i64 ((rd_T25 l1 t327).f1.f0), .int .i64 ((rd_T25 l1 t327).f1.f1), .slice none 0 0] (0, 0) _ rfl (zB BK324.out) Try.underlying28 rfl (by kernel_rfl)) rfl ?_
      exact ⟨_, by first | rfl | (simp [errW_none, errW_some] <;> rfl) | (simp [*, errW_none, errW_some] <;> rfl), by first | exact Kd.R_nil _ _ _ _ _ | exact Kd.N_nil _ _ _ _ _ | exact Kd.V_nil _ _ _ _ _ | exact Kd.Q_nil _ _ _ _ _ | exact Kd.S_nil _ _ _ _ _, by repeat (first | (with_reducible first | exact HI0.out | apply IsS39.alloc | apply IsS39.drewN | apply IsS39.drew | apply IsS39.set_1 | refine IsS39.far ?_ NB0_324.out _) | exact HI0.out), by repeat (first | (with_reducible first | exact HB.out | apply ba | apply bd | apply be | refine below_set ?_ (IsS39.ge HI0.out) | refine below_set ?_ GE324.out) | exact HB.out), by repeat (first | (with_reducible first | exact HK.out | apply KeepBut.set_ | apply keep_drewN | apply keep_drew | apply keep_alloc | refine keep_far ?_ GW324.out _) | exact HK.out)⟩
     ·rw [if_neg c12] at H
      exact absurd H (by simp)
    ·rw [if_neg c11] at H
     exact absurd H (by simp)
   ·replace c9 := Bool.eq_false_iff.mpr c9
    subst c9
    have H1 : ((clusterlocksmill_Tape_Next.f s0_0 x1001_3 3).bind fun bt330 => ((clusterlocksmill_Tape_Next.f s0_0 bt330.2 (wrap64 (1 + bt330.1))).bind fun bt332 => (clusterlocksmill_group.l0 kj3 l1 a2 (wrap64 (1 + bt330.1)) 0 s0_0 bt332.2 (wrap64 (1 + bt332.1)) (⟨#[]⟩ : ByteArray) 0 0 ([] : List (S28))))) = some (r1, r2, r3, r4, r5, r6) := by rw [if_neg (show ¬ (false = true) by decide)] at H; exact H
    clear H
    have H := H1
    clear H1
    replace H := Option.bind_eq_some_iff.mp H
    obtain ⟨⟨t330, t331⟩, A170, H⟩ := H
    replace H : ((clusterlocksmill_Tape_Next.f s0_0 t331 (wrap64 (1 + t330))).bind fun bt332 => (clusterlocksmill_group.l0 kj3 l1 a2 (wrap64 (1 + t330)) 0 s0_0 bt332.2 (wrap64 (1 + bt332.1)) (⟨#[]⟩ : ByteArray) 0 0 ([] : List (S28)))) = some (r1, r2, r3, r4, r5, r6) := H
    have A17 := Aside0.mk A170
    clear A170
    replace H := Option.bind_eq_some_iff.mp H
    obtain ⟨⟨t332, t333⟩, A180, H⟩ := H
    replace H : (clusterlocksmill_group.l0 kj3 l1 a2 (wrap64 (1 + t330)) 0 s0_0 t333 (wrap64 (1 + t332)) (⟨#[]⟩ : ByteArray) 0 0 ([] : List (S28))) = some (r1, r2, r3, r4, r5, r6) := H
    have A18 := Aside0.mk A180
    clear A180
    have H' := Aside0.mk H
    clear H
    go_wp2_with (first | ((with_reducible refine gate_callee (f := 35) rfl ?_); refine goesL_ (some 26) rfl rfl Try.func35 (by kernel_rfl) rfl #[.pointer (some ⟨g, 0, none⟩), .int .i64 3] rfl mp2 ?_; (with_reducible refine (clusterlocksmill_Tape_Next.calls g s0_0 x1001_3 3 t330 t331 w0 _ ?side1 ?side2 A17.out).mono ?_); (case side1 => repeat (first | (with_reducible first | exact HI0.out | apply IsS39.alloc | apply IsS39.drewN | apply IsS39.drew | apply IsS39.set_1 | refine IsS39.far ?_ NB0_324.out _) | exact HI0.out)); (case side2 => repeat (first | (with_reducible first | exact HB.out | apply ba | apply bd | apply be | refine below_set ?_ (IsS39.ge HI0.out) | refine below_set ?_ GE324.out) | exact HB.out)); rintro e w19 ⟨rfl, hi, hb, hk⟩; refine ⟨_, rfl, ?_⟩; have n0_ := am (KeepBut.blk hk (g' := gb324) (o := .cells #[.int .i64 0, .string (⟨#[]⟩ : ByteArray), .int .i64 0, .int .i64 0, .slice none 0 0] 28 (0, 0)) (zB BK324.out) NB324_0.out (by simp)); have n1_ := am (KeepBut.trans (by repeat (first | (with_reducible first | exact HK.out | apply KeepBut.set_ | apply keep_drewN | apply keep_drew | apply keep_alloc | refine keep_far ?_ GW324.out _) | exact HK.out)) hk (.inl rfl)); have n2_ := am (hb); have n3_ := am (hi); clear BK324 HK HB HI0; have BK324 := n0_; have HK := n1_; have HB := n2_; have HI0 := n3_; clear n0_ n1_ n2_ n3_; (try clear hb); (try clear hb2); (try clear hk); (try clear hi)) | ((with_reducible refine gate_callee (f := 35) rfl ?_); refine goesL_ (some 30) rfl rfl Try.func35 (by kernel_rfl) rfl #[.pointer (some ⟨g, 0, none⟩), .int .i64 (wrap64 (1 + t330))] rfl mp2 ?_; (with_reducible refine (clusterlocksmill_Tape_Next.calls g s0_0 t331 (wrap64 (1 + t330)) t332 t333 w0 _ ?side1 ?side2 A18.out).mono ?_); (case side1 => repeat (first | (with_reducible first | exact HI0.out | apply IsS39.alloc | apply IsS39.drewN | apply IsS39.drew | apply IsS39.set_1 | refine IsS39.far ?_ NB0_324.out _) | exact HI0.out)); (case side2 => repeat (first | (with_reducible first | exact HB.out | apply ba | apply bd | apply be | refine below_set ?_ (IsS39.ge HI0.out) | refine below_set ?_ GE324.out) | exact HB.out)); rintro e w20 ⟨rfl, hi, hb, hk⟩; refine ⟨_, rfl, ?_⟩; have n0_ := am (KeepBut.blk hk (g' := gb324) (o := .cells #[.int .i64 0, .string (⟨#[]⟩ : ByteArray), .int .i64 0, .int .i64 0, .slice none 0 0] 28 (0, 0)) (zB BK324.out) NB324_0.out (by simp)); have n1_ := am (KeepBut.trans (by repeat (first | (with_reducible first | exact HK.out | apply KeepBut.set_ | apply keep_drewN | apply keep_drew | apply keep_alloc | refine keep_far ?_ GW324.out _) | exact HK.out)) hk (.inl rfl)); have n2_ := am (hb); have n3_ := am (hi); clear BK324 HK HB HI0; have BK324 := n0_; have HK := n1_; have HB := n2_; have HI0 := n3_; clear n0_ n1_ n2_ n3_; (try clear hb); (try clear hb2); (try clear hk); (try clear hi)) | ((with_reducible refine gate_dst (N := 8) rfl ?_); refine box_event ?hg (N := 8) ?hd (cs := #[.int .i64 0, .string (⟨#[]⟩ : ByteArray), .int .i64 0, .int .i64 0, .slice none 0 0]) (t := 28) ?hr ?_; (case hd => rfl); (case hg => rfl); (case hr => first | (go_simp; done) | (go_simp; rfl)); intro gb334 hg w21 hbox hb; have n0_ := am (blk_below (zB BK324.out) hb); have n1_ := am (IsS39.below (by repeat (first | (with_reducible first | exact HI0.out | apply IsS39.alloc | apply IsS39.drewN | apply IsS39.drew | apply IsS39.set_1 | refine IsS39.far ?_ NB0_324.out _) | exact HI0.out)) hb); have n2_ := am (KeepBut.trans (by repeat (first | (with_reducible first | exact HK.out | apply KeepBut.set_ | apply keep_drewN | apply keep_drew | apply keep_alloc | refine keep_far ?_ GW324.out _) | exact HK.out)) (KeepBut.of_below hb g none) (.inl rfl)); have n3_ := am (below_step (by repeat (first | (with_reducible first | exact HB.out | apply ba | apply bd | apply be | refine below_set ?_ (IsS39.ge HI0.out) | refine below_set ?_ GE324.out) | exact HB.out)) hb); have n4_ := am (hbox); have n5_ := am ((by rw [hg]; exact (keep_size (w := w) (g := g) (row := none) (by repeat (first | (with_reducible first | exact HK.out | apply KeepBut.set_ | apply keep_drewN | apply keep_drew | apply keep_alloc | refine keep_far ?_ GW324.out _) | exact HK.out))) : w.heap.size ≤ gb334)); have n6_ := am ((Nat.le_trans HW0.out (by rw [hg]; exact (keep_size (w := w) (g := g) (row := none) (by repeat (first | (with_reducible first | exact HK.out | apply KeepBut.set_ | apply keep_drewN | apply keep_drew | apply keep_alloc | refine keep_far ?_ GW324.out _) | exact HK.out))) : w.heap.size ≤ gb334) : w0.heap.size ≤ gb334)); have n7_ := am (zN hg BK324.out); have n8_ := am (zM hg BK324.out); have n9_ := am ((by rw [hg]; exact Nat.ne_of_lt (IsS39.lt (show IsS39 w0 _ g s0_0 t333 from by repeat (first | (with_reducible first | exact HI0.out | apply IsS39.alloc | apply IsS39.drewN | apply IsS39.drew | apply IsS39.set_1 | refine IsS39.far ?_ NB0_324.out _) | exact HI0.out))) : g ≠ gb334)); have n10_ := am ((by rw [hg]; exact Nat.ne_of_gt (IsS39.lt (show IsS39 w0 _ g s0_0 t333 from by repeat (first | (with_reducible first | exact HI0.out | apply IsS39.alloc | apply IsS39.drewN | apply IsS39.drew | apply IsS39.set_1 | refine IsS39.far ?_ NB0_324.out _) | exact HI0.out))) : gb334 ≠ g)); clear BK324 HI0 HK HB; have BK324 := n0_; have HI0 := n1_; have HK := n2_; have HB := n3_; have BK334 := n4_; have GW334 := n5_; have GE334 := n6_; have NB324_334 := n7_; have NB334_324 := n8_; have NB0_334 := n9_; have NB334_0 := n10_; clear n0_ n1_ n2_ n3_ n4_ n5_ n6_ n7_ n8_ n9_ n10_; clear hb hbox hg; have hnb22 := NB334_324.out; have hnc22 := NB324_334.out; have hnb23 := NB334_0.out; have hnc23 := NB0_334.out; obtain ⟨hcz24_0, hcz24_1, hcz24_2, hcz24_3, hcz24_4, hfz24_0, hfz24_1, hfz24_2, hfz24_3, hfz24_4⟩ := b5 BK334.out) | ((with_reducible refine gate_store (t := 28) (p := 8) rfl ?_); refine store_event (t := 28) (p := 8) (v := ?vo_w25) (w1 := (((((w21.setCell ⟨gb334, 0, none⟩ (.int .i64 (wrap64 (1 + t332)))).setCell ⟨gb334, 1, none⟩ (.string (⟨#[]⟩ : ByteArray))).setCell ⟨gb334, 2, none⟩ (.int .i64 0)).setCell ⟨gb334, 3, none⟩ (.int .i64 0)).setCell ⟨gb334, 4, none⟩ (.slice none 0 0))) ?hg ?ho ?hn ?hr ?_; (case ho => rfl); (case hg => rfl); (case hn => rfl); (case hr => first | (go_simp; done) | (go_simp; rfl)); intro w25 hw; have n0_ : Aside0 (w25.heap[gb324]? = some (.cells #[.int .i64 0, .string (⟨#[]⟩ : ByteArray), .int .i64 0, .int .i64 0, .slice none 0 0] 28 (0, 0))) := ⟨(by rw [hw]; exact (by refine blk_far ?_ NB324_334.out _; refine blk_far ?_ NB324_334.out _; refine blk_far ?_ NB324_334.out _; refine blk_far ?_ NB324_334.out _; refine blk_far ?_ NB324_334.out _; exact zB <| BK324.out))⟩; have n1_ : Aside0 (w25.heap[gb334]? = some (.cells #[.int .i64 (wrap64 (1 + t332)), .string (⟨#[]⟩ : ByteArray), .int .i64 0, .int .i64 0, .slice none 0 0] 28 (0, 0))) := ⟨(by rw [hw]; exact (by refine blk_put (cs := #[.int .i64 (wrap64 (1 + t332)), .string (⟨#[]⟩ : ByteArray), .int .i64 0, .int .i64 0, .slice none 0 0]) ?_ 4 _ rfl; refine blk_put (cs := #[.int .i64 (wrap64 (1 + t332)), .string (⟨#[]⟩ : ByteArray), .int .i64 0, .int .i64 0, .slice none 0 0]) ?_ 3 _ rfl; refine blk_put (cs := #[.int .i64 (wrap64 (1 + t332)), .string (⟨#[]⟩ : ByteArray), .int .i64 0, .int .i64 0, .slice none 0 0]) ?_ 2 _ rfl; refine blk_put (cs := #[.int .i64 (wrap64 (1 + t332)), .string (⟨#[]⟩ : ByteArray), .int .i64 0, .int .i64 0, .slice none 0 0]) ?_ 1 _ rfl; refine blk_put (cs := #[.int .i64 0, .string (⟨#[]⟩ : ByteArray), .int .i64 0, .int .i64 0, .slice none 0 0]) ?_ 0 _ rfl; exact zB <| BK334.out))⟩; have n2_ : Aside0 (IsS39 w0 w25 g s0_0 t333) := ⟨(by rw [hw]; exact (by repeat (first | (with_reducible first | exact HI0.out | apply IsS39.alloc | apply IsS39.drewN | apply IsS39.drew | apply IsS39.set_1 | refine IsS39.far ?_ NB0_324.out _ | refine IsS39.far ?_ NB0_334.out _) | exact HI0.out)))⟩; have n3_ : Aside0 (KeepBut w w25 g none) := ⟨(by rw [hw]; exact (by repeat (first | (with_reducible first | exact HK.out | apply KeepBut.set_ | apply keep_drewN | apply keep_drew | apply keep_alloc | refine keep_far ?_ GW324.out _ | refine keep_far ?_ GW334.out _) | exact HK.out)))⟩; have n4_ : Aside0 (Below w0.heap.size w0 w25) := ⟨(by rw [hw]; exact (by repeat (first | (with_reducible first | exact HB.out | apply ba | apply bd | apply be | refine below_set ?_ (IsS39.ge HI0.out) | refine below_set ?_ GE324.out | refine below_set ?_ GE334.out) | exact HB.out)))⟩; clear hw BK324 BK334 HI0 HK HB; have BK324 := n0_; have BK334 := n1_; have HI0 := n2_; have HK := n3_; have HB := n4_; clear n0_ n1_ n2_ n3_ n4_))
    go_loopg [9] kj3 (fun kq v9 w' => ∃ (x9_2 : Int) (x1001_2 : Int) (x335004_2 : List (S28)) (u335004 : Value), v9 = .int .i64 x9_2 ∧ Aside0 (clusterlocksmill_group.l0 kq l1 a2 (wrap64 (1 + t330)) x9_2 s0_0 x1001_2 (wrap64 (1 + t332)) (⟨#[]⟩ : ByteArray) 0 0 x335004_2 = some (r1, r2, r3, r4, r5, r6)) ∧ Aside0 (kq ≤ kj3) ∧ Aside0 (Kd.R k28 28 w' w.heap.size (fun k_ => k_ ≠ gb324 ∧ k_ ≠ gb334) u335004 x335004_2) ∧ Aside0 (w'.heap[gb324]? = some (.cells #[.int .i64 0, .string (⟨#[]⟩ : ByteArray), .int .i64 0, .int .i64 0, (.slice none 0 0)] 28 (0, 0))) ∧ Aside0 (w'.heap[gb334]? = some (.cells #[.int .i64 (wrap64 (1 + t332)), .string (⟨#[]⟩ : ByteArray), .int .i64 0, .int .i64 0, u335004] 28 (0, 0))) ∧ Aside0 (IsS39 w0 w' g s0_0 x1001_2) ∧ Aside0 (KeepBut w w' g none) ∧ Aside0 (Below w0.heap.size w0 w'))
    case atStart => exact ⟨(0), (t333), (([] : List (S28))), (.slice none 0 0), (by first | rfl | (simp; done) | (simp [*]; done)), H', ⟨Nat.le_refl _⟩, ⟨by first | exact Kd.R_nil _ _ _ _ _ | exact Kd.N_nil _ _ _ _ _ | exact Kd.V_nil _ _ _ _ _ | exact Kd.Q_nil _ _ _ _ _ | exact Kd.S_nil _ _ _ _ _⟩, ⟨by exact zB <| BK324.out⟩, ⟨by exact zB <| BK334.out⟩, ⟨by repeat (first | (with_reducible first | exact HI0.out | apply IsS39.alloc | apply IsS39.drewN | apply IsS39.drew | apply IsS39.set_1 | refine IsS39.far ?_ NB0_324.out _ | refine IsS39.far ?_ NB0_334.out _) | exact HI0.out)⟩, ⟨by repeat (first | (with_reducible first | exact HK.out | apply KeepBut.set_ | apply keep_drewN | apply keep_drew | apply keep_alloc | refine keep_far ?_ GW324.out _ | refine keep_far ?_ GW334.out _) | exact HK.out)⟩, ⟨by repeat (first | (with_reducible first | exact HB.out | apply ba | apply bd | apply be | refine below_set ?_ (IsS39.ge HI0.out) | refine below_set ?_ GE324.out | refine below_set ?_ GE334.out) | exact HB.out)⟩⟩
    case round =>
     clear H'
     try clear c1
     try clear c2
     try clear p2
     try clear c3
     try clear p3
     try clear q3
     try clear hx3
     try clear c6
     try clear c6b0
     try clear c6b1
     try clear p6
     try clear c9
     try clear c11
     try clear c11b0
     try clear c12
     try clear c12b0
     try clear c14
     try clear c22
     try clear c23
     try clear hcz15_0
     try clear hcz15_1
     try clear hcz15_2
     try clear hcz15_3
     try clear hcz15_4
     try clear hcz24_0
     try clear hcz24_1
     try clear hcz24_2
     try clear hcz24_3
     try clear hcz24_4
     try clear hfz15_0
     try clear hfz15_1
     try clear hfz15_2
     try clear hfz15_3
     try clear hfz15_4
     try clear hfz24_0
     try clear hfz24_1
     try clear hfz24_2
     try clear hfz24_3
     try clear hfz24_4
     try clear hx329_0
     try clear hx329_1
     try clear hx329_2
     try clear p2
     try clear p329
     try clear q329
     obtain ⟨x9_2, x1001_2, x335004_2, u335004, rfl, HA, HK2, HO_335004, BK324, BK334, HI0, HK, HB⟩ := hrel
     cases gk with
     | zero => exact absurd HA.out (by simp [clusterlocksmill_group.l0])
     | succ k2 =>
      have H := HA.out
      clear HA
      simp only [clusterlocksmill_group.l0] at H
      by_cases c26 : x9_2 < (wrap64 (1 + t330))
      ·rw [if_pos c26] at H
       have c26b0 : decide (x9_2 < (wrap64 (1 + t330))) = true := decide_eq_true c26
       clear c26
       replace H := Option.bind_eq_some_iff.mp H
       obtain ⟨⟨t335, t336, t337, t338, t339, t342⟩, A270, H⟩ := H
       replace H : (if x335004_2.length < 2199023255552 then (clusterlocksmill_group.l0 k2 l1 a2 (wrap64 (1 + t330)) (wrap64 (x9_2 + 1)) s0_0 t342 (wrap64 (1 + t332)) (⟨#[]⟩ : ByteArray) 0 0 (x335004_2 ++ [(⟨t335, (⟨t336, (⟨t337, t338⟩ : S23)⟩ : S25), t339⟩ : S28)])) else (none)) = some (r1, r2, r3, r4, r5, r6) := H
       have A27 := Aside0.mk A270
       clear A270
       by_cases c28 : x335004_2.length < 2199023255552
       ·rw [if_pos c28] at H
        have LMc28 := Aside0.mk c28
        clear c28
        obtain ⟨y343, hy343⟩ : ∃ y_ : List (S28), y_ = (x335004_2 ++ [(⟨t335, (⟨t336, (⟨t337, t338⟩ : S23)⟩ : S25), t339⟩ : S28)]) := ⟨_, rfl⟩
        replace H : (clusterlocksmill_group.l0 k2 l1 a2 (wrap64 (1 + t330)) (wrap64 (x9_2 + 1)) s0_0 t342 (wrap64 (1 + t332)) (⟨#[]⟩ : ByteArray) 0 0 y343) = some (r1, r2, r3, r4, r5, r6) := by first | (rw [hy343]; with_reducible exact H) | (have H2_ := (Option.bind_some _ _).symm.trans H; rw [hy343]; with_reducible exact H2_) | (have H2_ := (Option.bind_some _ _).symm.trans H; with_reducible exact H2_) | with_reducible exact H | (rw [hy343]; exact H) | exact H
        have Ny343 := Aside0.mk hy343
        clear hy343
        have H' := Aside0.mk H
        clear H
        try go_wp2
        have n0_ := am (Kd.R_drew HO_335004.out)
        have n1_ := am (blk_drew BK324.out)
        have n2_ := am (blk_drew BK334.out)
        have n3_ := am (IsS39.drew HI0.out)
        have n4_ := am (keep_drew HK.out)
        have n5_ := am (below_drew1 HB.out)
        clear HO_335004 BK324 BK334 HI0 HK HB
        have HO_335004 := n0_
        have BK324 := n1_
        have BK334 := n2_
        have HI0 := n3_
        have HK := n4_
        have HB := n5_
        clear n0_ n1_ n2_ n3_ n4_ n5_
        refine start_ (n := 11) (S := fun w' => w'.cell? ⟨gb334, 0, none⟩ = some (.int .i64 (wrap64 (1 + t332))) ∧ w'.cell? ⟨gb334, 1, none⟩ = some (.string (⟨#[]⟩ : ByteArray)) ∧ w'.cell? ⟨gb334, 2, none⟩ = some (.int .i64 0) ∧ w'.cell? ⟨gb334, 3, none⟩ = some (.int .i64 0) ∧ w'.cell? ⟨gb334, 4, none⟩ = some (u335004)) (ds := [10]) #[false, false, false, false, false, false, false, false, false, false, false] (by kernel_rfl) rfl rfl ⟨(blk_cell BK334.out 0).trans rfl, (blk_cell BK334.out 1).trans rfl, (blk_cell BK334.out 2).trans rfl, (blk_cell BK334.out 3).trans rfl, (blk_cell BK334.out 4).trans rfl⟩ (fun hHeld => ?_); refine with_tabW clusterlocksmill_group.tab8 clusterlocksmill_group.bits8 (fun HT_ HW_ => ?_)
        generalize wr.drew = w29 at HO_335004 BK324 BK334 HI0 HK HB hHeld ⊢
        refine pure_ (i := 0) (N := some 38) (v := ?_) (a' := ?_) #[true, false, false, false, false, false, false, false, false, false, false] rfl rfl (any_of HT_.out (by kernel_rfl)) (fun _ _ _ h => h) (Or.inl ⟨by rfl, ?_⟩) ?_ ?_
        rotate_left
        ·intro w'
         go_simp
         with_reducible rfl
        rotate_left
        ·simp only [Act.put, List.setIfInBounds_toArray, List.set_cons_zero, List.set_cons_succ, i64_w, i32_w]
         rfl
        refine pure_ (i := 2) (N := some 40) (v := ?_) (a' := ?_) #[true, false, true, false, false, false, false, false, false, false, false] rfl rfl (any_of HT_.out (by kernel_rfl)) (fun _ _ _ h => h) (Or.inl ⟨by rfl, ?_⟩) ?_ ?_
        rotate_left
        ·intro w'
         go_simp
         with_reducible rfl
        rotate_left
        ·simp only [Act.put, List.setIfInBounds_toArray, List.set_cons_zero, List.set_cons_succ, i64_w, i32_w]
         rfl
        refine pure_ (i := 3) (N := some 41) (v := ?_) (a' := ?_) #[true, false, true, true, false, false, false, false, false, false, false] rfl rfl (any_of HT_.out (by kernel_rfl)) (fun _ _ _ h => h) (Or.inl ⟨by rfl, ?_⟩) ?_ ?_
        rotate_left
        ·intro w'
         go_simp
         with_reducible rfl
        rotate_left
        ·simp only [Act.put, List.setIfInBounds_toArray, List.set_cons_zero, List.set_cons_succ, i64_w, i32_w]
         rfl
        refine pure_ (i := 4) (N := some 42) (v := ?_) (a' := ?_) #[true, false, true, true, true, false, false, false, false, false, false] rfl rfl (any_of HT_.out (by kernel_rfl)) (fun _ _ _ h => h) (Or.inl ⟨by rfl, ?_⟩) ?_ ?_
        rotate_left
        ·intro w'
         go_simp
         with_reducible rfl
        rotate_left
        ·simp only [Act.put, List.setIfInBounds_toArray, List.set_cons_zero, List.set_cons_succ, i64_w, i32_w]
         rfl
        refine pure_ (i := 5) (N := some 43) (v := ?_) (a' := ?_) #[true, false, true, true, true, true, false, false, false, false, false] rfl rfl (any_of HT_.out (by kernel_rfl)) (fun _ _ _ h => h) (Or.inl ⟨by rfl, ?_⟩) ?_ ?_
        rotate_left
        ·intro w'
         go_simp
         with_reducible rfl
        rotate_left
        ·simp only [Act.put, List.setIfInBounds_toArray, List.set_cons_zero, List.set_cons_succ, i64_w, i32_w]
         rfl
        refine take_ (i := 1) (N := some 39) (v := ?_) (a' := ?_) #[true, true, true, true, true, true, false, false, false, false, false] rfl rfl (take_ofW HT_.out HW_.out (by kernel_rfl)) (fun _ _ _ h => h) (Or.inl ⟨by rfl, ?_⟩) hHeld ?_ ?_
        rotate_left
        ·rintro w' ⟨s0, s1, s2, s3, s4⟩
         go_simp
         with_reducible rfl
        rotate_left
        ·simp only [Act.put, List.setIfInBounds_toArray, List.set_cons_zero, List.set_cons_succ, i64_w, i32_w]
         rfl
        refine one_ (i := 6) (N := some 44) #[true, true, true, true, true, true, true, false, false, false, false] rfl rfl (one_of HT_.out (by kernel_rfl)) (by decide) (fun K hK => ?_)
        refine goes_ Try.func37 (by kernel_rfl) rfl #[.pointer (some ⟨g, 0, none⟩), .slice A1 l1.length c1, .int .i64 (wrap64 (a2 - 1))] (by rfl) rfl rfl (by (try simp only [List.map_toArray, List.map_cons, List.map_nil]); first | done | rfl | (simp only [List.length_drop, List.length_take]; rfl)) ?_
        with_reducible refine (ih k2 (by have := HJ3.out; have := HK2.out; omega) g s0_0 x1001_2 _ _ l1 (wrap64 (a2 - 1)) t335 t336 t337 t338 t339 t342 w0 _ ?side1 ?side2 ?side3 ?side4 A27.out).mono ?_
        (case side1 => repeat (first | (with_reducible first | exact HI0.out | apply IsS39.alloc | apply IsS39.drewN | apply IsS39.drew | apply IsS39.set_1 | refine IsS39.far ?_ NB0_324.out _ | refine IsS39.far ?_ NB0_334.out _) | exact HI0.out))
        (case side2 => repeat (first | (with_reducible first | exact HB.out | apply ba | apply bd | apply be | refine below_set ?_ (IsS39.ge HI0.out) | refine below_set ?_ GE324.out | refine below_set ?_ GE334.out) | exact HB.out))
        (case side3 => exact Kd.C_foot_step HR1.out (by repeat (first | (with_reducible first | exact HK.out | apply KeepBut.set_ | apply keep_drewN | apply keep_drew | apply keep_alloc | refine keep_far ?_ GW324.out _ | refine keep_far ?_ GW334.out _) | exact HK.out)))
        (case side4 => exact HC1.out)
        rintro e w30 ⟨v340, rfl, ho0, hi, hb, hk⟩
        refine ⟨_, rfl, ?_⟩
        have n0_ := am (Kd.R_mono (Kd.R_told (Kd.R_oldK (IsS39.apart (show IsS39 w0 _ g s0_0 x1001_2 from by repeat (first | (with_reducible first | exact HI0.out | apply IsS39.alloc | apply IsS39.drewN | apply IsS39.drew | apply IsS39.set_1 | refine IsS39.far ?_ NB0_324.out _ | refine IsS39.far ?_ NB0_334.out _) | exact HI0.out)) (zR HO_335004.out) (by decide)) hk) (Kd.R_base ho0)) (fun _ h_ => h_.1))
        have n1_ := am (KeepBut.blk hk (g' := gb324) (o := .cells #[.int .i64 0, .string (⟨#[]⟩ : ByteArray), .int .i64 0, .int .i64 0, .slice none 0 0] 28 (0, 0)) (zB BK324.out) NB324_0.out (by simp))
        have n2_ := am (KeepBut.blk hk (g' := gb334) (o := .cells #[.int .i64 (wrap64 (1 + t332)), .string (⟨#[]⟩ : ByteArray), .int .i64 0, .int .i64 0, u335004] 28 (0, 0)) (zB BK334.out) NB334_0.out (by simp))
        have n3_ := am (Kd.R_lower (Kd.R_newB (Kd.R_newB (Kd.R_new' ho0 (Kd.R_lt (zR HO_335004.out))) (g := gb324) (o := .cells #[.int .i64 0, .string (⟨#[]⟩ : ByteArray), .int .i64 0, .int .i64 0, .slice none 0 0] 28 (0, 0)) (zB BK324.out)) (g := gb334) (o := .cells #[.int .i64 (wrap64 (1 + t332)), .string (⟨#[]⟩ : ByteArray), .int .i64 0, .int .i64 0, u335004] 28 (0, 0)) (zB BK334.out)) (keep_size (w := w) (g := g) (row := none) (by repeat (first | (with_reducible first | exact HK.out | apply KeepBut.set_ | apply keep_drewN | apply keep_drew | apply keep_alloc | refine keep_far ?_ GW324.out _ | refine keep_far ?_ GW334.out _) | exact HK.out))))
        have n4_ := am (KeepBut.trans (by repeat (first | (with_reducible first | exact HK.out | apply KeepBut.set_ | apply keep_drewN | apply keep_drew | apply keep_alloc | refine keep_far ?_ GW324.out _ | refine keep_far ?_ GW334.out _) | exact HK.out)) hk (.inl rfl))
        have n5_ := am (hb)
        have n6_ := am (hi)
        clear HO_335004 BK324 BK334 HK HB HI0
        have HO_335004 := n0_
        have BK324 := n1_
        have BK334 := n2_
        have HO341 := n3_
        have HK := n4_
        have HB := n5_
        have HI0 := n6_
        clear n0_ n1_ n2_ n3_ n4_ n5_ n6_
        (try clear hb)
        (try clear hb2)
        (try clear hk)
        (try clear hi)
        (try clear ho0)
        obtain ⟨Ao32, co32, eo32⟩ := Kd.R_slice HO341.out
        (first | subst eo32 | (injection eo32 with f1_ f2_ f3_; have f4_ := f1_.symm; have f5_ := f3_.symm; clear f1_ f2_ f3_; subst f4_; subst f5_))
        refine hK.out _ _ ⟨(blk_cell BK334.out 0).trans rfl, (blk_cell BK334.out 1).trans rfl, (blk_cell BK334.out 2).trans rfl, (blk_cell BK334.out 3).trans rfl, (blk_cell BK334.out 4).trans rfl⟩ (fun hHeld => ?_)
        clear hK K
        refine norm_ (a' := ?_) ?_ ?_
        rotate_left
        ·show Act.put _ (some 44) _ = _
         simp only [Act.put, List.setIfInBounds_toArray, List.set_cons_zero, List.set_cons_succ, i64_w, i32_w]
         rfl
        refine one_ (i := 7) (N := some 45) #[true, true, true, true, true, true, true, true, false, false, false] rfl rfl (one_of HT_.out (by kernel_rfl)) (by decide) (fun K hK => ?_)
        refine value_ (w1 := ?_) (v := ?_) (by rfl) rfl ?_ ?_
        rotate_left 2
        ·go_simp
         constructor
         ·rfl
         ·rfl
        refine hK.out _ _ ⟨(blk_cell (blk_alloc BK334.out _) 0).trans rfl, (blk_cell (blk_alloc BK334.out _) 1).trans rfl, (blk_cell (blk_alloc BK334.out _) 2).trans rfl, (blk_cell (blk_alloc BK334.out _) 3).trans rfl, (blk_cell (blk_alloc BK334.out _) 4).trans rfl⟩ (fun hHeld => ?_)
        clear hK K
        refine norm_ (a' := ?_) ?_ ?_
        rotate_left
        ·show Act.put _ (some 45) _ = _
         simp only [Act.put, List.setIfInBounds_toArray, List.set_cons_zero, List.set_cons_succ, i64_w, i32_w]
         rfl
        refine one_ (i := 8) (N := some 46) #[true, true, true, true, true, true, true, true, true, false, false] rfl rfl (one_of HT_.out (by kernel_rfl)) (by decide) (fun K hK => ?_)
        refine Kd.R_append_step k28 w.heap.size (by rfl) (.tmp 39) (.tmp 45) 26 28 (.agg #[(.int .i64 0), (.string ⟨#[]⟩), (.int .i64 0), (.int .i64 0), (.slice none 0 0)]) 64 rfl Try.underlying26 info28 rfl (by decide) (by omega) u335004 x335004_2 (⟨t335, (⟨t336, (⟨t337, t338⟩ : S23)⟩ : S25), t339⟩ : S28) [.int .i64 t335, .string t336, .int .i64 t337, .int .i64 t338, .slice Ao32 t339.length co32] (fun k_ => k_ ≠ gb324 ∧ k_ ≠ gb334) (fun k_ => ((fun k_ => k_ ≠ gb324 ∧ k_ ≠ gb334)) k_ ∧ some k_ ≠ (u335004 : Value).ownBlock) rfl rfl ?aP (fun _ hk => hk) ?aF ?aO (Below.refl _ _) ?aS ?aL ?_
        (case aP => exact k28_mkM _ _ _ (⟨t335, (⟨t336, (⟨t337, t338⟩ : S23)⟩ : S25), t339⟩ : S28) (Kd.R_mono (HO341.out) (fun k_ hk => ⟨⟨hk.1.2, hk.2⟩, hk.1.1.2⟩)))
        (case aF => exact (fun k_ hk => ⟨Kd.freshB (g := gb324) (o := .cells #[.int .i64 0, .string (⟨#[]⟩ : ByteArray), .int .i64 0, .int .i64 0, .slice none 0 0] 28 (0, 0)) (zB BK324.out) k_ hk, Kd.freshB (g := gb334) (o := .cells #[.int .i64 (wrap64 (1 + t332)), .string (⟨#[]⟩ : ByteArray), .int .i64 0, .int .i64 0, u335004] 28 (0, 0)) (zB BK334.out) k_ hk⟩))
        (case aO => exact (by exact zR <| Kd.R_mono HO_335004.out (fun _ hk => ⟨hk.1.1, hk.1.2⟩)))
        (case aS => exact (keep_size (w := w) (g := g) (row := none) (by repeat (first | (with_reducible first | exact HK.out | apply KeepBut.set_ | apply keep_drewN | apply keep_drew | apply keep_alloc | refine keep_far ?_ GW324.out _ | refine keep_far ?_ GW334.out _) | exact HK.out))))
        (case aL => have := LMc28.out; omega)
        intro v344 w31 ho hb hg hat
        rw [← Ny343.out] at ho
        have n0_ := am (blk_grown (g := gb324) (o := .cells #[.int .i64 0, .string (⟨#[]⟩ : ByteArray), .int .i64 0, .int .i64 0, .slice none 0 0] 28 (0, 0)) (zB BK324.out) hg (Kd.R_away HO_335004.out (fun _ hk => hk.1.1)))
        have n1_ := am (blk_grown (g := gb334) (o := .cells #[.int .i64 (wrap64 (1 + t332)), .string (⟨#[]⟩ : ByteArray), .int .i64 0, .int .i64 0, u335004] 28 (0, 0)) (zB BK334.out) hg (Kd.R_away HO_335004.out (fun _ hk => hk.1.2)))
        have n2_ := am (IsS39.grown (by repeat (first | (with_reducible first | exact HI0.out | apply IsS39.alloc | apply IsS39.drewN | apply IsS39.drew | apply IsS39.set_1 | refine IsS39.far ?_ NB0_324.out _ | refine IsS39.far ?_ NB0_334.out _) | exact HI0.out)) hg (IsS39.own_ne HI0.out HO_335004.out (by decide)))
        have n3_ := am (below_weaken (by repeat (first | (with_reducible first | exact HB.out | apply ba | apply bd | apply be | refine below_set ?_ (IsS39.ge HI0.out) | refine below_set ?_ GE324.out | refine below_set ?_ GE334.out) | exact HB.out)) HL.out hb)
        have n4_ := am (KeepBut.trans (by repeat (first | (with_reducible first | exact HK.out | apply KeepBut.set_ | apply keep_drewN | apply keep_drew | apply keep_alloc | refine keep_far ?_ GW324.out _ | refine keep_far ?_ GW334.out _) | exact HK.out)) (KeepBut.of_grown hg g) (Kd.R_base2 HO_335004.out))
        have n5_ := am (ho)
        clear BK324 BK334 HI0 HB HK HO_335004 HO341
        have BK324 := n0_
        have BK334 := n1_
        have HI0 := n2_
        have HB := n3_
        have HK := n4_
        have HO345 := n5_
        clear n0_ n1_ n2_ n3_ n4_ n5_
        clear ho hb hg hat
        obtain ⟨Ao33, co33, eo33⟩ := Kd.R_slice HO345.out
        (first | subst eo33 | (injection eo33 with f1_ f2_ f3_; have f4_ := f1_.symm; have f5_ := f3_.symm; clear f1_ f2_ f3_; subst f4_; subst f5_))
        refine hK.out _ _ ⟨(blk_cell BK334.out 0).trans rfl, (blk_cell BK334.out 1).trans rfl, (blk_cell BK334.out 2).trans rfl, (blk_cell BK334.out 3).trans rfl, (blk_cell BK334.out 4).trans rfl⟩ (fun hHeld => ?_)
        clear hK K
        refine norm_ (a' := ?_) ?_ ?_
        rotate_left
        ·show Act.put _ (some 46) _ = _
         simp only [Act.put, List.setIfInBounds_toArray, List.set_cons_zero, List.set_cons_succ, i64_w, i32_w]
         rfl
        refine pure_ (i := 9) (N := some 47) (v := ?_) (a' := ?_) #[true, true, true, true, true, true, true, true, true, true, false] rfl rfl (any_of HT_.out (by kernel_rfl)) (fun _ _ _ h => h) (Or.inl ⟨by rfl, ?_⟩) ?_ ?_
        rotate_left
        ·intro w'
         go_simp
         with_reducible rfl
        rotate_left
        ·simp only [Act.put, List.setIfInBounds_toArray, List.set_cons_zero, List.set_cons_succ, i64_w, i32_w]
         rfl
        refine last_ (i := 10) (N := none) #[true, true, true, true, true, true, true, true, true, true, true] rfl rfl (one_of HT_.out (by kernel_rfl)) (by decide) (fun K hK => ?_)
        have hs34 : w31.cell? ⟨gb334, 4, none⟩ = some (u335004) := (blk_cell BK334.out 4).trans rfl
        have hfs34 := blk_frozen BK334.out 4
        have hns34_0 := NB324_334.out
        have hms34_0 := NB334_324.out
        refine skip_ (w1 := ?_) (by rfl) rfl ?_ ?_
        rotate_left
        ·go_simp
         rfl
        refine hK.out _ _ ?_
        clear hK K
        refine done_ (done_of HT_.out (by kernel_rfl)) ?_
        have n0_ : Aside0 (Kd.R k28 28 (w31.setCell ⟨gb334, 4, none⟩ (.slice Ao33 y343.length co33)) w.heap.size (fun k_ => k_ ≠ gb324 ∧ k_ ≠ gb334) (.slice Ao33 y343.length co33) y343) := ⟨by exact zR <| Kd.R_mono (Kd.R_far (p := ⟨gb334, 4, none⟩) (Kd.R_mono HO345.out (fun k_ hk => (⟨hk, hk.2⟩ : _ ∧ k_ ≠ gb334))) (fun _ hk => hk.2) (.slice Ao33 y343.length co33)) (fun _ hk => ⟨hk.1.1, hk.1.2⟩)⟩
        have n1_ : Aside0 ((w31.setCell ⟨gb334, 4, none⟩ (.slice Ao33 y343.length co33)).heap[gb324]? = some (.cells #[.int .i64 0, .string (⟨#[]⟩ : ByteArray), .int .i64 0, .int .i64 0, .slice none 0 0] 28 (0, 0))) := ⟨by refine blk_far ?_ NB324_334.out _; exact zB <| BK324.out⟩
        have n2_ : Aside0 ((w31.setCell ⟨gb334, 4, none⟩ (.slice Ao33 y343.length co33)).heap[gb334]? = some (.cells #[.int .i64 (wrap64 (1 + t332)), .string (⟨#[]⟩ : ByteArray), .int .i64 0, .int .i64 0, .slice Ao33 y343.length co33] 28 (0, 0))) := ⟨by refine blk_put (cs := #[.int .i64 (wrap64 (1 + t332)), .string (⟨#[]⟩ : ByteArray), .int .i64 0, .int .i64 0, u335004]) ?_ 4 _ rfl; exact zB <| BK334.out⟩
        have n3_ : Aside0 (IsS39 w0 (w31.setCell ⟨gb334, 4, none⟩ (.slice Ao33 y343.length co33)) g s0_0 t342) := ⟨by repeat (first | (with_reducible first | exact HI0.out | apply IsS39.alloc | apply IsS39.drewN | apply IsS39.drew | apply IsS39.set_1 | refine IsS39.far ?_ NB0_324.out _ | refine IsS39.far ?_ NB0_334.out _) | exact HI0.out)⟩
        have n4_ : Aside0 (KeepBut w (w31.setCell ⟨gb334, 4, none⟩ (.slice Ao33 y343.length co33)) g none) := ⟨by repeat (first | (with_reducible first | exact HK.out | apply KeepBut.set_ | apply keep_drewN | apply keep_drew | apply keep_alloc | refine keep_far ?_ GW324.out _ | refine keep_far ?_ GW334.out _) | exact HK.out)⟩
        have n5_ : Aside0 (Below w0.heap.size w0 (w31.setCell ⟨gb334, 4, none⟩ (.slice Ao33 y343.length co33))) := ⟨by repeat (first | (with_reducible first | exact HB.out | apply ba | apply bd | apply be | refine below_set ?_ (IsS39.ge HI0.out) | refine below_set ?_ GE324.out | refine below_set ?_ GE334.out) | exact HB.out)⟩
        (try clear HO345)
        (try clear BK324)
        (try clear BK334)
        (try clear HI0)
        (try clear HK)
        (try clear HB)
        generalize (w31.setCell ⟨gb334, 4, none⟩ (.slice Ao33 y343.length co33)) = w35 at n0_ n1_ n2_ n3_ n4_ n5_ ⊢
        have HO345 := n0_
        have BK324 := n1_
        have BK334 := n2_
        have HI0 := n3_
        have HK := n4_
        have HB := n5_
        clear n0_ n1_ n2_ n3_ n4_ n5_
        try go_wp2
        go_roundg k2
        case measure => have := HJ3.out; have := HK2.out; omega
        case rel => exact ⟨(wrap64 (x9_2 + 1)), (t342), (y343), (.slice Ao33 y343.length co33), (by first | rfl | (simp; done) | (simp [*]; done)), H', ⟨by have := HJ3.out; have := HK2.out; omega⟩, ⟨by exact zR HO345.out⟩, ⟨by exact zB <| BK324.out⟩, ⟨by exact zB <| BK334.out⟩, ⟨by repeat (first | (with_reducible first | exact HI0.out | apply IsS39.alloc | apply IsS39.drewN | apply IsS39.drew | apply IsS39.set_1 | refine IsS39.far ?_ NB0_324.out _ | refine IsS39.far ?_ NB0_334.out _) | exact HI0.out)⟩, ⟨by repeat (first | (with_reducible first | exact HK.out | apply KeepBut.set_ | apply keep_drewN | apply keep_drew | apply keep_alloc | refine keep_far ?_ GW324.out _ | refine keep_far ?_ GW334.out _) | exact HK.out)⟩, ⟨by repeat (first | (with_reducible first | exact HB.out | apply ba | apply bd | apply be | refine below_set ?_ (IsS39.ge HI0.out) | refine below_set ?_ GE324.out | refine below_set ?_ GE334.out) | exact HB.out)⟩⟩
       ·rw [if_neg c28] at H
        exact absurd H (by simp)
      ·rw [if_neg c26] at H
       have c26b0 : decide (x9_2 < (wrap64 (1 + t330))) = false := decide_eq_false c26
       clear c26
       simp only [Option.some.injEq, Prod.mk.injEq] at H
       obtain ⟨rfl, rfl, rfl, rfl, rfl, rfl⟩ := H
       have hnb36 := NB334_324.out
       have hnc36 := NB324_334.out
       have hnb37 := NB334_0.out
       have hnc37 := NB0_334.out
       obtain ⟨hcz38_0, hcz38_1, hcz38_2, hcz38_3, hcz38_4, hfz38_0, hfz38_1, hfz38_2, hfz38_3, hfz38_4⟩ := b5 BK334.out
       have hnb39 := NB324_0.out
       have hnc39 := NB0_324.out
       obtain ⟨hcz40_0, hcz40_1, hcz40_2, hcz40_3, hcz40_4, hfz40_0, hfz40_1, hfz40_2, hfz40_3, hfz40_4⟩ := b5 BK324.out
       obtain ⟨Ao41, co41, eo41⟩ := Kd.R_slice HO_335004.out
       subst eo41
       go_wp2_with (first | ((with_reducible refine gate_store (t := 28) (p := 6) rfl ?_); refine store_event (t := 28) (p := 6) (v := ?vo_w42) (w1 := (((((wr.setCell ⟨gb324, 0, none⟩ (.int .i64 (wrap64 (1 + t332)))).setCell ⟨gb324, 1, none⟩ (.string (⟨#[]⟩ : ByteArray))).setCell ⟨gb324, 2, none⟩ (.int .i64 0)).setCell ⟨gb324, 3, none⟩ (.int .i64 0)).setCell ⟨gb324, 4, none⟩ (.slice Ao41 x335004_2.length co41))) ?hg ?ho ?hn ?hr ?_; (case ho => rfl); (case hg => rfl); (case hn => rfl); (case hr => first | (go_simp; done) | (go_simp; rfl)); intro w42 hw; have n0_ : Aside0 (Kd.R k28 28 w42 w.heap.size (fun k_ => k_ ≠ gb324 ∧ k_ ≠ gb334) (.slice Ao41 x335004_2.length co41) x335004_2) := ⟨(by rw [hw]; exact (by exact zR <| Kd.R_mono (Kd.R_far (p := ⟨gb324, 4, none⟩) (Kd.R_far (p := ⟨gb324, 3, none⟩) (Kd.R_far (p := ⟨gb324, 2, none⟩) (Kd.R_far (p := ⟨gb324, 1, none⟩) (Kd.R_far (p := ⟨gb324, 0, none⟩) (Kd.R_mono HO_335004.out (fun k_ hk => (⟨hk, hk.1⟩ : _ ∧ k_ ≠ gb324))) (fun _ hk => hk.2) (.int .i64 (wrap64 (1 + t332)))) (fun _ hk => hk.2) (.string (⟨#[]⟩ : ByteArray))) (fun _ hk => hk.2) (.int .i64 0)) (fun _ hk => hk.2) (.int .i64 0)) (fun _ hk => hk.2) (.slice Ao41 x335004_2.length co41)) (fun _ hk => ⟨hk.1.1, hk.1.2⟩)))⟩; have n1_ : Aside0 (w42.heap[gb324]? = some (.cells #[.int .i64 (wrap64 (1 + t332)), .string (⟨#[]⟩ : ByteArray), .int .i64 0, .int .i64 0, .slice Ao41 x335004_2.length co41] 28 (0, 0))) := ⟨(by rw [hw]; exact (by refine blk_put (cs := #[.int .i64 (wrap64 (1 + t332)), .string (⟨#[]⟩ : ByteArray), .int .i64 0, .int .i64 0, .slice none 0 0]) ?_ 4 _ rfl; refine blk_put (cs := #[.int .i64 (wrap64 (1 + t332)), .string (⟨#[]⟩ : ByteArray), .int .i64 0, .int .i64 0, .slice none 0 0]) ?_ 3 _ rfl; refine blk_put (cs := #[.int .i64 (wrap64 (1 + t332)), .string (⟨#[]⟩ : ByteArray), .int .i64 0, .int .i64 0, .slice none 0 0]) ?_ 2 _ rfl; refine blk_put (cs := #[.int .i64 (wrap64 (1 + t332)), .string (⟨#[]⟩ : ByteArray), .int .i64 0, .int .i64 0, .slice none 0 0]) ?_ 1 _ rfl; refine blk_put (cs := #[.int .i64 0, .string (⟨#[]⟩ : ByteArray), .int .i64 0, .int .i64 0, .slice none 0 0]) ?_ 0 _ rfl; exact zB <| BK324.out))⟩; have n2_ : Aside0 (w42.heap[gb334]? = some (.cells #[.int .i64 (wrap64 (1 + t332)), .string (⟨#[]⟩ : ByteArray), .int .i64 0, .int .i64 0, .slice Ao41 x335004_2.length co41] 28 (0, 0))) := ⟨(by rw [hw]; exact (by refine blk_far ?_ NB334_324.out _; refine blk_far ?_ NB334_324.out _; refine blk_far ?_ NB334_324.out _; refine blk_far ?_ NB334_324.out _; refine blk_far ?_ NB334_324.out _; exact zB <| BK334.out))⟩; have n3_ : Aside0 (IsS39 w0 w42 g s0_0 x1001_2) := ⟨(by rw [hw]; exact (by repeat (first | (with_reducible first | exact HI0.out | apply IsS39.alloc | apply IsS39.drewN | apply IsS39.drew | apply IsS39.set_1 | refine IsS39.far ?_ NB0_324.out _ | refine IsS39.far ?_ NB0_334.out _) | exact HI0.out)))⟩; have n4_ : Aside0 (KeepBut w w42 g none) := ⟨(by rw [hw]; exact (by repeat (first | (with_reducible first | exact HK.out | apply KeepBut.set_ | apply keep_drewN | apply keep_drew | apply keep_alloc | refine keep_far ?_ GW324.out _ | refine keep_far ?_ GW334.out _) | exact HK.out)))⟩; have n5_ : Aside0 (Below w0.heap.size w0 w42) := ⟨(by rw [hw]; exact (by repeat (first | (with_reducible first | exact HB.out | apply ba | apply bd | apply be | refine below_set ?_ (IsS39.ge HI0.out) | refine below_set ?_ GE324.out | refine below_set ?_ GE334.out) | exact HB.out)))⟩; clear hw HO_335004 BK324 BK334 HI0 HK HB; have HO_335004 := n0_; have BK324 := n1_; have BK334 := n2_; have HI0 := n3_; have HK := n4_; have HB := n5_; clear n0_ n1_ n2_ n3_ n4_ n5_))
       refine bodyPost_ret (results_cell_row rfl _ _ gb324 28 #[.int .i64 (wrap64 (1 + t332)), .string (⟨#[]⟩ : ByteArray), .int .i64 0, .int .i64 0, .slice Ao41 x335004_2.length co41] (0, 0) _ rfl (zB BK324.out) Try.underlying28 rfl (by kernel_rfl)) rfl ?_
       exact ⟨_, by first | rfl | (simp [errW_none, errW_some] <;> rfl) | (simp [*, errW_none, errW_some] <;> rfl), by exact zR <| Kd.R_mono HO_335004.out (fun _ hk => trivial), by repeat (first | (with_reducible first | exact HI0.out | apply IsS39.alloc | apply IsS39.drewN | apply IsS39.drew | apply IsS39.set_1 | refine IsS39.far ?_ NB0_324.out _ | refine IsS39.far ?_ NB0_334.out _) | exact HI0.out), by repeat (first | (with_reducible first | exact HB.out | apply ba | apply bd | apply be | refine below_set ?_ (IsS39.ge HI0.out) | refine below_set ?_ GE324.out | refine below_set ?_ GE334.out) | exact HB.out), by repeat (first | (with_reducible first | exact HK.out | apply KeepBut.set_ | apply keep_drewN | apply keep_drew | apply keep_alloc | refine keep_far ?_ GW324.out _ | refine keep_far ?_ GW334.out _) | exact HK.out)⟩

end Go.Proofs.Ytefbcebpokoinaa.Y
