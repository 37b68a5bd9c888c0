-- Laid by a program of this session's (xprint.py, which runs the kit's print.py with patches of its own). Lean checks it.
import Derived.Test.YtefbcebpokoinaaY0
namespace Go.Proofs.Ytefbcebpokoinaa.Y
open Go.RowKit Go.Proofs.YtefbcebpokoinaaW.PrintWords Go.Proofs.YtefbcebpokoinaaW.PrintLast Go.Proofs.YtefbcebpokoinaaW.PrintMore
attribute [local go_sem] max2_int min2_int max_two min_two max_three min_three max_four min_four   -- for this text's walks alone
set_option linter.unusedVariables false
set_option linter.unusedSimpArgs false

/-- A state of type 3 at block g of W; what its slices lead to came in by w0. -/
def IsS3 (w0 W : World) (g : Nat) (f0 : Int) : Prop := W.heap[g]? = some (.cells #[.int .i64 f0] 3 (0, 0)) ∧ w0.heap.size ≤ g
theorem IsS3.grown {w0 W : World} {g : Nat} {f0 : Int} {W1 : World} {row : Option Nat} (h : IsS3 w0 W g f0) (hw : W.grownBy W1 row) (hne : some g ≠ row) : IsS3 w0 W1 g f0 := by
 obtain ⟨hb, hg⟩ := h
 exact ⟨blk_grown hb hw hne, hg⟩
theorem IsS3.own_neN {w0 W : World} {g : Nat} {f0 : Int} {α : Type} {d : Kd α} {e : Nat} {base : Nat} {ok : Nat → Prop} {v : Value} {xs : List α} (h : IsS3 w0 W g f0) (ho : Kd.N d e W base ok v xs) (ht : e ≠ 3) : some g ≠ v.ownBlock := by
 obtain ⟨hb, hg⟩ := h
 exact Kd.N_ne ho hb ht
theorem IsS3.fresh {w0 W : World} {g : Nat} {f0 : Int} (h : IsS3 w0 W g f0) : ∀ k, W.heap.size ≤ k → k ≠ g := by
 obtain ⟨hb, hg⟩ := h
 exact Kd.freshB hb
theorem IsS3.kept {w0 W : World} {g : Nat} {f0 : Int} {W1 : World} {S : Nat → Prop} (h : IsS3 w0 W g f0) (hk : Kept W W1 S) (hne : ¬ S g) : IsS3 w0 W1 g f0 := by
 obtain ⟨hb, hg⟩ := h
 exact ⟨blk_kept hb hk hne, hg⟩
theorem IsS3.below {w0 W : World} {g : Nat} {f0 : Int} {W1 : World} (h : IsS3 w0 W g f0) (hw : Below W.heap.size W W1) : IsS3 w0 W1 g f0 := h.grown (grown_of_below hw none) (by simp)
theorem IsS3.alloc {w0 W : World} {g : Nat} {f0 : Int} (h : IsS3 w0 W g f0) (o : Obj) : IsS3 w0 (W.alloc o) g f0 := h.below (below_alloc (Below.refl _ _) o)
theorem IsS3.drewN {w0 W : World} {g : Nat} {f0 : Int} (h : IsS3 w0 W g f0) (m : Nat) : IsS3 w0 (W.drewN m) g f0 := h
theorem IsS3.drew {w0 W : World} {g : Nat} {f0 : Int} (h : IsS3 w0 W g f0) : IsS3 w0 W.drew g f0 := h
theorem IsS3.at_ {w0 W : World} {g : Nat} {f0 : Int} {w' : World} {m : Nat} (hq : W.drewN m = w') (h : IsS3 w0 W g f0) : IsS3 w0 w' g f0 := by subst hq; exact IsS3.drewN h m
theorem IsS3.apart {w0 W : World} {g : Nat} {f0 : Int} {α : Type} {d : Kd α} {e : Nat} {base : Nat} {ok : Nat → Prop} {v : Value} {xs : List α} (h : IsS3 w0 W g f0) (ho : d.R e W base ok v xs) (ht : ∀ q, q ∈ e :: d.E → q ≠ 3) : d.R e W base (fun k => ok k ∧ k ≠ g) v xs := by
 obtain ⟨hb, hg⟩ := h
 exact Kd.R_types ho hb ht
theorem IsS3.own_ne {w0 W : World} {g : Nat} {f0 : Int} {α : Type} {d : Kd α} {e : Nat} {base : Nat} {ok : Nat → Prop} {v : Value} {xs : List α} (h : IsS3 w0 W g f0) (ho : d.R e W base ok v xs) (ht : e ≠ 3) : some g ≠ v.ownBlock := by
 obtain ⟨hb, hg⟩ := h
 exact Kd.R_ne ho hb ht
theorem IsS3.apartQ {w0 W : World} {g : Nat} {f0 : Int} {α : Type} {d : Kd α} {e : Nat} {base : Nat} {ok : Nat → Prop} {v : Value} {xs : List α} (h : IsS3 w0 W g f0) (ho : d.Q e W base ok v xs) (ht : ∀ q, q ∈ e :: d.E → q ≠ 3) : d.Q e W base (fun k => ok k ∧ k ≠ g) v xs := by
 obtain ⟨hb, hg⟩ := h
 exact Kd.Q_types ho hb ht
theorem IsS3.own_neQ {w0 W : World} {g : Nat} {f0 : Int} {α : Type} {d : Kd α} {e : Nat} {base : Nat} {ok : Nat → Prop} {v : Value} {xs : List α} (h : IsS3 w0 W g f0) (ho : d.Q e W base ok v xs) (ht : e ≠ 3) : some g ≠ v.ownBlock := by
 obtain ⟨hb, hg⟩ := h
 exact Kd.Q_ne ho hb ht
theorem IsS3.apartS {w0 W : World} {g : Nat} {f0 : Int} {α : Type} {d : Kd α} {e : Nat} {base : Nat} {ok : Nat → Prop} {v : Value} {xs : List α} (h : IsS3 w0 W g f0) (ho : d.S e W base ok v xs) (ht : ∀ q, q ∈ e :: d.E → q ≠ 3) : d.S e W base (fun k => ok k ∧ k ≠ g) v xs := by
 obtain ⟨hb, hg⟩ := h
 exact Kd.S_types ho hb ht
theorem IsS3.own_neS {w0 W : World} {g : Nat} {f0 : Int} {α : Type} {d : Kd α} {e : Nat} {base : Nat} {ok : Nat → Prop} {v : Value} {xs : List α} (h : IsS3 w0 W g f0) (ho : d.S e W base ok v xs) (ht : e ≠ 3) : some g ≠ v.ownBlock := by
 obtain ⟨hb, hg⟩ := h
 exact Kd.S_ne ho hb ht
theorem IsS3.lt {w0 W : World} {g : Nat} {f0 : Int} (h : IsS3 w0 W g f0) : g < W.heap.size := by
 obtain ⟨hb, hg⟩ := h
 exact blk_lt hb
theorem IsS3.ge {w0 W : World} {g : Nat} {f0 : Int} (h : IsS3 w0 W g f0) : w0.heap.size ≤ g := by
 obtain ⟨hb, hg⟩ := h
 exact hg
theorem IsS3.ne_blk {w0 W : World} {g : Nat} {f0 : Int} {a : Nat} {cs : Array Value} {t : TypeId} {fr : Nat × Nat} (h : IsS3 w0 W g f0) (hb2 : W.heap[a]? = some (.cells cs t fr)) (ht : t ≠ 3) : g ≠ a := by
 obtain ⟨hb, hg⟩ := h
 rintro rfl
 rw [hb] at hb2
 injection hb2 with hb2
 injection hb2 with _ ht2
 exact ht ht2.symm
theorem IsS3.far {w0 W : World} {g : Nat} {f0 : Int} {p : Addr} (h : IsS3 w0 W g f0) (hne : g ≠ p.block) (u : Value) : IsS3 w0 (W.setCell p u) g f0 := by
 obtain ⟨hb, hg⟩ := h
 exact ⟨blk_far hb hne u, hg⟩
theorem cellS3_0 {W : World} {g : Nat} {f0 : Int} (h : W.heap[g]? = some (.cells #[.int .i64 f0] 3 (0, 0))) : W.cell? ⟨g, 0, none⟩ = some (.int .i64 f0) := (blk_cell h 0).trans rfl
theorem IsS3.set_0 {w0 W : World} {g : Nat} {f0 : Int} (h : IsS3 w0 W g f0) (x : Int) : IsS3 w0 (W.setCell ⟨g, 0, none⟩ (.int .i64 x)) g x := by
 obtain ⟨hb, hg⟩ := h
 exact ⟨by simpa using blk_set hb 0 (.int .i64 x), hg⟩
theorem IsS3.new (w0 W : World) (f0 : Int) (hB : Below w0.heap.size w0 W) : IsS3 w0 (W.alloc (.cells #[.int .i64 f0] 3)) W.heap.size f0 := ⟨by simpa using heap_alloc_new W _, hB.size⟩

/-! ### request_size: function 54 -/
mutual
def request_size.j0 : Nat → Int → Bool → Int → Int → ByteArray → Int → Int → List (S28) → Option (Int × Bool × Int)
 | 0, _, _, _, _, _, _, _, _ => none
 | k + 1, x1, x25, x3000, x102000, x102001, x102002, x102003, x102004 => if x25 = true then (some (0, false, x3000)) else (request_size.l0 k x1 0 x102004 (x102004.length : Int) 0 x3000)
def request_size.l0 : Nat → Int → Int → List (S28) → Int → Int → Int → Option (Int × Bool × Int)
 | 0, _, _, _, _, _, _ => none
 | k + 1, x1, x8, x27, x28, x29, x3000 => if x29 < x28 then (if 0 ≤ x29 then (if x29 < (x27.length : Int) then ((request_size.f k ((rd_T28 x27 x29).f0) ((rd_T28 x27 x29).f1.f0) ((rd_T28 x27 x29).f1.f1.f0) ((rd_T28 x27 x29).f1.f1.f1) ((rd_T28 x27 x29).f2) (wrap64 (x1 + 1)) x3000).bind fun bt104 => (if bt104.2.1 = true then (request_size.l0 k x1 (mx x8 bt104.1) x27 x28 (wrap64 (x29 + 1)) bt104.2.2) else (some (0, false, bt104.2.2)))) else (none)) else (none)) else (some (wrap64 (x8 + 1), true, x3000))
def request_size.f : Nat → Int → ByteArray → Int → Int → List (S28) → Int → Int → Option (Int × Bool × Int)
 | 0, _, _, _, _, _, _, _ => none
 | k + 1, a0_0, a0_1, a0_2, a0_3, l0_4, a1, s2_0 => if a1 > 4 then (request_size.j0 k a1 true (wrap64 (s2_0 + 1)) a0_0 a0_1 a0_2 a0_3 l0_4) else (request_size.j0 k a1 (decide ((wrap64 (s2_0 + 1)) > 24)) (wrap64 (s2_0 + 1)) a0_0 a0_1 a0_2 a0_3 l0_4)
end
theorem request_size.mono_l : ∀ k, (∀ y0 y1 y2 y3 y4 y5 y6, LeO (request_size.f k y0 y1 y2 y3 y4 y5 y6) (request_size.f (k + 1) y0 y1 y2 y3 y4 y5 y6)) ∧ (∀ y0 y1 y2 y3 y4 y5 y6 y7, LeO (request_size.j0 k y0 y1 y2 y3 y4 y5 y6 y7) (request_size.j0 (k + 1) y0 y1 y2 y3 y4 y5 y6 y7)) ∧ (∀ y0 y1 y2 y3 y4 y5, LeO (request_size.l0 k y0 y1 y2 y3 y4 y5) (request_size.l0 (k + 1) y0 y1 y2 y3 y4 y5))
 | 0 => ⟨fun _ _ _ _ _ _ _ r h => by simp [request_size.f] at h, fun _ _ _ _ _ _ _ _ r h => by simp [request_size.j0] at h, fun _ _ _ _ _ _ r h => by simp [request_size.l0] at h⟩
 | k + 1 => by
  obtain ⟨ih0, ih1, ih2⟩ := request_size.mono_l k
  refine ⟨?_, ?_, ?_⟩
  ·intro y0 y1 y2 y3 y4 y5 y6
   unfold request_size.f
   repeat' first
   | (with_reducible exact ih0 _ _ _ _ _ _ _)
   | (with_reducible exact ih1 _ _ _ _ _ _ _ _)
   | (with_reducible exact ih2 _ _ _ _ _ _)
   | (with_reducible exact LeO.refl _)
   | (with_reducible exact LeO.none _)
   | (with_reducible refine LeO.ite ?_ ?_)
   | (with_reducible refine LeO.bind ?_ (fun _ => ?_))
   | exact ih0 _ _ _ _ _ _ _
   | exact ih1 _ _ _ _ _ _ _ _
   | exact ih2 _ _ _ _ _ _
   | exact LeO.none _
   | refine LeO.ite ?_ ?_
   | refine LeO.bind ?_ (fun _ => ?_)
  ·intro y0 y1 y2 y3 y4 y5 y6 y7
   unfold request_size.j0
   repeat' first
   | (with_reducible exact ih0 _ _ _ _ _ _ _)
   | (with_reducible exact ih1 _ _ _ _ _ _ _ _)
   | (with_reducible exact ih2 _ _ _ _ _ _)
   | (with_reducible exact LeO.refl _)
   | (with_reducible exact LeO.none _)
   | (with_reducible refine LeO.ite ?_ ?_)
   | (with_reducible refine LeO.bind ?_ (fun _ => ?_))
   | exact ih0 _ _ _ _ _ _ _
   | exact ih1 _ _ _ _ _ _ _ _
   | exact ih2 _ _ _ _ _ _
   | exact LeO.none _
   | refine LeO.ite ?_ ?_
   | refine LeO.bind ?_ (fun _ => ?_)
  ·intro y0 y1 y2 y3 y4 y5
   unfold request_size.l0
   repeat' first
   | (with_reducible exact ih0 _ _ _ _ _ _ _)
   | (with_reducible exact ih1 _ _ _ _ _ _ _ _)
   | (with_reducible exact ih2 _ _ _ _ _ _)
   | (with_reducible exact LeO.refl _)
   | (with_reducible exact LeO.none _)
   | (with_reducible refine LeO.ite ?_ ?_)
   | (with_reducible refine LeO.bind ?_ (fun _ => ?_))
   | exact ih0 _ _ _ _ _ _ _
   | exact ih1 _ _ _ _ _ _ _ _
   | exact ih2 _ _ _ _ _ _
   | exact LeO.none _
   | refine LeO.ite ?_ ?_
   | refine LeO.bind ?_ (fun _ => ?_)
theorem request_size.mono : ∀ a0 a1 a2 a3 a4 a5 a6 k, LeO (request_size.f k a0 a1 a2 a3 a4 a5 a6) (request_size.f (k + 1) a0 a1 a2 a3 a4 a5 a6) := by
 intro a0 a1 a2 a3 a4 a5 a6 k
 obtain ⟨ih0, ih1, ih2⟩ := request_size.mono_l k
 exact ih0 a0 a1 a2 a3 a4 a5 a6
set_option maxHeartbeats 8000000 in
set_option maxRecDepth 100000 in
theorem request_size.calls (k : Nat) : ∀ (a0_0 : Int) (a0_1 : ByteArray) (a0_2 : Int) (a0_3 : Int) (A0_4 : Option Addr) (c0_4 : Nat) (l0_4 : List (S28)) (a1 : Int) (g : Nat) (s2_0 : Int) (r1 : Int) (r2 : Bool) (r3 : Int) (w0 w : World) (hI : IsS3 w0 w g s2_0) (hB : Below w0.heap.size w0 w) (hr0_4 : ∀ W_, KeepBut w W_ g none → Kd.C k28 W_ A0_4 l0_4.length l0_4) (hc0_4 : l0_4.length ≤ c0_4) (h : request_size.f k a0_0 a0_1 a0_2 a0_3 l0_4 a1 s2_0 = some (r1, r2, r3)),
  Calls Try.prog 54 #[.agg #[.int .i64 a0_0, .string a0_1, .int .i64 a0_2, .int .i64 a0_3, .slice A0_4 l0_4.length c0_4], .int .i64 a1, .pointer (some ⟨g, 0, none⟩)] w fun e w' => e = .returned (.tuple #[.int .i64 r1, .bool r2]) ∧ IsS3 w0 w' g r3 ∧ Below w0.heap.size w0 w' ∧ KeepBut w w' g none := by
 induction k using Nat.strongRecOn with
 | _ k ih =>
 intro a0_0 a0_1 a0_2 a0_3 A0_4 c0_4 l0_4 a1 g s2_0 r1 r2 r3 w0 w hI hB hr0_4 hc0_4 h
 cases k with
 | zero => exact absurd h (by simp [request_size.f])
 | succ k =>
 simp only [request_size.f] at h
 have hu28 := Try.underlying28
 have HR0_4 := Aside0.mk hr0_4
 have HC0_4 := Aside0.mk hc0_4
 clear hr0_4 hc0_4
 have HI2 := Aside0.mk hI
 have HK := am (KeepBut.refl w g none)
 have HL := Aside0.mk hB.size
 clear hI
 have HW0 := Aside0.mk hB.size
 have HB := Aside0.mk hB
 clear hB
 have H : (if a1 > 4 then (request_size.j0 k a1 true (wrap64 (s2_0 + 1)) a0_0 a0_1 a0_2 a0_3 l0_4) else (request_size.j0 k a1 (decide ((wrap64 (s2_0 + 1)) > 24)) (wrap64 (s2_0 + 1)) a0_0 a0_1 a0_2 a0_3 l0_4)) = some (r1, r2, r3) := h
 clear h
 have HC4 := Aside0.mk H
 clear H
 go_enter Try.func54, Try.ntmps54
 go_upto_region 2 with (first | ((with_reducible refine gate_dst (N := 3) rfl ?_); refine box_event ?hg (N := 3) ?hd (cs := #[.int .i64 a0_0, .string a0_1, .int .i64 a0_2, .int .i64 a0_3, .slice A0_4 l0_4.length c0_4]) (t := 28) ?hr ?_; (case hd => rfl); (case hg => rfl); (case hr => first | (go_simp; done) | (go_simp; rfl)); intro gb101 hg w5 hbox hb; have n0_ := am (IsS3.below (by repeat (first | (with_reducible first | exact HI2.out | apply IsS3.alloc | apply IsS3.drewN | apply IsS3.drew | apply IsS3.set_0) | exact HI2.out)) hb); have n1_ := am (KeepBut.trans (by repeat (first | (with_reducible first | exact HK.out | apply KeepBut.set_ | apply keep_drewN | apply keep_drew | apply keep_alloc) | exact HK.out)) (KeepBut.of_below hb g none) (.inl rfl)); have n2_ := am (below_step (by repeat (first | (with_reducible first | exact HB.out | apply ba | apply bd | apply be | refine below_set ?_ (IsS3.ge HI2.out)) | exact HB.out)) hb); have n3_ := am (hbox); have n4_ := am ((by rw [hg]; exact (keep_size (w := w) (g := g) (row := none) (by repeat (first | (with_reducible first | exact HK.out | apply KeepBut.set_ | apply keep_drewN | apply keep_drew | apply keep_alloc) | exact HK.out))) : w.heap.size ≤ gb101)); have n5_ := am ((Nat.le_trans HW0.out (by rw [hg]; exact (keep_size (w := w) (g := g) (row := none) (by repeat (first | (with_reducible first | exact HK.out | apply KeepBut.set_ | apply keep_drewN | apply keep_drew | apply keep_alloc) | exact HK.out))) : w.heap.size ≤ gb101) : w0.heap.size ≤ gb101)); have n6_ := am ((by rw [hg]; exact Nat.ne_of_lt (IsS3.lt (show IsS3 w0 _ g s2_0 from by repeat (first | (with_reducible first | exact HI2.out | apply IsS3.alloc | apply IsS3.drewN | apply IsS3.drew | apply IsS3.set_0) | exact HI2.out))) : g ≠ gb101)); have n7_ := am ((by rw [hg]; exact Nat.ne_of_gt (IsS3.lt (show IsS3 w0 _ g s2_0 from by repeat (first | (with_reducible first | exact HI2.out | apply IsS3.alloc | apply IsS3.drewN | apply IsS3.drew | apply IsS3.set_0) | exact HI2.out))) : gb101 ≠ g)); clear HI2 HK HB; have HI2 := n0_; have HK := n1_; have HB := n2_; have BK101 := n3_; have GW101 := n4_; have GE101 := n5_; have NB2_101 := n6_; have NB101_2 := n7_; clear n0_ n1_ n2_ n3_ n4_ n5_ n6_ n7_; clear hb hbox hg; obtain ⟨HGz6, hgz6⟩ := HI2.out; have hcz6_0 := cellS3_0 HGz6; have hfz6_0 := blk_frozen HGz6 0; clear HGz6 hgz6))
 (try simp only [Act.put, List.setIfInBounds_toArray, List.set_cons_zero, List.set_cons_succ])
 go_cut [25] (fun v25 wc => ∃ (kq : Nat) (x25_3 : Bool), v25 = .bool x25_3 ∧ Aside0 (request_size.j0 kq a1 x25_3 (wrap64 (s2_0 + 1)) a0_0 a0_1 a0_2 a0_3 l0_4 = some (r1, r2, r3)) ∧ Aside0 (kq ≤ k) ∧ Aside0 (wc.heap[gb101]? = some (.cells #[.int .i64 a0_0, .string a0_1, .int .i64 a0_2, .int .i64 a0_3, (.slice A0_4 l0_4.length c0_4)] 28 (0, 0))) ∧ Aside0 (IsS3 w0 wc g (wrap64 (s2_0 + 1))) ∧ Aside0 (KeepBut w wc g none) ∧ Aside0 (Below w0.heap.size w0 wc))
 case first =>
  have H := HC4.out
  clear HC4
  by_cases c7 : a1 > 4
  ·rw [if_pos c7] at H
   have c7b0 : decide (4 < a1) = true := decide_eq_true c7
   clear c7
   (first | rw [c7b0] | (simp only [i64_w, i32_w]; rw [c7b0]) | skip)
   have H' := Aside0.mk H
   clear H
   go_wp2
   go_meet
   case rel => exact ⟨_, (true), (by first | rfl | (simp; done) | (simp [*]; done)), H', ⟨by first | omega | exact Nat.le_refl _⟩, ⟨by refine blk_far ?_ NB101_2.out _; exact zB <| BK101.out⟩, ⟨by repeat (first | (with_reducible first | exact HI2.out | apply IsS3.alloc | apply IsS3.drewN | apply IsS3.drew | apply IsS3.set_0 | refine IsS3.far ?_ NB2_101.out _) | exact HI2.out)⟩, ⟨by repeat (first | (with_reducible first | exact HK.out | apply KeepBut.set_ | apply keep_drewN | apply keep_drew | apply keep_alloc | refine keep_far ?_ GW101.out _) | exact HK.out)⟩, ⟨by repeat (first | (with_reducible first | exact HB.out | apply ba | apply bd | apply be | refine below_set ?_ (IsS3.ge HI2.out) | refine below_set ?_ GE101.out) | exact HB.out)⟩⟩
  ·rw [if_neg c7] at H
   have c7b0 : decide (4 < a1) = false := decide_eq_false c7
   clear c7
   (first | rw [c7b0] | (simp only [i64_w, i32_w]; rw [c7b0]) | skip)
   have H' := Aside0.mk H
   clear H
   obtain ⟨HGz8, hgz8⟩ := HI2.out
   have hcz8_0 := cellS3_0 HGz8
   have hfz8_0 := blk_frozen HGz8 0
   clear HGz8 hgz8
   go_wp2
   go_meet
   case rel => exact ⟨_, (decide ((wrap64 (s2_0 + 1)) > 24)), (by first | rfl | (simp; done) | (simp [*]; done)), H', ⟨by first | omega | exact Nat.le_refl _⟩, ⟨by refine blk_far ?_ NB101_2.out _; exact zB <| BK101.out⟩, ⟨by repeat (first | (with_reducible first | exact HI2.out | apply IsS3.alloc | apply IsS3.drewN | apply IsS3.drew | apply IsS3.set_0 | refine IsS3.far ?_ NB2_101.out _) | exact HI2.out)⟩, ⟨by repeat (first | (with_reducible first | exact HK.out | apply KeepBut.set_ | apply keep_drewN | apply keep_drew | apply keep_alloc | refine keep_far ?_ GW101.out _) | exact HK.out)⟩, ⟨by repeat (first | (with_reducible first | exact HB.out | apply ba | apply bd | apply be | refine below_set ?_ (IsS3.ge HI2.out) | refine below_set ?_ GE101.out) | exact HB.out)⟩⟩
 case rest =>
  clear HC4
  try clear p2
  try clear c5
  try clear p6
  try clear c7
  try clear c7b0
  try clear hcz6_0
  try clear hcz8_0
  try clear hfz6_0
  try clear hfz8_0
  obtain ⟨kq, x25_3, rfl, HA, HJ3, BK101, HI2, HK, HB⟩ := hcut
  cases kq with
  | zero => exact absurd HA.out (by simp [request_size.j0])
  | succ kj3 =>
   have H := HA.out
   clear HA
   simp only [request_size.j0] at H
   by_cases c9 : x25_3 = true
   ·subst c9
    have H1 : (some (0, false, (wrap64 (s2_0 + 1)))) = some (r1, r2, r3) := by rw [if_pos rfl] at H; exact H
    clear H
    have H := H1
    clear H1
    simp only [Option.some.injEq, Prod.mk.injEq] at H
    obtain ⟨rfl, rfl, rfl⟩ := H
    go_wp2
    go_ret2
    exact ⟨by first | rfl | (simp [errW_none, errW_some] <;> rfl) | (simp [*, errW_none, errW_some] <;> rfl), by repeat (first | (with_reducible first | exact HI2.out | apply IsS3.alloc | apply IsS3.drewN | apply IsS3.drew | apply IsS3.set_0 | refine IsS3.far ?_ NB2_101.out _) | exact HI2.out), by repeat (first | (with_reducible first | exact HB.out | apply ba | apply bd | apply be | refine below_set ?_ (IsS3.ge HI2.out) | refine below_set ?_ GE101.out) | exact HB.out), by repeat (first | (with_reducible first | exact HK.out | apply KeepBut.set_ | apply keep_drewN | apply keep_drew | apply keep_alloc | refine keep_far ?_ GW101.out _) | exact HK.out)⟩
   ·replace c9 := Bool.eq_false_iff.mpr c9
    subst c9
    have H1 : (request_size.l0 kj3 a1 0 l0_4 (l0_4.length : Int) 0 (wrap64 (s2_0 + 1))) = some (r1, r2, r3) := by rw [if_neg (show ¬ (false = true) by decide)] at H; exact H
    clear H
    have H := H1
    clear H1
    have H' := Aside0.mk H
    clear H
    have hnb10 := NB101_2.out
    have hnc10 := NB2_101.out
    obtain ⟨hcz11_0, hcz11_1, hcz11_2, hcz11_3, hcz11_4, hfz11_0, hfz11_1, hfz11_2, hfz11_3, hfz11_4⟩ := b5 BK101.out
    go_wp2
    go_loopg [8, 29] kj3 (fun kq v8 v29 w' => ∃ (x8_2 : Int) (x29_2 : Int) (x3000_2 : Int), v8 = .int .i64 x8_2 ∧ v29 = .int .i64 x29_2 ∧ Aside0 (request_size.l0 kq a1 x8_2 l0_4 (l0_4.length : Int) x29_2 x3000_2 = some (r1, r2, r3)) ∧ Aside0 (kq ≤ kj3) ∧ Aside0 (w'.heap[gb101]? = some (.cells #[.int .i64 a0_0, .string a0_1, .int .i64 a0_2, .int .i64 a0_3, (.slice A0_4 l0_4.length c0_4)] 28 (0, 0))) ∧ Aside0 (IsS3 w0 w' g x3000_2) ∧ Aside0 (KeepBut w w' g none) ∧ Aside0 (Below w0.heap.size w0 w'))
    case atStart => exact ⟨(0), (0), ((wrap64 (s2_0 + 1))), (by first | rfl | (simp; done) | (simp [*]; done)), (by first | rfl | (simp; done) | (simp [*]; done)), H', ⟨Nat.le_refl _⟩, ⟨by exact zB <| BK101.out⟩, ⟨by repeat (first | (with_reducible first | exact HI2.out | apply IsS3.alloc | apply IsS3.drewN | apply IsS3.drew | apply IsS3.set_0 | refine IsS3.far ?_ NB2_101.out _) | exact HI2.out)⟩, ⟨by repeat (first | (with_reducible first | exact HK.out | apply KeepBut.set_ | apply keep_drewN | apply keep_drew | apply keep_alloc | refine keep_far ?_ GW101.out _) | exact HK.out)⟩, ⟨by repeat (first | (with_reducible first | exact HB.out | apply ba | apply bd | apply be | refine below_set ?_ (IsS3.ge HI2.out) | refine below_set ?_ GE101.out) | exact HB.out)⟩⟩
    case round =>
     clear H'
     try clear c1
     try clear p2
     try clear c5
     try clear p6
     try clear c7
     try clear c7b0
     try clear c9
     try clear c10
     try clear hcz11_0
     try clear hcz11_1
     try clear hcz11_2
     try clear hcz11_3
     try clear hcz11_4
     try clear hcz6_0
     try clear hcz8_0
     try clear hfz11_0
     try clear hfz11_1
     try clear hfz11_2
     try clear hfz11_3
     try clear hfz11_4
     try clear hfz6_0
     try clear hfz8_0
     try clear p2
     try clear p6
     obtain ⟨x8_2, x29_2, x3000_2, rfl, rfl, HA, HK2, BK101, HI2, HK, HB⟩ := hrel
     cases gk with
     | zero => exact absurd HA.out (by simp [request_size.l0])
     | succ k2 =>
      have H := HA.out
      clear HA
      simp only [request_size.l0] at H
      by_cases c12 : x29_2 < (l0_4.length : Int)
      ·rw [if_pos c12] at H
       have c12b0 : decide (x29_2 < (l0_4.length : Int)) = true := decide_eq_true c12
       clear c12
       by_cases c13 : 0 ≤ x29_2
       ·rw [if_pos c13] at H
        have c13b0 : decide (0 ≤ x29_2) = true := decide_eq_true c13
        clear c13
        by_cases c14 : x29_2 < (l0_4.length : Int)
        ·rw [if_pos c14] at H
         have c14b0 : decide (x29_2 < (l0_4.length : Int)) = true := decide_eq_true c14
         clear c14
         replace H := Option.bind_eq_some_iff.mp H
         obtain ⟨⟨t104, t105, t106⟩, A150, H⟩ := H
         replace H : (if t105 = true then (request_size.l0 k2 a1 (mx x8_2 t104) l0_4 (l0_4.length : Int) (wrap64 (x29_2 + 1)) t106) else (some (0, false, t106))) = some (r1, r2, r3) := H
         have A15 := Aside0.mk A150
         clear A150
         by_cases c16 : t105 = true
         ·subst c16
          have H1 : (request_size.l0 k2 a1 (mx x8_2 t104) l0_4 (l0_4.length : Int) (wrap64 (x29_2 + 1)) t106) = some (r1, r2, r3) := by rw [if_pos rfl] at H; exact H
          clear H
          have H := H1
          clear H1
          obtain ⟨ji17, hji17⟩ : ∃ j_ : Int, (mx x8_2 t104) = j_ := ⟨_, rfl⟩
          replace H : (request_size.l0 k2 a1 ji17 l0_4 (l0_4.length : Int) (wrap64 (x29_2 + 1)) t106) = some (r1, r2, r3) := by first | (rw [hji17] at H; exact H) | (simp only [hji17] at H ⊢; exact H)
          (try rw [hji17] at A15)
          have hji17_ : (if x8_2 < t104 then t104 else x8_2) = ji17 := hji17
          have H' := Aside0.mk H
          clear H
          have p102 : 0 ≤ (x29_2 : Int) := of_decide_eq_true (by first | (with_reducible assumption) | assumption)
          have q102 : x29_2 < (l0_4.length : Int) := of_decide_eq_true (by first | (with_reducible assumption) | assumption)
          obtain ⟨ad102, A102_4, c102_4, e102, hx102_0, hx102_1, hx102_2, hx102_3, hx102_4, hl102_4, hi102_4⟩ := at_T28 (Kd.C_foot_now HR0_4.out HK.out) x29_2 p102 q102
          cases e102
          have HR102_4 := am (Xw.foot_elem HR0_4.out HK.out hx102_4 (fun W_ h_ => by obtain ⟨ad_, A_4, c_4, e_, hx_0, hx_1, hx_2, hx_3, hx_4, hl_4, hi_4⟩ := at_T28 h_ x29_2 p102 q102; cases e_; exact ⟨_, _, hx_4, hi_4⟩))
          have HC102_4 := Aside0.mk hl102_4
          clear hi102_4 hl102_4
          replace p102 := eq_true p102
          replace q102 := eq_true q102
          go_wp2_with (first | ((with_reducible refine gate_dst (N := 10) rfl ?_); refine box_event ?hg (N := 10) ?hd (cs := #[.int .i64 0, .string (⟨#[]⟩ : ByteArray), .int .i64 0, .int .i64 0, .slice none 0 0]) (t := 28) ?hr ?_; (case hd => rfl); (case hg => rfl); (case hr => first | (go_simp; done) | (go_simp; rfl)); intro gb103 hg w18 hbox hb; have n0_ := am (blk_below (zB BK101.out) hb); have n1_ := am (IsS3.below (by repeat (first | (with_reducible first | exact HI2.out | apply IsS3.alloc | apply IsS3.drewN | apply IsS3.drew | apply IsS3.set_0 | refine IsS3.far ?_ NB2_101.out _) | exact HI2.out)) hb); have n2_ := am (KeepBut.trans (by repeat (first | (with_reducible first | exact HK.out | apply KeepBut.set_ | apply keep_drewN | apply keep_drew | apply keep_alloc | refine keep_far ?_ GW101.out _) | exact HK.out)) (KeepBut.of_below hb g none) (.inl rfl)); have n3_ := am (below_step (by repeat (first | (with_reducible first | exact HB.out | apply ba | apply bd | apply be | refine below_set ?_ (IsS3.ge HI2.out) | refine below_set ?_ GE101.out) | exact HB.out)) hb); have n4_ := am (hbox); have n5_ := am ((by rw [hg]; exact (keep_size (w := w) (g := g) (row := none) (by repeat (first | (with_reducible first | exact HK.out | apply KeepBut.set_ | apply keep_drewN | apply keep_drew | apply keep_alloc | refine keep_far ?_ GW101.out _) | exact HK.out))) : w.heap.size ≤ gb103)); have n6_ := am ((Nat.le_trans HW0.out (by rw [hg]; exact (keep_size (w := w) (g := g) (row := none) (by repeat (first | (with_reducible first | exact HK.out | apply KeepBut.set_ | apply keep_drewN | apply keep_drew | apply keep_alloc | refine keep_far ?_ GW101.out _) | exact HK.out))) : w.heap.size ≤ gb103) : w0.heap.size ≤ gb103)); have n7_ := am (zN hg BK101.out); have n8_ := am (zM hg BK101.out); have n9_ := am ((by rw [hg]; exact Nat.ne_of_lt (IsS3.lt (show IsS3 w0 _ g x3000_2 from by repeat (first | (with_reducible first | exact HI2.out | apply IsS3.alloc | apply IsS3.drewN | apply IsS3.drew | apply IsS3.set_0 | refine IsS3.far ?_ NB2_101.out _) | exact HI2.out))) : g ≠ gb103)); have n10_ := am ((by rw [hg]; exact Nat.ne_of_gt (IsS3.lt (show IsS3 w0 _ g x3000_2 from by repeat (first | (with_reducible first | exact HI2.out | apply IsS3.alloc | apply IsS3.drewN | apply IsS3.drew | apply IsS3.set_0 | refine IsS3.far ?_ NB2_101.out _) | exact HI2.out))) : gb103 ≠ g)); clear BK101 HI2 HK HB; have BK101 := n0_; have HI2 := n1_; have HK := n2_; have HB := n3_; have BK103 := n4_; have GW103 := n5_; have GE103 := n6_; have NB101_103 := n7_; have NB103_101 := n8_; have NB2_103 := n9_; have NB103_2 := n10_; clear n0_ n1_ n2_ n3_ n4_ n5_ n6_ n7_ n8_ n9_ n10_; clear hb hbox hg; have hnb19 := NB103_101.out; have hnc19 := NB101_103.out; have hnb20 := NB103_2.out; have hnc20 := NB2_103.out; obtain ⟨hcz21_0, hcz21_1, hcz21_2, hcz21_3, hcz21_4, hfz21_0, hfz21_1, hfz21_2, hfz21_3, hfz21_4⟩ := b5 BK103.out) | ((with_reducible refine gate_store (t := 28) (p := 10) rfl ?_); refine store_event (t := 28) (p := 10) (v := ?vo_w22) (w1 := (((((w18.setCell ⟨gb103, 0, none⟩ (.int .i64 ((rd_T28 l0_4 x29_2).f0))).setCell ⟨gb103, 1, none⟩ (.string ((rd_T28 l0_4 x29_2).f1.f0))).setCell ⟨gb103, 2, none⟩ (.int .i64 ((rd_T28 l0_4 x29_2).f1.f1.f0))).setCell ⟨gb103, 3, none⟩ (.int .i64 ((rd_T28 l0_4 x29_2).f1.f1.f1))).setCell ⟨gb103, 4, none⟩ (.slice A102_4 ((rd_T28 l0_4 x29_2).f2).length c102_4))) ?hg ?ho ?hn ?hr ?_; (case ho => rfl); (case hg => rfl); (case hn => rfl); (case hr => first | (go_simp; done) | (go_simp; rfl)); intro w22 hw; have n0_ : Aside0 (w22.heap[gb101]? = some (.cells #[.int .i64 a0_0, .string a0_1, .int .i64 a0_2, .int .i64 a0_3, .slice (some ad102) l0_4.length c0_4] 28 (0, 0))) := ⟨(by rw [hw]; exact (by refine blk_far ?_ NB101_103.out _; refine blk_far ?_ NB101_103.out _; refine blk_far ?_ NB101_103.out _; refine blk_far ?_ NB101_103.out _; refine blk_far ?_ NB101_103.out _; exact zB <| BK101.out))⟩; have n1_ : Aside0 (w22.heap[gb103]? = some (.cells #[.int .i64 ((rd_T28 l0_4 x29_2).f0), .string ((rd_T28 l0_4 x29_2).f1.f0), .int .i64 ((rd_T28 l0_4 x29_2).f1.f1.f0), .int .i64 ((rd_T28 l0_4 x29_2).f1.f1.f1), .slice A102_4 ((rd_T28 l0_4 x29_2).f2).length c102_4] 28 (0, 0))) := ⟨(by rw [hw]; exact (by refine blk_put (cs := #[.int .i64 ((rd_T28 l0_4 x29_2).f0), .string ((rd_T28 l0_4 x29_2).f1.f0), .int .i64 ((rd_T28 l0_4 x29_2).f1.f1.f0), .int .i64 ((rd_T28 l0_4 x29_2).f1.f1.f1), .slice none 0 0]) ?_ 4 _ rfl; refine blk_put (cs := #[.int .i64 ((rd_T28 l0_4 x29_2).f0), .string ((rd_T28 l0_4 x29_2).f1.f0), .int .i64 ((rd_T28 l0_4 x29_2).f1.f1.f0), .int .i64 0, .slice none 0 0]) ?_ 3 _ rfl; refine blk_put (cs := #[.int .i64 ((rd_T28 l0_4 x29_2).f0), .string ((rd_T28 l0_4 x29_2).f1.f0), .int .i64 0, .int .i64 0, .slice none 0 0]) ?_ 2 _ rfl; refine blk_put (cs := #[.int .i64 ((rd_T28 l0_4 x29_2).f0), .string (⟨#[]⟩ : ByteArray), .int .i64 0, .int .i64 0, .slice none 0 0]) ?_ 1 _ rfl; refine blk_put (cs := #[.int .i64 0, .string (⟨#[]⟩ : ByteArray), .int .i64 0, .int .i64 0, .slice none 0 0]) ?_ 0 _ rfl; exact zB <| BK103.out))⟩; have n2_ : Aside0 (IsS3 w0 w22 g x3000_2) := ⟨(by rw [hw]; exact (by repeat (first | (with_reducible first | exact HI2.out | apply IsS3.alloc | apply IsS3.drewN | apply IsS3.drew | apply IsS3.set_0 | refine IsS3.far ?_ NB2_101.out _ | refine IsS3.far ?_ NB2_103.out _) | exact HI2.out)))⟩; have n3_ : Aside0 (KeepBut w w22 g none) := ⟨(by rw [hw]; exact (by repeat (first | (with_reducible first | exact HK.out | apply KeepBut.set_ | apply keep_drewN | apply keep_drew | apply keep_alloc | refine keep_far ?_ GW101.out _ | refine keep_far ?_ GW103.out _) | exact HK.out)))⟩; have n4_ : Aside0 (Below w0.heap.size w0 w22) := ⟨(by rw [hw]; exact (by repeat (first | (with_reducible first | exact HB.out | apply ba | apply bd | apply be | refine below_set ?_ (IsS3.ge HI2.out) | refine below_set ?_ GE101.out | refine below_set ?_ GE103.out) | exact HB.out)))⟩; clear hw BK101 BK103 HI2 HK HB; have BK101 := n0_; have BK103 := n1_; have HI2 := n2_; have HK := n3_; have HB := n4_; clear n0_ n1_ n2_ n3_ n4_; obtain ⟨hcz23_0, hcz23_1, hcz23_2, hcz23_3, hcz23_4, hfz23_0, hfz23_1, hfz23_2, hfz23_3, hfz23_4⟩ := b5 BK103.out) | ((with_reducible refine gate_callee (f := 54) rfl ?_); refine goesL_ (some 38) rfl rfl Try.func54 (by kernel_rfl) rfl #[.agg #[.int .i64 ((rd_T28 l0_4 x29_2).f0), .string ((rd_T28 l0_4 x29_2).f1.f0), .int .i64 ((rd_T28 l0_4 x29_2).f1.f1.f0), .int .i64 ((rd_T28 l0_4 x29_2).f1.f1.f1), .slice A102_4 ((rd_T28 l0_4 x29_2).f2).length c102_4], .int .i64 (wrap64 (a1 + 1)), .pointer (some ⟨g, 0, none⟩)] rfl mp3 ?_; (with_reducible refine (ih k2 (by have := HJ3.out; have := HK2.out; omega) ((rd_T28 l0_4 x29_2).f0) ((rd_T28 l0_4 x29_2).f1.f0) ((rd_T28 l0_4 x29_2).f1.f1.f0) ((rd_T28 l0_4 x29_2).f1.f1.f1) _ _ ((rd_T28 l0_4 x29_2).f2) (wrap64 (a1 + 1)) g x3000_2 t104 true t106 w0 _ ?side1 ?side2 ?side3 ?side4 A15.out).mono ?_); (case side1 => repeat (first | (with_reducible first | exact HI2.out | apply IsS3.alloc | apply IsS3.drewN | apply IsS3.drew | apply IsS3.set_0 | refine IsS3.far ?_ NB2_101.out _ | refine IsS3.far ?_ NB2_103.out _) | exact HI2.out)); (case side2 => repeat (first | (with_reducible first | exact HB.out | apply ba | apply bd | apply be | refine below_set ?_ (IsS3.ge HI2.out) | refine below_set ?_ GE101.out | refine below_set ?_ GE103.out) | exact HB.out)); (case side3 => exact Kd.C_foot_step HR102_4.out (by repeat (first | (with_reducible first | exact HK.out | apply KeepBut.set_ | apply keep_drewN | apply keep_drew | apply keep_alloc | refine keep_far ?_ GW101.out _ | refine keep_far ?_ GW103.out _) | exact HK.out))); (case side4 => exact HC102_4.out); rintro e w24 ⟨rfl, hi, hb, hk⟩; refine ⟨_, rfl, ?_⟩; have n0_ := am (KeepBut.blk hk (g' := gb101) (o := .cells #[.int .i64 a0_0, .string a0_1, .int .i64 a0_2, .int .i64 a0_3, .slice (some ad102) l0_4.length c0_4] 28 (0, 0)) (zB BK101.out) NB101_2.out (by simp)); have n1_ := am (KeepBut.blk hk (g' := gb103) (o := .cells #[.int .i64 ((rd_T28 l0_4 x29_2).f0), .string ((rd_T28 l0_4 x29_2).f1.f0), .int .i64 ((rd_T28 l0_4 x29_2).f1.f1.f0), .int .i64 ((rd_T28 l0_4 x29_2).f1.f1.f1), .slice A102_4 ((rd_T28 l0_4 x29_2).f2).length c102_4] 28 (0, 0)) (zB BK103.out) NB103_2.out (by simp)); have n2_ := am (KeepBut.trans (by repeat (first | (with_reducible first | exact HK.out | apply KeepBut.set_ | apply keep_drewN | apply keep_drew | apply keep_alloc | refine keep_far ?_ GW101.out _ | refine keep_far ?_ GW103.out _) | exact HK.out)) hk (.inl rfl)); have n3_ := am (hb); have n4_ := am (hi); clear BK101 BK103 HK HB HI2; have BK101 := n0_; have BK103 := n1_; have HK := n2_; have HB := n3_; have HI2 := n4_; clear n0_ n1_ n2_ n3_ n4_; (try clear hb); (try clear hb2); (try clear hk); (try clear hi)))
          go_roundg k2
          case measure => have := HJ3.out; have := HK2.out; omega
          case rel => exact ⟨(ji17), (wrap64 (x29_2 + 1)), (t106), (by first | rfl | (simp; done) | (simp only [← hji17] <;> (first | rfl | simp)) | (simp [*]; done)), (by first | rfl | (simp; done) | (simp [*]; done)), H', ⟨by have := HJ3.out; have := HK2.out; omega⟩, ⟨by exact zB <| BK101.out⟩, ⟨by repeat (first | (with_reducible first | exact HI2.out | apply IsS3.alloc | apply IsS3.drewN | apply IsS3.drew | apply IsS3.set_0 | refine IsS3.far ?_ NB2_101.out _ | refine IsS3.far ?_ NB2_103.out _) | exact HI2.out)⟩, ⟨by repeat (first | (with_reducible first | exact HK.out | apply KeepBut.set_ | apply keep_drewN | apply keep_drew | apply keep_alloc | refine keep_far ?_ GW101.out _ | refine keep_far ?_ GW103.out _) | exact HK.out)⟩, ⟨by repeat (first | (with_reducible first | exact HB.out | apply ba | apply bd | apply be | refine below_set ?_ (IsS3.ge HI2.out) | refine below_set ?_ GE101.out | refine below_set ?_ GE103.out) | exact HB.out)⟩⟩
         ·replace c16 := Bool.eq_false_iff.mpr c16
          subst c16
          have H1 : (some (0, false, t106)) = some (r1, r2, r3) := by rw [if_neg (show ¬ (false = true) by decide)] at H; exact H
          clear H
          have H := H1
          clear H1
          simp only [Option.some.injEq, Prod.mk.injEq] at H
          obtain ⟨rfl, rfl, rfl⟩ := H
          have p102 : 0 ≤ (x29_2 : Int) := of_decide_eq_true (by first | (with_reducible assumption) | assumption)
          have q102 : x29_2 < (l0_4.length : Int) := of_decide_eq_true (by first | (with_reducible assumption) | assumption)
          obtain ⟨ad102, A102_4, c102_4, e102, hx102_0, hx102_1, hx102_2, hx102_3, hx102_4, hl102_4, hi102_4⟩ := at_T28 (Kd.C_foot_now HR0_4.out HK.out) x29_2 p102 q102
          cases e102
          have HR102_4 := am (Xw.foot_elem HR0_4.out HK.out hx102_4 (fun W_ h_ => by obtain ⟨ad_, A_4, c_4, e_, hx_0, hx_1, hx_2, hx_3, hx_4, hl_4, hi_4⟩ := at_T28 h_ x29_2 p102 q102; cases e_; exact ⟨_, _, hx_4, hi_4⟩))
          have HC102_4 := Aside0.mk hl102_4
          clear hi102_4 hl102_4
          replace p102 := eq_true p102
          replace q102 := eq_true q102
          go_wp2_with (first | ((with_reducible refine gate_dst (N := 10) rfl ?_); refine box_event ?hg (N := 10) ?hd (cs := #[.int .i64 0, .string (⟨#[]⟩ : ByteArray), .int .i64 0, .int .i64 0, .slice none 0 0]) (t := 28) ?hr ?_; (case hd => rfl); (case hg => rfl); (case hr => first | (go_simp; done) | (go_simp; rfl)); intro gb103 hg w25 hbox hb; have n0_ := am (blk_below (zB BK101.out) hb); have n1_ := am (IsS3.below (by repeat (first | (with_reducible first | exact HI2.out | apply IsS3.alloc | apply IsS3.drewN | apply IsS3.drew | apply IsS3.set_0 | refine IsS3.far ?_ NB2_101.out _) | exact HI2.out)) hb); have n2_ := am (KeepBut.trans (by repeat (first | (with_reducible first | exact HK.out | apply KeepBut.set_ | apply keep_drewN | apply keep_drew | apply keep_alloc | refine keep_far ?_ GW101.out _) | exact HK.out)) (KeepBut.of_below hb g none) (.inl rfl)); have n3_ := am (below_step (by repeat (first | (with_reducible first | exact HB.out | apply ba | apply bd | apply be | refine below_set ?_ (IsS3.ge HI2.out) | refine below_set ?_ GE101.out) | exact HB.out)) hb); have n4_ := am (hbox); have n5_ := am ((by rw [hg]; exact (keep_size (w := w) (g := g) (row := none) (by repeat (first | (with_reducible first | exact HK.out | apply KeepBut.set_ | apply keep_drewN | apply keep_drew | apply keep_alloc | refine keep_far ?_ GW101.out _) | exact HK.out))) : w.heap.size ≤ gb103)); have n6_ := am ((Nat.le_trans HW0.out (by rw [hg]; exact (keep_size (w := w) (g := g) (row := none) (by repeat (first | (with_reducible first | exact HK.out | apply KeepBut.set_ | apply keep_drewN | apply keep_drew | apply keep_alloc | refine keep_far ?_ GW101.out _) | exact HK.out))) : w.heap.size ≤ gb103) : w0.heap.size ≤ gb103)); have n7_ := am (zN hg BK101.out); have n8_ := am (zM hg BK101.out); have n9_ := am ((by rw [hg]; exact Nat.ne_of_lt (IsS3.lt (show IsS3 w0 _ g x3000_2 from by repeat (first | (with_reducible first | exact HI2.out | apply IsS3.alloc | apply IsS3.drewN | apply IsS3.drew | apply IsS3.set_0 | refine IsS3.far ?_ NB2_101.out _) | exact HI2.out))) : g ≠ gb103)); have n10_ := am ((by rw [hg]; exact Nat.ne_of_gt (IsS3.lt (show IsS3 w0 _ g x3000_2 from by repeat (first | (with_reducible first | exact HI2.out | apply IsS3.alloc | apply IsS3.drewN | apply IsS3.drew | apply IsS3.set_0 | refine IsS3.far ?_ NB2_101.out _) | exact HI2.out))) : gb103 ≠ g)); clear BK101 HI2 HK HB; have BK101 := n0_; have HI2 := n1_; have HK := n2_; have HB := n3_; have BK103 := n4_; have GW103 := n5_; have GE103 := n6_; have NB101_103 := n7_; have NB103_101 := n8_; have NB2_103 := n9_; have NB103_2 := n10_; clear n0_ n1_ n2_ n3_ n4_ n5_ n6_ n7_ n8_ n9_ n10_; clear hb hbox hg; have hnb26 := NB103_101.out; have hnc26 := NB101_103.out; have hnb27 := NB103_2.out; have hnc27 := NB2_103.out; obtain ⟨hcz28_0, hcz28_1, hcz28_2, hcz28_3, hcz28_4, hfz28_0, hfz28_1, hfz28_2, hfz28_3, hfz28_4⟩ := b5 BK103.out) | ((with_reducible refine gate_store (t := 28) (p := 10) rfl ?_); refine store_event (t := 28) (p := 10) (v := ?vo_w29) (w1 := (((((w25.setCell ⟨gb103, 0, none⟩ (.int .i64 ((rd_T28 l0_4 x29_2).f0))).setCell ⟨gb103, 1, none⟩ (.string ((rd_T28 l0_4 x29_2).f1.f0))).setCell ⟨gb103, 2, none⟩ (.int .i64 ((rd_T28 l0_4 x29_2).f1.f1.f0))).setCell ⟨gb103, 3, none⟩ (.int .i64 ((rd_T28 l0_4 x29_2).f1.f1.f1))).setCell ⟨gb103, 4, none⟩ (.slice A102_4 ((rd_T28 l0_4 x29_2).f2).length c102_4))) ?hg ?ho ?hn ?hr ?_; (case ho => rfl); (case hg => rfl); (case hn => rfl); (case hr => first | (go_simp; done) | (go_simp; rfl)); intro w29 hw; have n0_ : Aside0 (w29.heap[gb101]? = some (.cells #[.int .i64 a0_0, .string a0_1, .int .i64 a0_2, .int .i64 a0_3, .slice (some ad102) l0_4.length c0_4] 28 (0, 0))) := ⟨(by rw [hw]; exact (by refine blk_far ?_ NB101_103.out _; refine blk_far ?_ NB101_103.out _; refine blk_far ?_ NB101_103.out _; refine blk_far ?_ NB101_103.out _; refine blk_far ?_ NB101_103.out _; exact zB <| BK101.out))⟩; have n1_ : Aside0 (w29.heap[gb103]? = some (.cells #[.int .i64 ((rd_T28 l0_4 x29_2).f0), .string ((rd_T28 l0_4 x29_2).f1.f0), .int .i64 ((rd_T28 l0_4 x29_2).f1.f1.f0), .int .i64 ((rd_T28 l0_4 x29_2).f1.f1.f1), .slice A102_4 ((rd_T28 l0_4 x29_2).f2).length c102_4] 28 (0, 0))) := ⟨(by rw [hw]; exact (by refine blk_put (cs := #[.int .i64 ((rd_T28 l0_4 x29_2).f0), .string ((rd_T28 l0_4 x29_2).f1.f0), .int .i64 ((rd_T28 l0_4 x29_2).f1.f1.f0), .int .i64 ((rd_T28 l0_4 x29_2).f1.f1.f1), .slice none 0 0]) ?_ 4 _ rfl; refine blk_put (cs := #[.int .i64 ((rd_T28 l0_4 x29_2).f0), .string ((rd_T28 l0_4 x29_2).f1.f0), .int .i64 ((rd_T28 l0_4 x29_2).f1.f1.f0), .int .i64 0, .slice none 0 0]) ?_ 3 _ rfl; refine blk_put (cs := #[.int .i64 ((rd_T28 l0_4 x29_2).f0), .string ((rd_T28 l0_4 x29_2).f1.f0), .int .i64 0, .int .i64 0, .slice none 0 0]) ?_ 2 _ rfl; refine blk_put (cs := #[.int .i64 ((rd_T28 l0_4 x29_2).f0), .string (⟨#[]⟩ : ByteArray), .int .i64 0, .int .i64 0, .slice none 0 0]) ?_ 1 _ rfl; refine blk_put (cs := #[.int .i64 0, .string (⟨#[]⟩ : ByteArray), .int .i64 0, .int .i64 0, .slice none 0 0]) ?_ 0 _ rfl; exact zB <| BK103.out))⟩; have n2_ : Aside0 (IsS3 w0 w29 g x3000_2) := ⟨(by rw [hw]; exact (by repeat (first | (with_reducible first | exact HI2.out | apply IsS3.alloc | apply IsS3.drewN | apply IsS3.drew | apply IsS3.set_0 | refine IsS3.far ?_ NB2_101.out _ | refine IsS3.far ?_ NB2_103.out _) | exact HI2.out)))⟩; have n3_ : Aside0 (KeepBut w w29 g none) := ⟨(by rw [hw]; exact (by repeat (first | (with_reducible first | exact HK.out | apply KeepBut.set_ | apply keep_drewN | apply keep_drew | apply keep_alloc | refine keep_far ?_ GW101.out _ | refine keep_far ?_ GW103.out _) | exact HK.out)))⟩; have n4_ : Aside0 (Below w0.heap.size w0 w29) := ⟨(by rw [hw]; exact (by repeat (first | (with_reducible first | exact HB.out | apply ba | apply bd | apply be | refine below_set ?_ (IsS3.ge HI2.out) | refine below_set ?_ GE101.out | refine below_set ?_ GE103.out) | exact HB.out)))⟩; clear hw BK101 BK103 HI2 HK HB; have BK101 := n0_; have BK103 := n1_; have HI2 := n2_; have HK := n3_; have HB := n4_; clear n0_ n1_ n2_ n3_ n4_; obtain ⟨hcz30_0, hcz30_1, hcz30_2, hcz30_3, hcz30_4, hfz30_0, hfz30_1, hfz30_2, hfz30_3, hfz30_4⟩ := b5 BK103.out) | ((with_reducible refine gate_callee (f := 54) rfl ?_); refine goesL_ (some 38) rfl rfl Try.func54 (by kernel_rfl) rfl #[.agg #[.int .i64 ((rd_T28 l0_4 x29_2).f0), .string ((rd_T28 l0_4 x29_2).f1.f0), .int .i64 ((rd_T28 l0_4 x29_2).f1.f1.f0), .int .i64 ((rd_T28 l0_4 x29_2).f1.f1.f1), .slice A102_4 ((rd_T28 l0_4 x29_2).f2).length c102_4], .int .i64 (wrap64 (a1 + 1)), .pointer (some ⟨g, 0, none⟩)] rfl mp3 ?_; (with_reducible refine (ih k2 (by have := HJ3.out; have := HK2.out; omega) ((rd_T28 l0_4 x29_2).f0) ((rd_T28 l0_4 x29_2).f1.f0) ((rd_T28 l0_4 x29_2).f1.f1.f0) ((rd_T28 l0_4 x29_2).f1.f1.f1) _ _ ((rd_T28 l0_4 x29_2).f2) (wrap64 (a1 + 1)) g x3000_2 t104 false t106 w0 _ ?side1 ?side2 ?side3 ?side4 A15.out).mono ?_); (case side1 => repeat (first | (with_reducible first | exact HI2.out | apply IsS3.alloc | apply IsS3.drewN | apply IsS3.drew | apply IsS3.set_0 | refine IsS3.far ?_ NB2_101.out _ | refine IsS3.far ?_ NB2_103.out _) | exact HI2.out)); (case side2 => repeat (first | (with_reducible first | exact HB.out | apply ba | apply bd | apply be | refine below_set ?_ (IsS3.ge HI2.out) | refine below_set ?_ GE101.out | refine below_set ?_ GE103.out) | exact HB.out)); (case side3 => exact Kd.C_foot_step HR102_4.out (by repeat (first | (with_reducible first | exact HK.out | apply KeepBut.set_ | apply keep_drewN | apply keep_drew | apply keep_alloc | refine keep_far ?_ GW101.out _ | refine keep_far ?_ GW103.out _) | exact HK.out))); (case side4 => exact HC102_4.out); rintro e w31 ⟨rfl, hi, hb, hk⟩; refine ⟨_, rfl, ?_⟩; have n0_ := am (KeepBut.blk hk (g' := gb101) (o := .cells #[.int .i64 a0_0, .string a0_1, .int .i64 a0_2, .int .i64 a0_3, .slice (some ad102) l0_4.length c0_4] 28 (0, 0)) (zB BK101.out) NB101_2.out (by simp)); have n1_ := am (KeepBut.blk hk (g' := gb103) (o := .cells #[.int .i64 ((rd_T28 l0_4 x29_2).f0), .string ((rd_T28 l0_4 x29_2).f1.f0), .int .i64 ((rd_T28 l0_4 x29_2).f1.f1.f0), .int .i64 ((rd_T28 l0_4 x29_2).f1.f1.f1), .slice A102_4 ((rd_T28 l0_4 x29_2).f2).length c102_4] 28 (0, 0)) (zB BK103.out) NB103_2.out (by simp)); have n2_ := am (KeepBut.trans (by repeat (first | (with_reducible first | exact HK.out | apply KeepBut.set_ | apply keep_drewN | apply keep_drew | apply keep_alloc | refine keep_far ?_ GW101.out _ | refine keep_far ?_ GW103.out _) | exact HK.out)) hk (.inl rfl)); have n3_ := am (hb); have n4_ := am (hi); clear BK101 BK103 HK HB HI2; have BK101 := n0_; have BK103 := n1_; have HK := n2_; have HB := n3_; have HI2 := n4_; clear n0_ n1_ n2_ n3_ n4_; (try clear hb); (try clear hb2); (try clear hk); (try clear hi)))
          go_ret2
          exact ⟨by first | rfl | (simp [errW_none, errW_some] <;> rfl) | (simp [*, errW_none, errW_some] <;> rfl), by repeat (first | (with_reducible first | exact HI2.out | apply IsS3.alloc | apply IsS3.drewN | apply IsS3.drew | apply IsS3.set_0 | refine IsS3.far ?_ NB2_101.out _ | refine IsS3.far ?_ NB2_103.out _) | exact HI2.out), by repeat (first | (with_reducible first | exact HB.out | apply ba | apply bd | apply be | refine below_set ?_ (IsS3.ge HI2.out) | refine below_set ?_ GE101.out | refine below_set ?_ GE103.out) | exact HB.out), by repeat (first | (with_reducible first | exact HK.out | apply KeepBut.set_ | apply keep_drewN | apply keep_drew | apply keep_alloc | refine keep_far ?_ GW101.out _ | refine keep_far ?_ GW103.out _) | exact HK.out)⟩
        ·rw [if_neg c14] at H
         exact absurd H (by simp)
       ·rw [if_neg c13] at H
        exact absurd H (by simp)
      ·rw [if_neg c12] at H
       have c12b0 : decide (x29_2 < (l0_4.length : Int)) = false := decide_eq_false c12
       clear c12
       simp only [Option.some.injEq, Prod.mk.injEq] at H
       obtain ⟨rfl, rfl, rfl⟩ := H
       go_wp2
       go_ret2
       exact ⟨by first | rfl | (simp [errW_none, errW_some] <;> rfl) | (simp [*, errW_none, errW_some] <;> rfl), by repeat (first | (with_reducible first | exact HI2.out | apply IsS3.alloc | apply IsS3.drewN | apply IsS3.drew | apply IsS3.set_0 | refine IsS3.far ?_ NB2_101.out _) | exact HI2.out), by repeat (first | (with_reducible first | exact HB.out | apply ba | apply bd | apply be | refine below_set ?_ (IsS3.ge HI2.out) | refine below_set ?_ GE101.out) | exact HB.out), by repeat (first | (with_reducible first | exact HK.out | apply KeepBut.set_ | apply keep_drewN | apply keep_drew | apply keep_alloc | refine keep_far ?_ GW101.out _) | exact HK.out)⟩

/-! ### request_Nodes: function 40 -/
def request_Nodes.f (k : Nat) (a0_0 : Int) (a0_1 : ByteArray) (a0_2 : Int) (a0_3 : Int) (l0_4 : List (S28)) : Option (Int) := (request_size.f k a0_0 a0_1 a0_2 a0_3 l0_4 1 0).bind fun bt109 => (if bt109.2.1 = true then (some bt109.2.2) else (some 0))
theorem request_Nodes.mono : ∀ a0 a1 a2 a3 a4 k, LeO (request_Nodes.f k a0 a1 a2 a3 a4) (request_Nodes.f (k + 1) a0 a1 a2 a3 a4) := by
 intro a0 a1 a2 a3 a4 k
 unfold request_Nodes.f
 repeat' first
   | (with_reducible exact request_size.mono _ _ _ _ _ _ _ _)
   | (with_reducible exact LeO.refl _)
   | (with_reducible exact LeO.none _)
   | (with_reducible refine LeO.ite ?_ ?_)
   | (with_reducible refine LeO.bind ?_ (fun _ => ?_))
   | exact request_size.mono _ _ _ _ _ _ _ _
   | exact LeO.none _
   | refine LeO.ite ?_ ?_
   | refine LeO.bind ?_ (fun _ => ?_)
set_option maxHeartbeats 8000000 in
set_option maxRecDepth 100000 in
theorem request_Nodes.calls (k : Nat) (a0_0 : Int) (a0_1 : ByteArray) (a0_2 : Int) (a0_3 : Int) (A0_4 : Option Addr) (c0_4 : Nat) (l0_4 : List (S28)) (r : Int) (w : World) (hr0_4 : Kd.C k28 w A0_4 l0_4.length l0_4) (hc0_4 : l0_4.length ≤ c0_4) (h : request_Nodes.f k a0_0 a0_1 a0_2 a0_3 l0_4 = some r) :
  Calls Try.prog 40 #[.agg #[.int .i64 a0_0, .string a0_1, .int .i64 a0_2, .int .i64 a0_3, .slice A0_4 l0_4.length c0_4]] w fun e w' => e = .returned (.int .i64 r) ∧ Below w.heap.size w w' := by
 have hu28 := Try.underlying28
 have HR0_4 := Aside0.mk hr0_4
 have HC0_4 := Aside0.mk hc0_4
 clear hr0_4 hc0_4
 have HB := am (Below.refl w.heap.size w)
 have H : ((request_size.f k a0_0 a0_1 a0_2 a0_3 l0_4 1 0).bind fun bt109 => (if bt109.2.1 = true then (some bt109.2.2) else (some 0))) = some r := h
 clear h
 replace H := Option.bind_eq_some_iff.mp H
 obtain ⟨⟨t109, t110, t111⟩, A20, H⟩ := H
 replace H : (if t110 = true then (some t111) else (some 0)) = some r := H
 have A2 := Aside0.mk A20
 clear A20
 by_cases c3 : t110 = true
 ·subst c3
  have H1 : (some t111) = some r := by rw [if_pos rfl] at H; exact H
  clear H
  have H := H1
  clear H1
  obtain rfl := Option.some.inj H
  go_enter Try.func40, Try.ntmps40
  go_wp2_with (first | ((with_reducible refine gate_dst (N := 1) rfl ?_); refine box_event ?hg (N := 1) ?hd (cs := #[.int .i64 a0_0, .string a0_1, .int .i64 a0_2, .int .i64 a0_3, .slice A0_4 l0_4.length c0_4]) (t := 28) ?hr ?_; (case hd => rfl); (case hg => rfl); (case hr => first | (go_simp; done) | (go_simp; rfl)); intro gb107 hg w4 hbox hb; have n0_ := am (below_step (zL HB.out) hb); have n1_ := am (hbox); have n2_ := am (zS hg HB.out); have n3_ := am (zS hg HB.out); clear HB; have HB := n0_; have BK107 := n1_; have GW107 := n2_; have GE107 := n3_; clear n0_ n1_ n2_ n3_; clear hb hbox hg) | ((with_reducible refine gate_dst (N := 3) rfl ?_); refine box_event ?hg (N := 3) ?hd (cs := #[.int .i64 0]) (t := 3) ?hr ?_; (case hd => rfl); (case hg => rfl); (case hr => first | (go_simp; done) | (go_simp; rfl)); intro gb108 hg w5 hbox hb; have n0_ := am (blk_below (zB BK107.out) hb); have n1_ := am (below_step (zL HB.out) hb); have n2_ := am (zS hg HB.out); have n3_ := am (zS hg HB.out); have n4_ := am (zN hg BK107.out); have n5_ := am (zM hg BK107.out); have n6_ := am ((show IsS3 w _ gb108 0 from ⟨hbox, (by rw [hg]; exact (below_size (zL HB.out))), ⟩)); clear BK107 HB; have BK107 := n0_; have HB := n1_; have GW108 := n2_; have GE108 := n3_; have NB107_108 := n4_; have NB108_107 := n5_; have HI108 := n6_; clear n0_ n1_ n2_ n3_ n4_ n5_ n6_; clear hb hbox hg; obtain ⟨HGz6, hgz6⟩ := HI108.out; have hcz6_0 := cellS3_0 HGz6; have hfz6_0 := blk_frozen HGz6 0; clear HGz6 hgz6; have hnb7 := NB107_108.out; have hnc7 := NB108_107.out; obtain ⟨hcz8_0, hcz8_1, hcz8_2, hcz8_3, hcz8_4, hfz8_0, hfz8_1, hfz8_2, hfz8_3, hfz8_4⟩ := b5 BK107.out) | ((with_reducible refine gate_callee (f := 54) rfl ?_); refine goesL_ (some 8) rfl rfl Try.func54 (by kernel_rfl) rfl #[.agg #[.int .i64 a0_0, .string a0_1, .int .i64 a0_2, .int .i64 a0_3, .slice A0_4 l0_4.length c0_4], .int .i64 1, .pointer (some ⟨gb108, 0, none⟩)] rfl mp3 ?_; (with_reducible refine (request_size.calls k a0_0 a0_1 a0_2 a0_3 _ _ l0_4 1 gb108 0 t109 true t111 w _ ?side1 ?side2 ?side3 ?side4 A2.out).mono ?_); (case side1 => repeat (first | (with_reducible first | exact HI108.out | apply IsS3.alloc | apply IsS3.drewN | apply IsS3.drew | apply IsS3.set_0 | refine IsS3.far ?_ NB108_107.out _) | exact HI108.out)); (case side2 => repeat (first | (with_reducible first | exact HB.out | apply ba | apply bd | apply be | refine below_set ?_ (IsS3.ge HI108.out) | refine below_set ?_ GE107.out) | exact HB.out)); (case side3 => exact Kd.C_foot_came k28_heap HR0_4.out (by repeat (first | (with_reducible first | exact HB.out | apply ba | apply bd | apply be | refine below_set ?_ (IsS3.ge HI108.out) | refine below_set ?_ GE107.out) | exact HB.out)) (IsS3.ge HI108.out)); (case side4 => exact HC0_4.out); rintro e w9 ⟨rfl, hi, hb, hk⟩; refine ⟨_, rfl, ?_⟩; have n0_ := am (KeepBut.blk hk (g' := gb107) (o := .cells #[.int .i64 a0_0, .string a0_1, .int .i64 a0_2, .int .i64 a0_3, .slice A0_4 l0_4.length c0_4] 28 (0, 0)) (by refine blk_far ?_ NB107_108.out _; exact zB <| BK107.out) NB107_108.out (by simp)); have n1_ := am (hb); have n2_ := am (hi); clear BK107 HB HI108; have BK107 := n0_; have HB := n1_; have HI108 := n2_; clear n0_ n1_ n2_; (try clear hb); (try clear hb2); (try clear hk); (try clear hi); obtain ⟨HGz10, hgz10⟩ := HI108.out; have hcz10_0 := cellS3_0 HGz10; have hfz10_0 := blk_frozen HGz10 0; clear HGz10 hgz10))
  go_ret
  exact ⟨by first | rfl | (simp [errW_none, errW_some] <;> rfl) | (simp [*, errW_none, errW_some] <;> rfl), by repeat (first | (with_reducible first | exact HB.out | apply ba | apply bd | apply be | refine below_set ?_ (IsS3.ge HI108.out) | refine below_set ?_ GE107.out) | exact HB.out)⟩
 ·replace c3 := Bool.eq_false_iff.mpr c3
  subst c3
  have H1 : (some 0) = some r := by rw [if_neg (show ¬ (false = true) by decide)] at H; exact H
  clear H
  have H := H1
  clear H1
  obtain rfl := Option.some.inj H
  go_enter Try.func40, Try.ntmps40
  go_wp2_with (first | ((with_reducible refine gate_dst (N := 1) rfl ?_); refine box_event ?hg (N := 1) ?hd (cs := #[.int .i64 a0_0, .string a0_1, .int .i64 a0_2, .int .i64 a0_3, .slice A0_4 l0_4.length c0_4]) (t := 28) ?hr ?_; (case hd => rfl); (case hg => rfl); (case hr => first | (go_simp; done) | (go_simp; rfl)); intro gb107 hg w11 hbox hb; have n0_ := am (below_step (zL HB.out) hb); have n1_ := am (hbox); have n2_ := am (zS hg HB.out); have n3_ := am (zS hg HB.out); clear HB; have HB := n0_; have BK107 := n1_; have GW107 := n2_; have GE107 := n3_; clear n0_ n1_ n2_ n3_; clear hb hbox hg) | ((with_reducible refine gate_dst (N := 3) rfl ?_); refine box_event ?hg (N := 3) ?hd (cs := #[.int .i64 0]) (t := 3) ?hr ?_; (case hd => rfl); (case hg => rfl); (case hr => first | (go_simp; done) | (go_simp; rfl)); intro gb108 hg w12 hbox hb; have n0_ := am (blk_below (zB BK107.out) hb); have n1_ := am (below_step (zL HB.out) hb); have n2_ := am (zS hg HB.out); have n3_ := am (zS hg HB.out); have n4_ := am (zN hg BK107.out); have n5_ := am (zM hg BK107.out); have n6_ := am ((show IsS3 w _ gb108 0 from ⟨hbox, (by rw [hg]; exact (below_size (zL HB.out))), ⟩)); clear BK107 HB; have BK107 := n0_; have HB := n1_; have GW108 := n2_; have GE108 := n3_; have NB107_108 := n4_; have NB108_107 := n5_; have HI108 := n6_; clear n0_ n1_ n2_ n3_ n4_ n5_ n6_; clear hb hbox hg; obtain ⟨HGz13, hgz13⟩ := HI108.out; have hcz13_0 := cellS3_0 HGz13; have hfz13_0 := blk_frozen HGz13 0; clear HGz13 hgz13; have hnb14 := NB107_108.out; have hnc14 := NB108_107.out; obtain ⟨hcz15_0, hcz15_1, hcz15_2, hcz15_3, hcz15_4, hfz15_0, hfz15_1, hfz15_2, hfz15_3, hfz15_4⟩ := b5 BK107.out) | ((with_reducible refine gate_callee (f := 54) rfl ?_); refine goesL_ (some 8) rfl rfl Try.func54 (by kernel_rfl) rfl #[.agg #[.int .i64 a0_0, .string a0_1, .int .i64 a0_2, .int .i64 a0_3, .slice A0_4 l0_4.length c0_4], .int .i64 1, .pointer (some ⟨gb108, 0, none⟩)] rfl mp3 ?_; (with_reducible refine (request_size.calls k a0_0 a0_1 a0_2 a0_3 _ _ l0_4 1 gb108 0 t109 false t111 w _ ?side1 ?side2 ?side3 ?side4 A2.out).mono ?_); (case side1 => repeat (first | (with_reducible first | exact HI108.out | apply IsS3.alloc | apply IsS3.drewN | apply IsS3.drew | apply IsS3.set_0 | refine IsS3.far ?_ NB108_107.out _) | exact HI108.out)); (case side2 => repeat (first | (with_reducible first | exact HB.out | apply ba | apply bd | apply be | refine below_set ?_ (IsS3.ge HI108.out) | refine below_set ?_ GE107.out) | exact HB.out)); (case side3 => exact Kd.C_foot_came k28_heap HR0_4.out (by repeat (first | (with_reducible first | exact HB.out | apply ba | apply bd | apply be | refine below_set ?_ (IsS3.ge HI108.out) | refine below_set ?_ GE107.out) | exact HB.out)) (IsS3.ge HI108.out)); (case side4 => exact HC0_4.out); rintro e w16 ⟨rfl, hi, hb, hk⟩; refine ⟨_, rfl, ?_⟩; have n0_ := am (KeepBut.blk hk (g' := gb107) (o := .cells #[.int .i64 a0_0, .string a0_1, .int .i64 a0_2, .int .i64 a0_3, .slice A0_4 l0_4.length c0_4] 28 (0, 0)) (by refine blk_far ?_ NB107_108.out _; exact zB <| BK107.out) NB107_108.out (by simp)); have n1_ := am (hb); have n2_ := am (hi); clear BK107 HB HI108; have BK107 := n0_; have HB := n1_; have HI108 := n2_; clear n0_ n1_ n2_; (try clear hb); (try clear hb2); (try clear hk); (try clear hi)))
  go_ret
  exact ⟨by first | rfl | (simp [errW_none, errW_some] <;> rfl) | (simp [*, errW_none, errW_some] <;> rfl), by repeat (first | (with_reducible first | exact HB.out | apply ba | apply bd | apply be | refine below_set ?_ (IsS3.ge HI108.out) | refine below_set ?_ GE107.out) | exact HB.out)⟩

/-! ### catalog_Reserved: function 66 -/
def catalog_Reserved.f (a0 : ByteArray) : Option (Bool) := if a0.toList = ([97, 108, 108] : List UInt8) then (some true) else (if a0.toList = ([97, 110, 121] : List UInt8) then (some true) else (if a0.toList = ([111, 102] : List UInt8) then (some true) else (if a0.toList = ([112, 114, 105, 111] : List UInt8) then (some true) else (if a0.toList = ([108, 105, 109, 105, 116] : List UInt8) then (some true) else (some false)))))
set_option maxHeartbeats 8000000 in
set_option maxRecDepth 100000 in
theorem catalog_Reserved.calls (a0 : ByteArray) (r : Bool) (w : World) (h : catalog_Reserved.f a0 = some r) :
  Calls Try.prog 66 #[.string a0] w fun e w' => e = .returned (.bool r) ∧ Drawn0 w w' := by
 have H : (if a0.toList = ([97, 108, 108] : List UInt8) then (some true) else (if a0.toList = ([97, 110, 121] : List UInt8) then (some true) else (if a0.toList = ([111, 102] : List UInt8) then (some true) else (if a0.toList = ([112, 114, 105, 111] : List UInt8) then (some true) else (if a0.toList = ([108, 105, 109, 105, 116] : List UInt8) then (some true) else (some false)))))) = some r := h
 clear h
 by_cases c2 : a0.toList = ([97, 108, 108] : List UInt8)
 ·rw [if_pos c2] at H
  have c2b0 : (a0.toList == ([97, 108, 108] : List UInt8)) = true := beq_iff_eq.mpr c2
  have c2b1 : (a0.toList != ([97, 108, 108] : List UInt8)) = false := bne_eq_false_iff_eq.mpr c2
  clear c2
  obtain rfl := Option.some.inj H
  go_enter Try.func66, Try.ntmps66
  go_wp2
  go_ret
  exact ⟨by first | rfl | (simp; done) | (simp [*]; done), by repeat (first | exact Drawn0.refl _ | apply Drawn0.step)⟩
 ·rw [if_neg c2] at H
  have c2b0 : (a0.toList == ([97, 108, 108] : List UInt8)) = false := beq_eq_false_iff_ne.mpr c2
  have c2b1 : (a0.toList != ([97, 108, 108] : List UInt8)) = true := bne_iff_ne.mpr c2
  by_cases c3 : a0.toList = ([97, 110, 121] : List UInt8)
  ·rw [if_pos c3] at H
   have c3b0 : (a0.toList == ([97, 110, 121] : List UInt8)) = true := beq_iff_eq.mpr c3
   have c3b1 : (a0.toList != ([97, 110, 121] : List UInt8)) = false := bne_eq_false_iff_eq.mpr c3
   clear c3
   obtain rfl := Option.some.inj H
   go_enter Try.func66, Try.ntmps66
   go_wp2
   go_ret
   exact ⟨by first | rfl | (simp; done) | (simp [*]; done), by repeat (first | exact Drawn0.refl _ | apply Drawn0.step)⟩
  ·rw [if_neg c3] at H
   have c3b0 : (a0.toList == ([97, 110, 121] : List UInt8)) = false := beq_eq_false_iff_ne.mpr c3
   have c3b1 : (a0.toList != ([97, 110, 121] : List UInt8)) = true := bne_iff_ne.mpr c3
   by_cases c4 : a0.toList = ([111, 102] : List UInt8)
   ·rw [if_pos c4] at H
    have c4b0 : (a0.toList == ([111, 102] : List UInt8)) = true := beq_iff_eq.mpr c4
    have c4b1 : (a0.toList != ([111, 102] : List UInt8)) = false := bne_eq_false_iff_eq.mpr c4
    clear c4
    obtain rfl := Option.some.inj H
    go_enter Try.func66, Try.ntmps66
    go_wp2
    go_ret
    exact ⟨by first | rfl | (simp; done) | (simp [*]; done), by repeat (first | exact Drawn0.refl _ | apply Drawn0.step)⟩
   ·rw [if_neg c4] at H
    have c4b0 : (a0.toList == ([111, 102] : List UInt8)) = false := beq_eq_false_iff_ne.mpr c4
    have c4b1 : (a0.toList != ([111, 102] : List UInt8)) = true := bne_iff_ne.mpr c4
    by_cases c5 : a0.toList = ([112, 114, 105, 111] : List UInt8)
    ·rw [if_pos c5] at H
     have c5b0 : (a0.toList == ([112, 114, 105, 111] : List UInt8)) = true := beq_iff_eq.mpr c5
     have c5b1 : (a0.toList != ([112, 114, 105, 111] : List UInt8)) = false := bne_eq_false_iff_eq.mpr c5
     clear c5
     obtain rfl := Option.some.inj H
     go_enter Try.func66, Try.ntmps66
     go_wp2
     go_ret
     exact ⟨by first | rfl | (simp; done) | (simp [*]; done), by repeat (first | exact Drawn0.refl _ | apply Drawn0.step)⟩
    ·rw [if_neg c5] at H
     have c5b0 : (a0.toList == ([112, 114, 105, 111] : List UInt8)) = false := beq_eq_false_iff_ne.mpr c5
     have c5b1 : (a0.toList != ([112, 114, 105, 111] : List UInt8)) = true := bne_iff_ne.mpr c5
     by_cases c6 : a0.toList = ([108, 105, 109, 105, 116] : List UInt8)
     ·rw [if_pos c6] at H
      have c6b0 : (a0.toList == ([108, 105, 109, 105, 116] : List UInt8)) = true := beq_iff_eq.mpr c6
      have c6b1 : (a0.toList != ([108, 105, 109, 105, 116] : List UInt8)) = false := bne_eq_false_iff_eq.mpr c6
      clear c6
      obtain rfl := Option.some.inj H
      go_enter Try.func66, Try.ntmps66
      go_wp2
      go_ret
      exact ⟨by first | rfl | (simp; done) | (simp [*]; done), by repeat (first | exact Drawn0.refl _ | apply Drawn0.step)⟩
     ·rw [if_neg c6] at H
      have c6b0 : (a0.toList == ([108, 105, 109, 105, 116] : List UInt8)) = false := beq_eq_false_iff_ne.mpr c6
      have c6b1 : (a0.toList != ([108, 105, 109, 105, 116] : List UInt8)) = true := bne_iff_ne.mpr c6
      obtain rfl := Option.some.inj H
      go_enter Try.func66, Try.ntmps66
      go_wp2
      go_ret
      exact ⟨by first | rfl | (simp; done) | (simp [*]; done), by repeat (first | exact Drawn0.refl _ | apply Drawn0.step)⟩

end Go.Proofs.Ytefbcebpokoinaa.Y
