-- Laid by a program of this session's (xprint.py, which runs the kit's print.py with patches of its own). Lean checks it.
import Derived.Test.YtefbcebpokoinaaY0
import Derived.Test.YtefbcebpokoinaaY1
import Derived.Test.YtefbcebpokoinaaY2
import Derived.Test.YtefbcebpokoinaaY3
namespace Go.Proofs.Ytefbcebpokoinaa.Y
open Go.RowKit Go.Proofs.YtefbcebpokoinaaW.PrintWords Go.Proofs.YtefbcebpokoinaaW.PrintLast Go.Proofs.YtefbcebpokoinaaW.PrintMore
attribute [local go_sem] max2_int min2_int max_two min_two max_three min_three max_four min_four   -- for this text's walks alone
set_option linter.unusedVariables false
set_option linter.unusedSimpArgs false

attribute [local go_sem high] eqA25
/-! ### request_gather: function 41 -/
mutual
def request_gather.l0 : Nat → List S25 → Int → ByteArray → Int → Int → Option (Bool × List S25)
 | 0, _, _, _, _, _ => none
 | k + 1, x, i, a1, a2, a3 => if i < (x.length : Int) then (if 0 ≤ i then (if (((rd_T25 x i).f0).toList == a1.toList) = true then some ((((rd_T25 x i).f0).toList == a1.toList && ((((rd_T25 x i).f1.f0) == a2 && (((rd_T25 x i).f1.f1) == a3)))), x) else request_gather.l0 k x (wrap64 (i + 1)) a1 a2 a3) else none) else (if x.length < 4398046511104 then some (decide (((x ++ [(⟨a1, (⟨a2, a3⟩ : S23)⟩ : S25)]).length : Int) ≤ 8), x ++ [(⟨a1, (⟨a2, a3⟩ : S23)⟩ : S25)]) else none)
def request_gather.l1 : Nat → List S25 → List S28 → Int → Option (Bool × List S25)
 | 0, _, _, _ => none
 | k + 1, x, l, i => if i < (l.length : Int) then (if 0 ≤ i then ((request_gather.f k x ((rd_T28 l i).f0) ((rd_T28 l i).f1.f0) ((rd_T28 l i).f1.f1.f0) ((rd_T28 l i).f1.f1.f1) ((rd_T28 l i).f2)).bind fun t => if t.1 = true then request_gather.l1 k t.2 l (wrap64 (i + 1)) else some (false, t.2)) else none) else some (true, x)
def request_gather.f : Nat → List S25 → Int → ByteArray → Int → Int → List S28 → Option (Bool × List S25)
 | 0, _, _, _, _, _, _ => none
 | k + 1, x, a0, a1, a2, a3, l => if a0 = 0 then (if 0 < (l.length : Int) then some (false, x) else (catalog_ValidName.f k a1).bind fun b1 => if b1 = true then ((request_usable.f a2 a3).bind fun b2 => if b2 = true then request_gather.l0 k x 0 a1 a2 a3 else some (false, x)) else some (false, x)) else (if a0 < 1 then some (false, x) else if a0 > (l.length : Int) then some (false, x) else if (!(a1.toList == ([] : List UInt8)) || (!(a2 == 0) || !(a3 == 0))) = true then some (false, x) else request_gather.l1 k x l 0)
end
theorem request_gather.mono_l : ∀ k, (∀ y0 y1 y2 y3 y4 y5, LeO (request_gather.f k y0 y1 y2 y3 y4 y5) (request_gather.f (k + 1) y0 y1 y2 y3 y4 y5)) ∧ (∀ y0 y1 y2 y3 y4, LeO (request_gather.l0 k y0 y1 y2 y3 y4) (request_gather.l0 (k + 1) y0 y1 y2 y3 y4)) ∧ (∀ y0 y1 y2, LeO (request_gather.l1 k y0 y1 y2) (request_gather.l1 (k + 1) y0 y1 y2))
 | 0 => ⟨fun _ _ _ _ _ _ r h => by simp [request_gather.f] at h, fun _ _ _ _ _ r h => by simp [request_gather.l0] at h, fun _ _ _ r h => by simp [request_gather.l1] at h⟩
 | k + 1 => by
  obtain ⟨ih0, ih1, ih2⟩ := request_gather.mono_l k
  refine ⟨?_, ?_, ?_⟩
  ·intro y0 y1 y2 y3 y4 y5
   unfold request_gather.f
   repeat' first
   | exact ih1 _ _ _ _ _
   | exact ih2 _ _ _
   | exact catalog_ValidName.mono _ _
   | exact LeO.refl _
   | refine LeO.ite ?_ ?_
   | refine LeO.bind ?_ (fun _ => ?_)
  ·intro y0 y1 y2 y3 y4
   unfold request_gather.l0
   repeat' first
   | exact ih1 _ _ _ _ _
   | exact LeO.refl _
   | refine LeO.ite ?_ ?_
  ·intro y0 y1 y2
   unfold request_gather.l1
   repeat' first
   | exact ih0 _ _ _ _ _ _
   | exact ih2 _ _ _
   | exact LeO.refl _
   | refine LeO.ite ?_ ?_
   | refine LeO.bind ?_ (fun _ => ?_)
theorem request_gather.mono : ∀ a0 a1 a2 a3 a4 a5 k, LeO (request_gather.f k a0 a1 a2 a3 a4 a5) (request_gather.f (k + 1) a0 a1 a2 a3 a4 a5) := fun a0 a1 a2 a3 a4 a5 k => (request_gather.mono_l k).1 a0 a1 a2 a3 a4 a5
/-- What holds at a moment of a call of gather: the list's variable (block g) holds u, v is the row of x, block gb is the call's copy of e. -/
structure request_gather.G (w0 w : World) (P : Nat → Prop) (g gb : Nat) (cs : Array Value) (W : World) (u v : Value) (x : List S25) : Prop where
 R : Kd.R k25 25 W w0.heap.size (fun k => P k ∨ w.heap.size ≤ k) v x
 G : W.heap[g]? = some (.cells #[u] 29 (0, 0))
 E : W.heap[gb]? = some (.cells cs 28 (0, 0))
 K : Kept w W P
 B : Below w0.heap.size w0 W
 p : P g
 ge : w0.heap.size ≤ g
section
variable {w0 w W W' : World} {P : Nat → Prop} {g gb : Nat} {cs : Array Value} {u v v' u' : Value} {x y : List S25}
theorem request_gather.G.below (h : request_gather.G w0 w P g gb cs W u v x) (hb : Below W.heap.size W W') : request_gather.G w0 w P g gb cs W' u v x :=
 ⟨Kd.R_below h.R hb, blk_below h.G hb, blk_below h.E hb, h.K.below hb, below_step h.B hb, h.p, h.ge⟩
theorem request_gather.zG [hw : Nonempty (Below W.heap.size W W')] (h : request_gather.G w0 w P g gb cs W u v x) : request_gather.G w0 w P g gb cs W' u v x := hw.elim fun hw => h.below hw
theorem request_gather.G.app (h : request_gather.G w0 w P g gb cs W u v x) (ho : Kd.R k25 25 W' w0.heap.size (fun k => P k ∨ w.heap.size ≤ k) v' y) (hb : Below w0.heap.size w0 W') (hg : W.grownBy W' v.ownBlock) : request_gather.G w0 w P g gb cs W' u v' y :=
 ⟨ho, blk_grown h.G hg (Kd.R_ne h.R h.G (by decide)), blk_grown h.E hg (Kd.R_ne h.R h.E (by decide)), Kept.of_grown hg h.K (fun k e => h.R.1 k e), hb, h.p, h.ge⟩
theorem request_gather.G.put (h : request_gather.G w0 w P g gb cs W u v x) : request_gather.G w0 w P g gb cs (W.setCell ⟨g, 0, none⟩ v) v v x :=
 ⟨Kd.R_mono (Kd.R_far (p := ⟨g, 0, none⟩) (Kd.R_types h.R h.G (by decide)) (fun _ hk => hk.2) v) (fun _ hk => hk.1), blk_put h.G 0 v rfl, blk_far h.E (p := ⟨g, 0, none⟩) (blk_ne h.E h.G (by decide)) v, h.K.setCell (p := ⟨g, 0, none⟩) (.inl h.p) v, below_set h.B h.ge, h.p, h.ge⟩
theorem request_gather.G.sub (h : request_gather.G w0 w P g gb cs W u v x) : ∀ k, (k = g ∨ some k = v.ownBlock) → P k ∨ w.heap.size ≤ k := fun k hk => hk.elim (fun e => .inl (e ▸ h.p)) (fun e => h.R.1 k e.symm)
theorem request_gather.G.call (h : request_gather.G w0 w P g gb cs W u v x) (hg : W'.heap[g]? = some (.cells #[u'] 29 (0, 0))) (hr : Kd.R k25 25 W' w0.heap.size (fun k => (k = g ∨ some k = v.ownBlock) ∨ W.heap.size ≤ k) u' y) (hb : Below w0.heap.size w0 W') (hk : Kept W W' (fun k => k = g ∨ some k = v.ownBlock)) : request_gather.G w0 w P g gb cs W' u' u' y :=
 ⟨Kd.R_mono hr (fun k hk' => hk'.elim (fun e => h.sub k e) (fun e => .inr (Nat.le_trans h.K.1 e))), hg, blk_kept h.E hk (fun e => e.elim (fun e => blk_ne h.E h.G (by decide) e) (fun e => Kd.R_ne h.R h.E (by decide) e)), h.K.then_ hk (fun k e => h.sub k e), hb, h.p, h.ge⟩
theorem request_gather.done {r1 : Bool} {c : Ending} (hr : c = .returned (.bool r1)) (h : request_gather.G w0 w P g gb cs W u u x) : c = .returned (.bool r1) ∧ (∃ u', W.heap[g]? = some (.cells #[u'] 29 (0, 0)) ∧ Kd.R k25 25 W w0.heap.size (fun k => P k ∨ w.heap.size ≤ k) u' x) ∧ Below w0.heap.size w0 W ∧ Kept w W P := ⟨hr, ⟨u, h.G, h.R⟩, h.B, h.K⟩
end
set_option maxHeartbeats 8000000 in
set_option maxRecDepth 100000 in
theorem request_gather.calls (k : Nat) : ∀ (P0_ : Nat → Prop) (g : Nat) (u : Value) (l0 : List S25) (a0 : Int) (a1 : ByteArray) (a2 a3 : Int) (A4 : Option Addr) (c4 : Nat) (l4 : List S28) (r1 : Bool) (r2 : List S25) (w0 w : World) (hB : Below w0.heap.size w0 w) (hP : P0_ g) (hge : w0.heap.size ≤ g) (hbg : w.heap[g]? = some (.cells #[u] 29 (0, 0))) (ho : Kd.R k25 25 w w0.heap.size P0_ u l0) (hr : ∀ W_, Kept w W_ (fun k_ => P0_ k_) → Kd.C k28 W_ A4 l4.length l4) (hc : l4.length ≤ c4) (h : request_gather.f k l0 a0 a1 a2 a3 l4 = some (r1, r2)),
 Calls Try.prog 41 #[.agg #[.int .i64 a0, .string a1, .int .i64 a2, .int .i64 a3, .slice A4 l4.length c4], .pointer (some ⟨g, 0, none⟩)] w fun e w' => e = .returned (.bool r1) ∧ (∃ u', w'.heap[g]? = some (.cells #[u'] 29 (0, 0)) ∧ Kd.R k25 25 w' w0.heap.size (fun k_ => P0_ k_ ∨ w.heap.size ≤ k_) u' r2) ∧ Below w0.heap.size w0 w' ∧ Kept w w' P0_ := by
 induction k using Nat.strongRecOn with
 | _ k ih =>
 intro P0_ g u l0 a0 a1 a2 a3 A4 c4 l4 r1 r2 w0 w hB hP hge hbg ho hr hc h
 cases k with
 | zero => exact absurd h (by simp [request_gather.f])
 | succ k =>
 simp only [request_gather.f] at h
 have hu28 := Try.underlying28
 have hu25 := Try.underlying25
 have hu23 := Try.underlying23
 have hu29 := Try.underlying29
 obtain ⟨Ao, co, rfl⟩ := Kd.R_slice ho
 have HO := am (show Kd.R k25 25 w w0.heap.size (fun k_ => P0_ k_ ∨ w.heap.size ≤ k_) (.slice Ao l0.length co) l0 from Kd.R_mono ho (fun k_ hk => .inl hk))
 have HBG := am hbg
 have HB := am hB
 have HP := am hP
 have HGE := am hge
 have HR4 := am hr
 have HC4 := am hc
 clear hB hP hge hbg ho hr hc
 by_cases c1 : a0 = 0
 ·rw [if_pos c1] at h
  have c1b : (a0 == 0) = true := beq_iff_eq.mpr c1
  clear c1
  by_cases c2 : 0 < (l4.length : Int)
  ·rw [if_pos c2] at h
   have c2n : (0 < l4.length) = True := eq_true (by omega)
   clear c2
   simp only [Option.some.injEq, Prod.mk.injEq] at h
   obtain ⟨rfl, rfl⟩ := h
   go_enter Try.func41, Try.ntmps41
   go_wp2_with (first | ((with_reducible refine gate_dst (N := 2) rfl ?_); refine box_event ?hg (N := 2) ?hd (cs := #[.int .i64 a0, .string a1, .int .i64 a2, .int .i64 a3, .slice A4 l4.length c4]) (t := 28) ?hr ?_; (case hd => rfl); (case hg => rfl); (case hr => first | (go_simp; done) | (go_simp; rfl)); intro gb hg w1 hbox hb; have HG : Aside0 (request_gather.G w0 w P0_ g gb #[.int .i64 a0, .string a1, .int .i64 a2, .int .i64 a3, .slice A4 l4.length c4] w1 (.slice Ao l0.length co) (.slice Ao l0.length co) l0) := ⟨⟨Kd.R_below (zR HO.out) hb, blk_below (zB HBG.out) hb, hbox, Kept.of_below (below_step (Below.refl _ _) (by exact hb)) _, below_step (zL HB.out) hb, HP.out, HGE.out⟩⟩; clear hb hbox hg; obtain ⟨hcz_0, hcz_1, hcz_2, hcz_3, hcz_4, hfz_0, hfz_1, hfz_2, hfz_3, hfz_4⟩ := b5 HG.out.E; have hcg : w1.cell? ⟨g, 0, none⟩ = some (.slice Ao l0.length co) := (blk_cell HG.out.G 0).trans rfl; have hfg := blk_frozen HG.out.G 0))
   repeat (go_quiet (fail); try go_wp2)
   go_ret
   exact request_gather.done (by first | rfl | (simp; done) | (simp [*]; done)) (request_gather.zG HG.out)
  ·rw [if_neg c2] at h
   have c2n : (0 < l4.length) = False := eq_false (by omega)
   clear c2
   replace h := Option.bind_eq_some_iff.mp h
   obtain ⟨b1, V1, h⟩ := h
   replace V1 := am V1
   cases b1
   ·rw [if_neg (by decide)] at h
    simp only [Option.some.injEq, Prod.mk.injEq] at h
    obtain ⟨rfl, rfl⟩ := h
    go_enter Try.func41, Try.ntmps41
    go_wp2_with (first | ((with_reducible refine gate_dst (N := 2) rfl ?_); refine box_event ?hg (N := 2) ?hd (cs := #[.int .i64 a0, .string a1, .int .i64 a2, .int .i64 a3, .slice A4 l4.length c4]) (t := 28) ?hr ?_; (case hd => rfl); (case hg => rfl); (case hr => first | (go_simp; done) | (go_simp; rfl)); intro gb hg w1 hbox hb; have HG : Aside0 (request_gather.G w0 w P0_ g gb #[.int .i64 a0, .string a1, .int .i64 a2, .int .i64 a3, .slice A4 l4.length c4] w1 (.slice Ao l0.length co) (.slice Ao l0.length co) l0) := ⟨⟨Kd.R_below (zR HO.out) hb, blk_below (zB HBG.out) hb, hbox, Kept.of_below (below_step (Below.refl _ _) (by exact hb)) _, below_step (zL HB.out) hb, HP.out, HGE.out⟩⟩; clear hb hbox hg; obtain ⟨hcz_0, hcz_1, hcz_2, hcz_3, hcz_4, hfz_0, hfz_1, hfz_2, hfz_3, hfz_4⟩ := b5 HG.out.E; have hcg : w1.cell? ⟨g, 0, none⟩ = some (.slice Ao l0.length co) := (blk_cell HG.out.G 0).trans rfl; have hfg := blk_frozen HG.out.G 0) | (go_at_call 55; (with_reducible refine (catalog_ValidName.calls k a1 false _ V1.out).mono ?_); rintro e w' ⟨rfl, ⟨nd, rfl⟩⟩; (try first | exact ⟨rfl, _, World.drewN_drewN _ _ _⟩ | exact ⟨rfl, _, Eq.trans (World.drewN_drewN _ _ _) (congrArg (World.drewN _) (Nat.add_assoc _ _ _))⟩)))
    repeat (go_quiet (fail); try go_wp2)
    go_ret
    exact request_gather.done (by first | rfl | (simp; done) | (simp [*]; done)) (request_gather.zG HG.out)
   ·rw [if_pos rfl] at h
    replace h := Option.bind_eq_some_iff.mp h
    obtain ⟨b2, V2, h⟩ := h
    replace V2 := am V2
    cases b2
    ·rw [if_neg (by decide)] at h
     simp only [Option.some.injEq, Prod.mk.injEq] at h
     obtain ⟨rfl, rfl⟩ := h
     go_enter Try.func41, Try.ntmps41
     go_wp2_with (first | ((with_reducible refine gate_dst (N := 2) rfl ?_); refine box_event ?hg (N := 2) ?hd (cs := #[.int .i64 a0, .string a1, .int .i64 a2, .int .i64 a3, .slice A4 l4.length c4]) (t := 28) ?hr ?_; (case hd => rfl); (case hg => rfl); (case hr => first | (go_simp; done) | (go_simp; rfl)); intro gb hg w1 hbox hb; have HG : Aside0 (request_gather.G w0 w P0_ g gb #[.int .i64 a0, .string a1, .int .i64 a2, .int .i64 a3, .slice A4 l4.length c4] w1 (.slice Ao l0.length co) (.slice Ao l0.length co) l0) := ⟨⟨Kd.R_below (zR HO.out) hb, blk_below (zB HBG.out) hb, hbox, Kept.of_below (below_step (Below.refl _ _) (by exact hb)) _, below_step (zL HB.out) hb, HP.out, HGE.out⟩⟩; clear hb hbox hg; obtain ⟨hcz_0, hcz_1, hcz_2, hcz_3, hcz_4, hfz_0, hfz_1, hfz_2, hfz_3, hfz_4⟩ := b5 HG.out.E; have hcg : w1.cell? ⟨g, 0, none⟩ = some (.slice Ao l0.length co) := (blk_cell HG.out.G 0).trans rfl; have hfg := blk_frozen HG.out.G 0) | (go_at_call 55; (with_reducible refine (catalog_ValidName.calls k a1 true _ V1.out).mono ?_); rintro e w' ⟨rfl, ⟨nd, rfl⟩⟩; (try first | exact ⟨rfl, _, World.drewN_drewN _ _ _⟩ | exact ⟨rfl, _, Eq.trans (World.drewN_drewN _ _ _) (congrArg (World.drewN _) (Nat.add_assoc _ _ _))⟩)) | (go_at_call 56; (with_reducible refine (request_usable.calls a2 a3 false _ V2.out).mono ?_); rintro e w2 ⟨rfl, hb⟩; have n0_ := am ((request_gather.zG HG.out).below hb); clear HG hb; have HG := n0_; clear n0_; obtain ⟨hczb_0, hczb_1, hczb_2, hczb_3, hczb_4, hfzb_0, hfzb_1, hfzb_2, hfzb_3, hfzb_4⟩ := b5 HG.out.E; have hcgb : w2.cell? ⟨g, 0, none⟩ = some (.slice Ao l0.length co) := (blk_cell HG.out.G 0).trans rfl; have hfgb := blk_frozen HG.out.G 0))
     repeat (go_quiet (fail); try go_wp2)
     go_ret
     exact request_gather.done (by first | rfl | (simp; done) | (simp [*]; done)) (request_gather.zG HG.out)
    ·rw [if_pos rfl] at h
     have HA := am h
     clear h
     go_enter Try.func41, Try.ntmps41
     go_wp2_with (first | ((with_reducible refine gate_dst (N := 2) rfl ?_); refine box_event ?hg (N := 2) ?hd (cs := #[.int .i64 a0, .string a1, .int .i64 a2, .int .i64 a3, .slice A4 l4.length c4]) (t := 28) ?hr ?_; (case hd => rfl); (case hg => rfl); (case hr => first | (go_simp; done) | (go_simp; rfl)); intro gb hg w1 hbox hb; have HG : Aside0 (request_gather.G w0 w P0_ g gb #[.int .i64 a0, .string a1, .int .i64 a2, .int .i64 a3, .slice A4 l4.length c4] w1 (.slice Ao l0.length co) (.slice Ao l0.length co) l0) := ⟨⟨Kd.R_below (zR HO.out) hb, blk_below (zB HBG.out) hb, hbox, Kept.of_below (below_step (Below.refl _ _) (by exact hb)) _, below_step (zL HB.out) hb, HP.out, HGE.out⟩⟩; clear hb hbox hg; obtain ⟨hcz_0, hcz_1, hcz_2, hcz_3, hcz_4, hfz_0, hfz_1, hfz_2, hfz_3, hfz_4⟩ := b5 HG.out.E; have hcg : w1.cell? ⟨g, 0, none⟩ = some (.slice Ao l0.length co) := (blk_cell HG.out.G 0).trans rfl; have hfg := blk_frozen HG.out.G 0) | (go_at_call 55; (with_reducible refine (catalog_ValidName.calls k a1 true _ V1.out).mono ?_); rintro e w' ⟨rfl, ⟨nd, rfl⟩⟩; (try first | exact ⟨rfl, _, World.drewN_drewN _ _ _⟩ | exact ⟨rfl, _, Eq.trans (World.drewN_drewN _ _ _) (congrArg (World.drewN _) (Nat.add_assoc _ _ _))⟩)) | (go_at_call 56; (with_reducible refine (request_usable.calls a2 a3 true _ V2.out).mono ?_); rintro e w2 ⟨rfl, hb⟩; have n0_ := am ((request_gather.zG HG.out).below hb); clear HG hb; have HG := n0_; clear n0_; obtain ⟨hczb_0, hczb_1, hczb_2, hczb_3, hczb_4, hfzb_0, hfzb_1, hfzb_2, hfzb_3, hfzb_4⟩ := b5 HG.out.E; have hcgb : w2.cell? ⟨g, 0, none⟩ = some (.slice Ao l0.length co) := (blk_cell HG.out.G 0).trans rfl; have hfgb := blk_frozen HG.out.G 0))
     go_loopg [34] k (fun kq v34 w' => ∃ (i : Int), v34 = .int .i64 i ∧ Aside0 (request_gather.l0 kq l0 i a1 a2 a3 = some (r1, r2)) ∧ Aside0 (kq ≤ k) ∧ Aside0 (request_gather.G w0 w P0_ g gb #[.int .i64 a0, .string a1, .int .i64 a2, .int .i64 a3, .slice A4 l4.length c4] w' (.slice Ao l0.length co) (.slice Ao l0.length co) l0))
     case atStart => exact ⟨0, (by first | rfl | (simp; done) | (simp [*]; done)), HA, ⟨Nat.le_refl _⟩, ⟨request_gather.zG HG.out⟩⟩
     case round =>
     clear HA
     clear hcz_0 hfz_0
     clear hcz_1 hfz_1
     clear hcz_2 hfz_2
     clear hcz_3 hfz_3
     clear hcz_4 hfz_4
     clear hczb_0 hfzb_0
     clear hczb_1 hfzb_1
     clear hczb_2 hfzb_2
     clear hczb_3 hfzb_3
     clear hczb_4 hfzb_4
     clear hcg hfg hcgb hfgb HG V1 V2
     obtain ⟨i, rfl, HA, HK1, HG⟩ := hrel
     cases gk with
     | zero => exact absurd HA.out (by simp [request_gather.l0])
     | succ k1 =>
      have H := HA.out
      clear HA
      simp only [request_gather.l0] at H
      by_cases c7 : i < (l0.length : Int)
      ·rw [if_pos c7] at H
       have c7b0 : decide (i < (l0.length : Int)) = true := decide_eq_true c7
       by_cases c8 : 0 ≤ i
       ·rw [if_pos c8] at H
        obtain ⟨ad, e9, hx0, hx1, hx2⟩ := at_T25 (Kd.R_reads' HG.out.R).2.2 i c8 c7
        cases e9
        replace c8 := eq_true c8
        replace c7 := eq_true c7
        obtain ⟨hczc_0, hczc_1, hczc_2, hczc_3, hczc_4, hfzc_0, hfzc_1, hfzc_2, hfzc_3, hfzc_4⟩ := b5 HG.out.E; have hcgc : wr.cell? ⟨g, 0, none⟩ = some (.slice (some ad) l0.length co) := (blk_cell HG.out.G 0).trans rfl; have hfgc := blk_frozen HG.out.G 0
        by_cases c9 : (((rd_T25 l0 i).f0).toList == a1.toList) = true
        ·rw [if_pos c9] at H
         simp only [Option.some.injEq, Prod.mk.injEq] at H
         obtain ⟨rfl, rfl⟩ := H
         go_wp2_with (first | ((with_reducible refine gate_dst (N := 6) rfl ?_); refine box_event ?hg (N := 6) ?hd (cs := #[.string (⟨#[]⟩ : ByteArray), .int .i64 0, .int .i64 0]) (t := 25) ?hr ?_; (case hd => rfl); (case hg => rfl); (case hr => first | (go_simp; done) | (go_simp; rfl)); intro gx hg w3 hbox hb; have HX := am (below_step (Below.refl _ _) hb); have BX := am hbox; have GX := am (show wr.heap.size ≤ gx by rw [hg]; first | exact Nat.le_refl _ | exact below_size (zL (Below.refl _ _))); clear hb hbox hg; obtain ⟨hcq_0, hcq_1, hcq_2, hfq_0, hfq_1, hfq_2⟩ := b3 BX.out) | ((with_reducible refine gate_store (t := 25) (p := 6) rfl ?_); refine store_event (t := 25) (p := 6) (v := ?vo6a) (w1 := (((w3.setCell ⟨gx, 0, none⟩ (.string ((rd_T25 l0 i).f0))).setCell ⟨gx, 1, none⟩ (.int .i64 ((rd_T25 l0 i).f1.f0))).setCell ⟨gx, 2, none⟩ (.int .i64 ((rd_T25 l0 i).f1.f1)))) ?hg ?ho ?hn ?hr ?_; (case ho => rfl); (case hg => rfl); (case hn => rfl); (case hr => first | (go_simp; done) | (go_simp; rfl)); intro w4 hw; have n0_ := am (show Below wr.heap.size wr w4 by rw [hw]; repeat (first | exact HX.out | apply ba | apply bd | apply be | refine below_set ?_ GX.out)); have n1_ : Aside0 (w4.heap[gx]? = some (.cells #[.string ((rd_T25 l0 i).f0), .int .i64 ((rd_T25 l0 i).f1.f0), .int .i64 ((rd_T25 l0 i).f1.f1)] 25 (0, 0))) := ⟨(by rw [hw]; exact (by refine blk_put (cs := #[.string ((rd_T25 l0 i).f0), .int .i64 ((rd_T25 l0 i).f1.f0), .int .i64 0]) ?_ 2 _ rfl; refine blk_put (cs := #[.string ((rd_T25 l0 i).f0), .int .i64 0, .int .i64 0]) ?_ 1 _ rfl; refine blk_put (cs := #[.string (⟨#[]⟩ : ByteArray), .int .i64 0, .int .i64 0]) ?_ 0 _ rfl; exact zB <| BX.out))⟩; have n2_ := am (HG.out.below n0_.out); clear hw HG HX BX; have HG := n2_; have BX := n1_; clear n0_ n1_ n2_; obtain ⟨hcx_0, hcx_1, hcx_2, hfx_0, hfx_1, hfx_2⟩ := b3 BX.out; obtain ⟨hczy_0, hczy_1, hczy_2, hczy_3, hczy_4, hfzy_0, hfzy_1, hfzy_2, hfzy_3, hfzy_4⟩ := b5 HG.out.E; have hcgy : w4.cell? ⟨g, 0, none⟩ = some (.slice (some ad) l0.length co) := (blk_cell HG.out.G 0).trans rfl; have hfgy := blk_frozen HG.out.G 0))
         repeat (go_quiet (fail); try go_wp2)
         go_ret
         exact request_gather.done (by first | rfl | (simp; done) | (simp [*]; done)) (request_gather.zG HG.out)
        ·rw [if_neg c9] at H
         replace c9 := Bool.eq_false_iff.mpr c9
         replace H := am H
         go_wp2_with (first | ((with_reducible refine gate_dst (N := 6) rfl ?_); refine box_event ?hg (N := 6) ?hd (cs := #[.string (⟨#[]⟩ : ByteArray), .int .i64 0, .int .i64 0]) (t := 25) ?hr ?_; (case hd => rfl); (case hg => rfl); (case hr => first | (go_simp; done) | (go_simp; rfl)); intro gx hg w3 hbox hb; have HX := am (below_step (Below.refl _ _) hb); have BX := am hbox; have GX := am (show wr.heap.size ≤ gx by rw [hg]; first | exact Nat.le_refl _ | exact below_size (zL (Below.refl _ _))); clear hb hbox hg; obtain ⟨hcq_0, hcq_1, hcq_2, hfq_0, hfq_1, hfq_2⟩ := b3 BX.out) | ((with_reducible refine gate_store (t := 25) (p := 6) rfl ?_); refine store_event (t := 25) (p := 6) (v := ?vo6b) (w1 := (((w3.setCell ⟨gx, 0, none⟩ (.string ((rd_T25 l0 i).f0))).setCell ⟨gx, 1, none⟩ (.int .i64 ((rd_T25 l0 i).f1.f0))).setCell ⟨gx, 2, none⟩ (.int .i64 ((rd_T25 l0 i).f1.f1)))) ?hg ?ho ?hn ?hr ?_; (case ho => rfl); (case hg => rfl); (case hn => rfl); (case hr => first | (go_simp; done) | (go_simp; rfl)); intro w4 hw; have n0_ := am (show Below wr.heap.size wr w4 by rw [hw]; repeat (first | exact HX.out | apply ba | apply bd | apply be | refine below_set ?_ GX.out)); have n1_ : Aside0 (w4.heap[gx]? = some (.cells #[.string ((rd_T25 l0 i).f0), .int .i64 ((rd_T25 l0 i).f1.f0), .int .i64 ((rd_T25 l0 i).f1.f1)] 25 (0, 0))) := ⟨(by rw [hw]; exact (by refine blk_put (cs := #[.string ((rd_T25 l0 i).f0), .int .i64 ((rd_T25 l0 i).f1.f0), .int .i64 0]) ?_ 2 _ rfl; refine blk_put (cs := #[.string ((rd_T25 l0 i).f0), .int .i64 0, .int .i64 0]) ?_ 1 _ rfl; refine blk_put (cs := #[.string (⟨#[]⟩ : ByteArray), .int .i64 0, .int .i64 0]) ?_ 0 _ rfl; exact zB <| BX.out))⟩; have n2_ := am (HG.out.below n0_.out); clear hw HG HX BX; have HG := n2_; have BX := n1_; clear n0_ n1_ n2_; obtain ⟨hcx_0, hcx_1, hcx_2, hfx_0, hfx_1, hfx_2⟩ := b3 BX.out; obtain ⟨hczy_0, hczy_1, hczy_2, hczy_3, hczy_4, hfzy_0, hfzy_1, hfzy_2, hfzy_3, hfzy_4⟩ := b5 HG.out.E; have hcgy : w4.cell? ⟨g, 0, none⟩ = some (.slice (some ad) l0.length co) := (blk_cell HG.out.G 0).trans rfl; have hfgy := blk_frozen HG.out.G 0))
         go_roundg k1
         case measure => have := HK1.out; omega
         case rel => exact ⟨wrap64 (i + 1), (by first | rfl | (simp; done) | (simp [*]; done)), H, ⟨by have := HK1.out; omega⟩, ⟨request_gather.zG HG.out⟩⟩
       ·rw [if_neg c8] at H
        exact absurd H (by simp)
      ·rw [if_neg c7] at H
       have c7b0 : decide (i < (l0.length : Int)) = false := decide_eq_false c7
       clear c7
       by_cases c10 : l0.length < 4398046511104
       ·rw [if_pos c10] at H
        have LM := am c10
        clear c10
        simp only [Option.some.injEq, Prod.mk.injEq] at H
        obtain ⟨H1, H2⟩ := H
        obtain ⟨y, hy⟩ : ∃ y_ : List S25, y_ = (l0 ++ [(⟨a1, (⟨a2, a3⟩ : S23)⟩ : S25)]) := ⟨_, rfl⟩
        rw [← hy] at H1 H2
        have Ny := am hy
        clear hy
        subst H1
        subst H2
        obtain ⟨hczc_0, hczc_1, hczc_2, hczc_3, hczc_4, hfzc_0, hfzc_1, hfzc_2, hfzc_3, hfzc_4⟩ := b5 HG.out.E; have hcgc : wr.cell? ⟨g, 0, none⟩ = some (.slice Ao l0.length co) := (blk_cell HG.out.G 0).trans rfl; have hfgc := blk_frozen HG.out.G 0
        go_wp2
        refine start_ (n := 10) (S := fun w' => w'.cell? ⟨g, 0, none⟩ = some (.slice Ao l0.length co) ∧ w'.cell? ⟨gb, 1, none⟩ = some (.string a1) ∧ w'.cell? ⟨gb, 2, none⟩ = some (.int .i64 a2) ∧ w'.cell? ⟨gb, 3, none⟩ = some (.int .i64 a3)) (ds := [9]) #[false, false, false, false, false, false, false, false, false, false] (by kernel_rfl) rfl rfl ⟨hcgc, hczc_1, hczc_2, hczc_3⟩ (fun hHeld => ?_)
        refine pure_ (i := 0) (N := some 49) (v := ?_) (a' := ?_) #[true, false, false, false, false, false, false, false, false, false] rfl rfl (by kernel_rfl) (fun _ _ _ h => h) (Or.inl ⟨by rfl, ?_⟩) ?_ ?_
        rotate_left
        ·intro w'
         go_simp
         with_reducible rfl
        rotate_left
        ·simp only [Act.put, List.setIfInBounds_toArray, List.set_cons_zero, List.set_cons_succ, i64_w, i32_w]
         rfl
        refine pure_ (i := 1) (N := some 50) (v := ?_) (a' := ?_) #[true, true, false, false, false, false, false, false, false, false] rfl rfl (by kernel_rfl) (fun _ _ _ h => h) (Or.inl ⟨by rfl, ?_⟩) ?_ ?_
        rotate_left
        ·intro w'
         go_simp
         with_reducible rfl
        rotate_left
        ·simp only [Act.put, List.setIfInBounds_toArray, List.set_cons_zero, List.set_cons_succ, i64_w, i32_w]
         rfl
        refine pure_ (i := 2) (N := some 51) (v := ?_) (a' := ?_) #[true, true, true, false, false, false, false, false, false, false] rfl rfl (by kernel_rfl) (fun _ _ _ h => h) (Or.inl ⟨by rfl, ?_⟩) ?_ ?_
        rotate_left
        ·intro w'
         go_simp
         with_reducible rfl
        rotate_left
        ·simp only [Act.put, List.setIfInBounds_toArray, List.set_cons_zero, List.set_cons_succ, i64_w, i32_w]
         rfl
        refine pure_ (i := 4) (N := some 53) (v := ?_) (a' := ?_) #[true, true, true, false, true, false, false, false, false, false] rfl rfl (by kernel_rfl) (fun _ _ _ h => h) (Or.inl ⟨by rfl, ?_⟩) ?_ ?_
        rotate_left
        ·intro w'
         go_simp
         with_reducible rfl
        rotate_left
        ·simp only [Act.put, List.setIfInBounds_toArray, List.set_cons_zero, List.set_cons_succ, i64_w, i32_w]
         rfl
        refine take_ (i := 3) (N := some 52) (v := ?_) (a' := ?_) #[true, true, true, true, true, false, false, false, false, false] rfl rfl (by kernel_rfl) (fun _ _ _ h => h) (Or.inl ⟨by rfl, ?_⟩) hHeld ?_ ?_
        rotate_left
        ·rintro w' ⟨s0, s1, s2, s3⟩
         go_simp
         with_reducible rfl
        rotate_left
        ·simp only [Act.put, List.setIfInBounds_toArray, List.set_cons_zero, List.set_cons_succ, i64_w, i32_w]
         rfl
        refine take_ (i := 5) (N := some 54) (v := ?_) (a' := ?_) #[true, true, true, true, true, true, false, false, false, false] rfl rfl (by kernel_rfl) (fun _ _ _ h => h) (Or.inl ⟨by rfl, ?_⟩) hHeld ?_ ?_
        rotate_left
        ·rintro w' ⟨s0, s1, s2, s3⟩
         go_simp
         with_reducible rfl
        rotate_left
        ·simp only [Act.put, List.setIfInBounds_toArray, List.set_cons_zero, List.set_cons_succ, i64_w, i32_w]
         rfl
        refine one_ (i := 6) (N := some 55) #[true, true, true, true, true, true, true, false, false, false] rfl rfl (by kernel_rfl) (by decide) (fun K hK => ?_)
        refine value_ (w1 := wr.drew.alloc (.cells (List.toArray [.string a1, .int .i64 a2, .int .i64 a3]) 25)) (v := ?_) (by rfl) rfl ?_ ?_
        rotate_left 1
        ·go_simp
         first | rfl | (constructor <;> rfl)
        refine hK.out _ _ ⟨((below_alloc (Below.refl _ _) _).cell (World.block_lt_of_cell? _ _ hHeld.1)).trans hHeld.1, ((below_alloc (Below.refl _ _) _).cell (World.block_lt_of_cell? _ _ hHeld.2.1)).trans hHeld.2.1, ((below_alloc (Below.refl _ _) _).cell (World.block_lt_of_cell? _ _ hHeld.2.2.1)).trans hHeld.2.2.1, ((below_alloc (Below.refl _ _) _).cell (World.block_lt_of_cell? _ _ hHeld.2.2.2)).trans hHeld.2.2.2⟩ (fun hHeld => ?_)
        clear hK K
        refine norm_ (a' := ?_) ?_ ?_
        rotate_left
        ·show Act.put _ (some 55) _ = _
         simp only [Act.put, List.setIfInBounds_toArray, List.set_cons_zero, List.set_cons_succ, i64_w, i32_w]
         rfl
        refine one_ (i := 7) (N := some 56) #[true, true, true, true, true, true, true, true, false, false] rfl rfl (by kernel_rfl) (by decide) (fun K hK => ?_)
        refine Kd.R_append_step k25 (w0 := w0) w0.heap.size (by rfl) (.tmp 52) (.tmp 55) 29 25 (.agg #[(.string ⟨#[]⟩), (.int .i64 0), (.int .i64 0)]) 32 rfl Try.underlying29 info25 rfl (by decide) (by omega) (.slice Ao l0.length co) l0 (⟨a1, (⟨a2, a3⟩ : S23)⟩ : S25) [.string a1, .int .i64 a2, .int .i64 a3] (fun k_ => (P0_ k_ ∨ w.heap.size ≤ k_)) (fun _ => False) rfl rfl ?aP (fun _ hk => hk.elim) ?aF ?aO ?aB ?aS ?aL ?_
        (case aP => exact k25_mkM _ _ _ (⟨a1, (⟨a2, a3⟩ : S23)⟩ : S25))
        (case aB => exact zL HG.out.B)
        (case aF => exact (fun k_ hk => (.inr (Nat.le_trans (request_gather.zG HG.out).K.1 hk))))
        (case aO => exact (request_gather.zG HG.out).R)
        (case aS => exact (below_size (zL HG.out.B)))
        (case aL => have := LM.out; omega)
        intro v5 w5 ho hb hg hat
        rw [← Ny.out] at ho
        have n0_ := am ((request_gather.zG HG.out).app ho hb hg)
        clear HG ho hb hg hat
        have HG := n0_
        clear n0_
        obtain ⟨A6, c6, e6⟩ := Kd.R_slice HG.out.R
        subst e6
        have hcg5 : w5.cell? ⟨g, 0, none⟩ = some (.slice Ao l0.length co) := (blk_cell HG.out.G 0).trans rfl
        have hfg5 := blk_frozen HG.out.G 0
        refine hK.out _ _ ⟨hcg5, (blk_cell HG.out.E 1).trans rfl, (blk_cell HG.out.E 2).trans rfl, (blk_cell HG.out.E 3).trans rfl⟩ (fun hHeld => ?_)
        clear hK K
        refine norm_ (a' := ?_) ?_ ?_
        rotate_left
        ·show Act.put _ (some 56) _ = _
         simp only [Act.put, List.setIfInBounds_toArray, List.set_cons_zero, List.set_cons_succ, i64_w, i32_w]
         rfl
        refine pure_ (i := 8) (N := some 57) (v := ?_) (a' := ?_) #[true, true, true, true, true, true, true, true, true, false] rfl rfl (by kernel_rfl) (fun _ _ _ h => h) (Or.inl ⟨by rfl, ?_⟩) ?_ ?_
        rotate_left
        ·intro w'
         go_simp
         with_reducible rfl
        rotate_left
        ·simp only [Act.put, List.setIfInBounds_toArray, List.set_cons_zero, List.set_cons_succ, i64_w, i32_w]
         rfl
        refine last_ (i := 9) (N := none) #[true, true, true, true, true, true, true, true, true, true] rfl rfl (by kernel_rfl) (by decide) (fun K hK => ?_)
        refine skip_ (w1 := ?_) (by rfl) rfl ?_ ?_
        rotate_left
        ·go_simp
         rfl
        have n0_ := am HG.out.put
        clear HG
        have HG := n0_
        clear n0_
        refine hK.out _ _ ?_
        clear hK K
        refine done_ (by kernel_rfl) ?_
        generalize (w5.setCell ⟨g, 0, none⟩ (.slice A6 y.length c6)) = w6 at HG ⊢
        have hcg6 : w6.cell? ⟨g, 0, none⟩ = some (.slice A6 y.length c6) := (blk_cell HG.out.G 0).trans rfl
        have hfg6 := blk_frozen HG.out.G 0
        go_wp2
        repeat (go_quiet (fail); try go_wp2)
        go_ret
        exact request_gather.done (by first | rfl | (simp; done) | (simp [*]; done)) (request_gather.zG HG.out)
       ·rw [if_neg c10] at H
        exact absurd H (by simp)
 ·rw [if_neg c1] at h
  have c1b : (a0 == 0) = false := beq_eq_false_iff_ne.mpr c1
  clear c1
  by_cases c3 : a0 < 1
  ·rw [if_pos c3] at h
   have c3b : decide (a0 < 1) = true := decide_eq_true c3
   clear c3
   simp only [Option.some.injEq, Prod.mk.injEq] at h
   obtain ⟨rfl, rfl⟩ := h
   go_enter Try.func41, Try.ntmps41
   go_wp2_with (first | ((with_reducible refine gate_dst (N := 2) rfl ?_); refine box_event ?hg (N := 2) ?hd (cs := #[.int .i64 a0, .string a1, .int .i64 a2, .int .i64 a3, .slice A4 l4.length c4]) (t := 28) ?hr ?_; (case hd => rfl); (case hg => rfl); (case hr => first | (go_simp; done) | (go_simp; rfl)); intro gb hg w1 hbox hb; have HG : Aside0 (request_gather.G w0 w P0_ g gb #[.int .i64 a0, .string a1, .int .i64 a2, .int .i64 a3, .slice A4 l4.length c4] w1 (.slice Ao l0.length co) (.slice Ao l0.length co) l0) := ⟨⟨Kd.R_below (zR HO.out) hb, blk_below (zB HBG.out) hb, hbox, Kept.of_below (below_step (Below.refl _ _) (by exact hb)) _, below_step (zL HB.out) hb, HP.out, HGE.out⟩⟩; clear hb hbox hg; obtain ⟨hcz_0, hcz_1, hcz_2, hcz_3, hcz_4, hfz_0, hfz_1, hfz_2, hfz_3, hfz_4⟩ := b5 HG.out.E; have hcg : w1.cell? ⟨g, 0, none⟩ = some (.slice Ao l0.length co) := (blk_cell HG.out.G 0).trans rfl; have hfg := blk_frozen HG.out.G 0))
   repeat (go_quiet (fail); try go_wp2)
   go_ret
   exact request_gather.done (by first | rfl | (simp; done) | (simp [*]; done)) (request_gather.zG HG.out)
  ·rw [if_neg c3] at h
   have c3b : decide (a0 < 1) = false := decide_eq_false c3
   clear c3
   by_cases c4_ : a0 > (l4.length : Int)
   ·rw [if_pos c4_] at h
    have c4b : decide (a0 > (l4.length : Int)) = true := decide_eq_true c4_
    clear c4_
    simp only [Option.some.injEq, Prod.mk.injEq] at h
    obtain ⟨rfl, rfl⟩ := h
    go_enter Try.func41, Try.ntmps41
    go_wp2_with (first | ((with_reducible refine gate_dst (N := 2) rfl ?_); refine box_event ?hg (N := 2) ?hd (cs := #[.int .i64 a0, .string a1, .int .i64 a2, .int .i64 a3, .slice A4 l4.length c4]) (t := 28) ?hr ?_; (case hd => rfl); (case hg => rfl); (case hr => first | (go_simp; done) | (go_simp; rfl)); intro gb hg w1 hbox hb; have HG : Aside0 (request_gather.G w0 w P0_ g gb #[.int .i64 a0, .string a1, .int .i64 a2, .int .i64 a3, .slice A4 l4.length c4] w1 (.slice Ao l0.length co) (.slice Ao l0.length co) l0) := ⟨⟨Kd.R_below (zR HO.out) hb, blk_below (zB HBG.out) hb, hbox, Kept.of_below (below_step (Below.refl _ _) (by exact hb)) _, below_step (zL HB.out) hb, HP.out, HGE.out⟩⟩; clear hb hbox hg; obtain ⟨hcz_0, hcz_1, hcz_2, hcz_3, hcz_4, hfz_0, hfz_1, hfz_2, hfz_3, hfz_4⟩ := b5 HG.out.E; have hcg : w1.cell? ⟨g, 0, none⟩ = some (.slice Ao l0.length co) := (blk_cell HG.out.G 0).trans rfl; have hfg := blk_frozen HG.out.G 0))
    repeat (go_quiet (fail); try go_wp2)
    go_ret
    exact request_gather.done (by first | rfl | (simp; done) | (simp [*]; done)) (request_gather.zG HG.out)
   ·rw [if_neg c4_] at h
    have c4b : decide (a0 > (l4.length : Int)) = false := decide_eq_false c4_
    clear c4_
    by_cases c5 : (!(a1.toList == ([] : List UInt8)) || (!(a2 == 0) || !(a3 == 0))) = true
    ·rw [if_pos c5] at h
     simp only [Option.some.injEq, Prod.mk.injEq] at h
     obtain ⟨rfl, rfl⟩ := h
     have c5e : (a1.toList == ([] : List UInt8)) = a1.toList.isEmpty := by cases a1.toList <;> rfl
     rw [c5e] at c5
     clear c5e
     have c5w : a1.toList.isEmpty = false ∨ (a2 == 0) = false ∨ (a3 == 0) = false := by revert c5; cases a1.toList.isEmpty <;> cases (a2 == 0) <;> cases (a3 == 0) <;> simp
     clear c5
     rcases c5w with c5 | c5 | c5
     ·skip
      go_enter Try.func41, Try.ntmps41
      go_wp2_with (first | ((with_reducible refine gate_dst (N := 2) rfl ?_); refine box_event ?hg (N := 2) ?hd (cs := #[.int .i64 a0, .string a1, .int .i64 a2, .int .i64 a3, .slice A4 l4.length c4]) (t := 28) ?hr ?_; (case hd => rfl); (case hg => rfl); (case hr => first | (go_simp; done) | (go_simp; rfl)); intro gb hg w1 hbox hb; have HG : Aside0 (request_gather.G w0 w P0_ g gb #[.int .i64 a0, .string a1, .int .i64 a2, .int .i64 a3, .slice A4 l4.length c4] w1 (.slice Ao l0.length co) (.slice Ao l0.length co) l0) := ⟨⟨Kd.R_below (zR HO.out) hb, blk_below (zB HBG.out) hb, hbox, Kept.of_below (below_step (Below.refl _ _) (by exact hb)) _, below_step (zL HB.out) hb, HP.out, HGE.out⟩⟩; clear hb hbox hg; obtain ⟨hcz_0, hcz_1, hcz_2, hcz_3, hcz_4, hfz_0, hfz_1, hfz_2, hfz_3, hfz_4⟩ := b5 HG.out.E; have hcg : w1.cell? ⟨g, 0, none⟩ = some (.slice Ao l0.length co) := (blk_cell HG.out.G 0).trans rfl; have hfg := blk_frozen HG.out.G 0))
      repeat (go_quiet (fail); try go_wp2)
      go_ret
      exact request_gather.done (by first | rfl | (simp; done) | (simp [*]; done)) (request_gather.zG HG.out)
     ·skip
      go_enter Try.func41, Try.ntmps41
      go_wp2_with (first | ((with_reducible refine gate_dst (N := 2) rfl ?_); refine box_event ?hg (N := 2) ?hd (cs := #[.int .i64 a0, .string a1, .int .i64 a2, .int .i64 a3, .slice A4 l4.length c4]) (t := 28) ?hr ?_; (case hd => rfl); (case hg => rfl); (case hr => first | (go_simp; done) | (go_simp; rfl)); intro gb hg w1 hbox hb; have HG : Aside0 (request_gather.G w0 w P0_ g gb #[.int .i64 a0, .string a1, .int .i64 a2, .int .i64 a3, .slice A4 l4.length c4] w1 (.slice Ao l0.length co) (.slice Ao l0.length co) l0) := ⟨⟨Kd.R_below (zR HO.out) hb, blk_below (zB HBG.out) hb, hbox, Kept.of_below (below_step (Below.refl _ _) (by exact hb)) _, below_step (zL HB.out) hb, HP.out, HGE.out⟩⟩; clear hb hbox hg; obtain ⟨hcz_0, hcz_1, hcz_2, hcz_3, hcz_4, hfz_0, hfz_1, hfz_2, hfz_3, hfz_4⟩ := b5 HG.out.E; have hcg : w1.cell? ⟨g, 0, none⟩ = some (.slice Ao l0.length co) := (blk_cell HG.out.G 0).trans rfl; have hfg := blk_frozen HG.out.G 0))
      repeat (go_quiet (fail); try go_wp2)
      go_ret
      exact request_gather.done (by first | rfl | (simp; done) | (simp [*]; done)) (request_gather.zG HG.out)
     ·skip
      go_enter Try.func41, Try.ntmps41
      go_wp2_with (first | ((with_reducible refine gate_dst (N := 2) rfl ?_); refine box_event ?hg (N := 2) ?hd (cs := #[.int .i64 a0, .string a1, .int .i64 a2, .int .i64 a3, .slice A4 l4.length c4]) (t := 28) ?hr ?_; (case hd => rfl); (case hg => rfl); (case hr => first | (go_simp; done) | (go_simp; rfl)); intro gb hg w1 hbox hb; have HG : Aside0 (request_gather.G w0 w P0_ g gb #[.int .i64 a0, .string a1, .int .i64 a2, .int .i64 a3, .slice A4 l4.length c4] w1 (.slice Ao l0.length co) (.slice Ao l0.length co) l0) := ⟨⟨Kd.R_below (zR HO.out) hb, blk_below (zB HBG.out) hb, hbox, Kept.of_below (below_step (Below.refl _ _) (by exact hb)) _, below_step (zL HB.out) hb, HP.out, HGE.out⟩⟩; clear hb hbox hg; obtain ⟨hcz_0, hcz_1, hcz_2, hcz_3, hcz_4, hfz_0, hfz_1, hfz_2, hfz_3, hfz_4⟩ := b5 HG.out.E; have hcg : w1.cell? ⟨g, 0, none⟩ = some (.slice Ao l0.length co) := (blk_cell HG.out.G 0).trans rfl; have hfg := blk_frozen HG.out.G 0))
      repeat (go_quiet (fail); try go_wp2)
      go_ret
      exact request_gather.done (by first | rfl | (simp; done) | (simp [*]; done)) (request_gather.zG HG.out)
    ·rw [if_neg c5] at h
     replace c5 := Bool.eq_false_iff.mpr c5
     have c5e : (a1.toList == ([] : List UInt8)) = a1.toList.isEmpty := by cases a1.toList <;> rfl
     rw [c5e] at c5
     clear c5e
     have c5w : a1.toList.isEmpty = true ∧ (a2 == 0) = true ∧ (a3 == 0) = true := by revert c5; cases a1.toList.isEmpty <;> cases (a2 == 0) <;> cases (a3 == 0) <;> simp
     clear c5
     obtain ⟨c51, c52, c53⟩ := c5w
     have HA := am h
     clear h
     go_enter Try.func41, Try.ntmps41
     go_wp2_with (first | ((with_reducible refine gate_dst (N := 2) rfl ?_); refine box_event ?hg (N := 2) ?hd (cs := #[.int .i64 a0, .string a1, .int .i64 a2, .int .i64 a3, .slice A4 l4.length c4]) (t := 28) ?hr ?_; (case hd => rfl); (case hg => rfl); (case hr => first | (go_simp; done) | (go_simp; rfl)); intro gb hg w1 hbox hb; have HG : Aside0 (request_gather.G w0 w P0_ g gb #[.int .i64 a0, .string a1, .int .i64 a2, .int .i64 a3, .slice A4 l4.length c4] w1 (.slice Ao l0.length co) (.slice Ao l0.length co) l0) := ⟨⟨Kd.R_below (zR HO.out) hb, blk_below (zB HBG.out) hb, hbox, Kept.of_below (below_step (Below.refl _ _) (by exact hb)) _, below_step (zL HB.out) hb, HP.out, HGE.out⟩⟩; clear hb hbox hg; obtain ⟨hcz_0, hcz_1, hcz_2, hcz_3, hcz_4, hfz_0, hfz_1, hfz_2, hfz_3, hfz_4⟩ := b5 HG.out.E; have hcg : w1.cell? ⟨g, 0, none⟩ = some (.slice Ao l0.length co) := (blk_cell HG.out.G 0).trans rfl; have hfg := blk_frozen HG.out.G 0))
     go_loopg [83] k (fun kq v83 w' => ∃ (x : List S25) (Ax : Option Addr) (cx : Nat) (i : Int), v83 = .int .i64 i ∧ Aside0 (request_gather.l1 kq x l4 i = some (r1, r2)) ∧ Aside0 (kq ≤ k) ∧ Aside0 (request_gather.G w0 w P0_ g gb #[.int .i64 a0, .string a1, .int .i64 a2, .int .i64 a3, .slice A4 l4.length c4] w' (.slice Ax x.length cx) (.slice Ax x.length cx) x))
     case atStart => exact ⟨l0, Ao, co, 0, (by first | rfl | (simp; done) | (simp [*]; done)), HA, ⟨Nat.le_refl _⟩, ⟨request_gather.zG HG.out⟩⟩
     case round =>
     clear HA
     clear hcz_0 hfz_0
     clear hcz_1 hfz_1
     clear hcz_2 hfz_2
     clear hcz_3 hfz_3
     clear hcz_4 hfz_4
     clear hcg hfg HG
     obtain ⟨x, Ax, cx, i, rfl, HA, HK1, HG⟩ := hrel
     cases gk with
     | zero => exact absurd HA.out (by simp [request_gather.l1])
     | succ k1 =>
      have H := HA.out
      clear HA
      simp only [request_gather.l1] at H
      by_cases c7 : i < (l4.length : Int)
      ·rw [if_pos c7] at H
       have c7b0 : decide (i < (l4.length : Int)) = true := decide_eq_true c7
       by_cases c8 : 0 ≤ i
       ·rw [if_pos c8] at H
        replace H := Option.bind_eq_some_iff.mp H
        obtain ⟨⟨b, y⟩, A9, H⟩ := H
        replace A9 := am A9
        obtain ⟨ad, A5, c5_, e9, hx0, hx1, hx2, hx3, hx4, hl5, hi5⟩ := at_T28 (Kd.C_kept_now HR4.out HG.out.K) i c8 c7
        cases e9
        have HR5 := am (Xw.foot_elemK HR4.out HG.out.K hx4 (fun W_ h_ => by obtain ⟨ad_, A_4, c_4, e_, hx_0, hx_1, hx_2, hx_3, hx_4, hl_4, hi_4⟩ := at_T28 h_ i c8 c7; cases e_; exact ⟨_, _, hx_4, hi_4⟩))
        have HC5 := am hl5
        clear hl5 hi5
        replace c8 := eq_true c8
        replace c7 := eq_true c7
        obtain ⟨hczc_0, hczc_1, hczc_2, hczc_3, hczc_4, hfzc_0, hfzc_1, hfzc_2, hfzc_3, hfzc_4⟩ := b5 HG.out.E; have hcgc : wr.cell? ⟨g, 0, none⟩ = some (.slice Ax x.length cx) := (blk_cell HG.out.G 0).trans rfl; have hfgc := blk_frozen HG.out.G 0
        cases b
        ·replace H : some (false, y) = some (r1, r2) := H
         simp only [Option.some.injEq, Prod.mk.injEq] at H
         obtain ⟨rfl, rfl⟩ := H
         go_wp2_with (first | ((with_reducible refine gate_dst (N := 8) rfl ?_); refine box_event ?hg (N := 8) ?hd (cs := #[.int .i64 0, .string (⟨#[]⟩ : ByteArray), .int .i64 0, .int .i64 0, .slice none 0 0]) (t := 28) ?hr ?_; (case hd => rfl); (case hg => rfl); (case hr => first | (go_simp; done) | (go_simp; rfl)); intro gx hg w3 hbox hb; have HX := am (below_step (Below.refl _ _) hb); have BX := am hbox; have GX := am (show wr.heap.size ≤ gx by rw [hg]; first | exact Nat.le_refl _ | exact below_size (zL (Below.refl _ _))); clear hb hbox hg; obtain ⟨hcq_0, hcq_1, hcq_2, hcq_3, hcq_4, hfq_0, hfq_1, hfq_2, hfq_3, hfq_4⟩ := b5 BX.out) | ((with_reducible refine gate_store (t := 28) (p := 8) rfl ?_); refine store_event (t := 28) (p := 8) (v := ?vo8a) (w1 := (((((w3.setCell ⟨gx, 0, none⟩ (.int .i64 ((rd_T28 l4 i).f0))).setCell ⟨gx, 1, none⟩ (.string ((rd_T28 l4 i).f1.f0))).setCell ⟨gx, 2, none⟩ (.int .i64 ((rd_T28 l4 i).f1.f1.f0))).setCell ⟨gx, 3, none⟩ (.int .i64 ((rd_T28 l4 i).f1.f1.f1))).setCell ⟨gx, 4, none⟩ (.slice A5 ((rd_T28 l4 i).f2).length c5_))) ?hg ?ho ?hn ?hr ?_; (case ho => rfl); (case hg => rfl); (case hn => rfl); (case hr => first | (go_simp; done) | (go_simp; rfl)); intro w4 hw; have n0_ := am (show Below wr.heap.size wr w4 by rw [hw]; repeat (first | exact HX.out | apply ba | apply bd | apply be | refine below_set ?_ GX.out)); have n1_ : Aside0 (w4.heap[gx]? = some (.cells #[.int .i64 ((rd_T28 l4 i).f0), .string ((rd_T28 l4 i).f1.f0), .int .i64 ((rd_T28 l4 i).f1.f1.f0), .int .i64 ((rd_T28 l4 i).f1.f1.f1), .slice A5 ((rd_T28 l4 i).f2).length c5_] 28 (0, 0))) := ⟨(by rw [hw]; exact (by refine blk_put (cs := #[.int .i64 ((rd_T28 l4 i).f0), .string ((rd_T28 l4 i).f1.f0), .int .i64 ((rd_T28 l4 i).f1.f1.f0), .int .i64 ((rd_T28 l4 i).f1.f1.f1), .slice none 0 0]) ?_ 4 _ rfl; refine blk_put (cs := #[.int .i64 ((rd_T28 l4 i).f0), .string ((rd_T28 l4 i).f1.f0), .int .i64 ((rd_T28 l4 i).f1.f1.f0), .int .i64 0, .slice none 0 0]) ?_ 3 _ rfl; refine blk_put (cs := #[.int .i64 ((rd_T28 l4 i).f0), .string ((rd_T28 l4 i).f1.f0), .int .i64 0, .int .i64 0, .slice none 0 0]) ?_ 2 _ rfl; refine blk_put (cs := #[.int .i64 ((rd_T28 l4 i).f0), .string (⟨#[]⟩ : ByteArray), .int .i64 0, .int .i64 0, .slice none 0 0]) ?_ 1 _ rfl; refine blk_put (cs := #[.int .i64 0, .string (⟨#[]⟩ : ByteArray), .int .i64 0, .int .i64 0, .slice none 0 0]) ?_ 0 _ rfl; exact zB <| BX.out))⟩; have n2_ := am (HG.out.below n0_.out); clear hw HG HX BX; have HG := n2_; have BX := n1_; clear n0_ n1_ n2_; obtain ⟨hcx_0, hcx_1, hcx_2, hcx_3, hcx_4, hfx_0, hfx_1, hfx_2, hfx_3, hfx_4⟩ := b5 BX.out) | ((with_reducible refine gate_callee (f := 41) rfl ?_); refine goesL_ (some 89) rfl rfl Try.func41 (by kernel_rfl) rfl #[.agg #[.int .i64 ((rd_T28 l4 i).f0), .string ((rd_T28 l4 i).f1.f0), .int .i64 ((rd_T28 l4 i).f1.f1.f0), .int .i64 ((rd_T28 l4 i).f1.f1.f1), .slice A5 ((rd_T28 l4 i).f2).length c5_], .pointer (some ⟨g, 0, none⟩)] rfl mp2 ?_; (with_reducible refine (ih k1 (by have := HK1.out; omega) (fun k_ => k_ = g ∨ some k_ = (.slice Ax x.length cx : Value).ownBlock) g (.slice Ax x.length cx) x ((rd_T28 l4 i).f0) ((rd_T28 l4 i).f1.f0) ((rd_T28 l4 i).f1.f1.f0) ((rd_T28 l4 i).f1.f1.f1) A5 c5_ ((rd_T28 l4 i).f2) false y w0 _ ?s1 (.inl rfl) HG.out.ge ?s2 ?s3 ?s4 HC5.out A9.out).mono ?_); (case s1 => exact (request_gather.zG HG.out).B); (case s2 => exact (request_gather.zG HG.out).G); (case s3 => exact Kd.R_mono (Kd.R_tight rfl (request_gather.zG HG.out).R) (fun _ hk => .inr hk)); (case s4 => exact Kd.C_kept_call HR5.out (request_gather.zG HG.out).K (fun k_ hs_ => HG.out.sub k_ hs_)); rintro e w6 ⟨rfl, ⟨u6, hg6, hr6⟩, hb6, hk6⟩; refine ⟨_, rfl, ?_⟩; have n0_ := am ((request_gather.zG HG.out).call hg6 hr6 hb6 hk6); clear HG hg6 hr6 hb6 hk6; have HG := n0_; clear n0_; obtain ⟨A7, c7_, e7⟩ := Kd.R_slice HG.out.R; subst e7))
         repeat (go_quiet (fail); try go_wp2)
         go_ret
         exact request_gather.done (by first | rfl | (simp; done) | (simp [*]; done)) (request_gather.zG HG.out)
        ·rw [if_pos rfl] at H
         replace H := am H
         go_wp2_with (first | ((with_reducible refine gate_dst (N := 8) rfl ?_); refine box_event ?hg (N := 8) ?hd (cs := #[.int .i64 0, .string (⟨#[]⟩ : ByteArray), .int .i64 0, .int .i64 0, .slice none 0 0]) (t := 28) ?hr ?_; (case hd => rfl); (case hg => rfl); (case hr => first | (go_simp; done) | (go_simp; rfl)); intro gx hg w3 hbox hb; have HX := am (below_step (Below.refl _ _) hb); have BX := am hbox; have GX := am (show wr.heap.size ≤ gx by rw [hg]; first | exact Nat.le_refl _ | exact below_size (zL (Below.refl _ _))); clear hb hbox hg; obtain ⟨hcq_0, hcq_1, hcq_2, hcq_3, hcq_4, hfq_0, hfq_1, hfq_2, hfq_3, hfq_4⟩ := b5 BX.out) | ((with_reducible refine gate_store (t := 28) (p := 8) rfl ?_); refine store_event (t := 28) (p := 8) (v := ?vo8b) (w1 := (((((w3.setCell ⟨gx, 0, none⟩ (.int .i64 ((rd_T28 l4 i).f0))).setCell ⟨gx, 1, none⟩ (.string ((rd_T28 l4 i).f1.f0))).setCell ⟨gx, 2, none⟩ (.int .i64 ((rd_T28 l4 i).f1.f1.f0))).setCell ⟨gx, 3, none⟩ (.int .i64 ((rd_T28 l4 i).f1.f1.f1))).setCell ⟨gx, 4, none⟩ (.slice A5 ((rd_T28 l4 i).f2).length c5_))) ?hg ?ho ?hn ?hr ?_; (case ho => rfl); (case hg => rfl); (case hn => rfl); (case hr => first | (go_simp; done) | (go_simp; rfl)); intro w4 hw; have n0_ := am (show Below wr.heap.size wr w4 by rw [hw]; repeat (first | exact HX.out | apply ba | apply bd | apply be | refine below_set ?_ GX.out)); have n1_ : Aside0 (w4.heap[gx]? = some (.cells #[.int .i64 ((rd_T28 l4 i).f0), .string ((rd_T28 l4 i).f1.f0), .int .i64 ((rd_T28 l4 i).f1.f1.f0), .int .i64 ((rd_T28 l4 i).f1.f1.f1), .slice A5 ((rd_T28 l4 i).f2).length c5_] 28 (0, 0))) := ⟨(by rw [hw]; exact (by refine blk_put (cs := #[.int .i64 ((rd_T28 l4 i).f0), .string ((rd_T28 l4 i).f1.f0), .int .i64 ((rd_T28 l4 i).f1.f1.f0), .int .i64 ((rd_T28 l4 i).f1.f1.f1), .slice none 0 0]) ?_ 4 _ rfl; refine blk_put (cs := #[.int .i64 ((rd_T28 l4 i).f0), .string ((rd_T28 l4 i).f1.f0), .int .i64 ((rd_T28 l4 i).f1.f1.f0), .int .i64 0, .slice none 0 0]) ?_ 3 _ rfl; refine blk_put (cs := #[.int .i64 ((rd_T28 l4 i).f0), .string ((rd_T28 l4 i).f1.f0), .int .i64 0, .int .i64 0, .slice none 0 0]) ?_ 2 _ rfl; refine blk_put (cs := #[.int .i64 ((rd_T28 l4 i).f0), .string (⟨#[]⟩ : ByteArray), .int .i64 0, .int .i64 0, .slice none 0 0]) ?_ 1 _ rfl; refine blk_put (cs := #[.int .i64 0, .string (⟨#[]⟩ : ByteArray), .int .i64 0, .int .i64 0, .slice none 0 0]) ?_ 0 _ rfl; exact zB <| BX.out))⟩; have n2_ := am (HG.out.below n0_.out); clear hw HG HX BX; have HG := n2_; have BX := n1_; clear n0_ n1_ n2_; obtain ⟨hcx_0, hcx_1, hcx_2, hcx_3, hcx_4, hfx_0, hfx_1, hfx_2, hfx_3, hfx_4⟩ := b5 BX.out) | ((with_reducible refine gate_callee (f := 41) rfl ?_); refine goesL_ (some 89) rfl rfl Try.func41 (by kernel_rfl) rfl #[.agg #[.int .i64 ((rd_T28 l4 i).f0), .string ((rd_T28 l4 i).f1.f0), .int .i64 ((rd_T28 l4 i).f1.f1.f0), .int .i64 ((rd_T28 l4 i).f1.f1.f1), .slice A5 ((rd_T28 l4 i).f2).length c5_], .pointer (some ⟨g, 0, none⟩)] rfl mp2 ?_; (with_reducible refine (ih k1 (by have := HK1.out; omega) (fun k_ => k_ = g ∨ some k_ = (.slice Ax x.length cx : Value).ownBlock) g (.slice Ax x.length cx) x ((rd_T28 l4 i).f0) ((rd_T28 l4 i).f1.f0) ((rd_T28 l4 i).f1.f1.f0) ((rd_T28 l4 i).f1.f1.f1) A5 c5_ ((rd_T28 l4 i).f2) true y w0 _ ?s1 (.inl rfl) HG.out.ge ?s2 ?s3 ?s4 HC5.out A9.out).mono ?_); (case s1 => exact (request_gather.zG HG.out).B); (case s2 => exact (request_gather.zG HG.out).G); (case s3 => exact Kd.R_mono (Kd.R_tight rfl (request_gather.zG HG.out).R) (fun _ hk => .inr hk)); (case s4 => exact Kd.C_kept_call HR5.out (request_gather.zG HG.out).K (fun k_ hs_ => HG.out.sub k_ hs_)); rintro e w6 ⟨rfl, ⟨u6, hg6, hr6⟩, hb6, hk6⟩; refine ⟨_, rfl, ?_⟩; have n0_ := am ((request_gather.zG HG.out).call hg6 hr6 hb6 hk6); clear HG hg6 hr6 hb6 hk6; have HG := n0_; clear n0_; obtain ⟨A7, c7_, e7⟩ := Kd.R_slice HG.out.R; subst e7))
         go_roundg k1
         case measure => have := HK1.out; omega
         case rel => exact ⟨y, A7, c7_, wrap64 (i + 1), (by first | rfl | (simp; done) | (simp [*]; done)), H, ⟨by have := HK1.out; omega⟩, ⟨request_gather.zG HG.out⟩⟩
       ·rw [if_neg c8] at H
        exact absurd H (by simp)
      ·rw [if_neg c7] at H
       have c7b0 : decide (i < (l4.length : Int)) = false := decide_eq_false c7
       clear c7
       simp only [Option.some.injEq, Prod.mk.injEq] at H
       obtain ⟨rfl, rfl⟩ := H
       go_wp2
       repeat (go_quiet (fail); try go_wp2)
       go_ret
       exact request_gather.done (by first | rfl | (simp; done) | (simp [*]; done)) (request_gather.zG HG.out)


/-! ### request_ValidExpr: function 30 -/
def request_ValidExpr.f (k : Nat) (a0 : Int) (a1 : ByteArray) (a2 a3 : Int) (l4 : List S28) : Option Bool := (request_Nodes.f k a0 a1 a2 a3 l4).bind fun n => if n > 0 then ((request_gather.f k ([] : List S25) a0 a1 a2 a3 l4).bind fun t => some t.1) else some false
theorem request_ValidExpr.mono : ∀ a0 a1 a2 a3 a4 k, LeO (request_ValidExpr.f k a0 a1 a2 a3 a4) (request_ValidExpr.f (k + 1) a0 a1 a2 a3 a4) := by
 intro a0 a1 a2 a3 a4 k
 unfold request_ValidExpr.f
 exact LeO.bind (request_Nodes.mono _ _ _ _ _ _) (fun _ => LeO.ite (LeO.bind (request_gather.mono _ _ _ _ _ _ _) (fun _ => LeO.refl _)) (LeO.refl _))
set_option maxHeartbeats 8000000 in
set_option maxRecDepth 100000 in
theorem request_ValidExpr.calls (k : Nat) (a0 : Int) (a1 : ByteArray) (a2 a3 : Int) (A4 : Option Addr) (c4 : Nat) (l4 : List S28) (r : Bool) (w : World) (hr : Kd.C k28 w A4 l4.length l4) (hc : l4.length ≤ c4) (h : request_ValidExpr.f k a0 a1 a2 a3 l4 = some r) :
 Calls Try.prog 30 #[.agg #[.int .i64 a0, .string a1, .int .i64 a2, .int .i64 a3, .slice A4 l4.length c4]] w fun e w' => e = .returned (.bool r) ∧ Below w.heap.size w w' := by
 have hu28 := Try.underlying28
 have hu29 := Try.underlying29
 have HR := am hr
 have HC := am hc
 clear hr hc
 have HB := am (Below.refl w.heap.size w)
 unfold request_ValidExpr.f at h
 replace h := Option.bind_eq_some_iff.mp h
 obtain ⟨n, A1, h⟩ := h
 replace A1 := am A1
 by_cases c1 : n > 0
 ·rw [if_pos c1] at h
  have c1b : decide (n > 0) = true := decide_eq_true c1
  clear c1
  replace h := Option.bind_eq_some_iff.mp h
  obtain ⟨⟨b, y⟩, A2, h⟩ := h
  replace A2 := am A2
  obtain rfl : b = r := Option.some.inj h
  clear h
  go_enter Try.func30, Try.ntmps30
  go_wp2_with (first | ((with_reducible refine gate_dst (N := 1) rfl ?_); refine box_event ?hg (N := 1) ?hd (cs := #[.int .i64 a0, .string a1, .int .i64 a2, .int .i64 a3, .slice A4 l4.length c4]) (t := 28) ?hr ?_; (case hd => rfl); (case hg => rfl); (case hr => first | (go_simp; done) | (go_simp; rfl)); intro gb hg w1 hbox hb; have n0_ := am (below_step (zL HB.out) hb); have BK := am hbox; clear HB hb hg hbox; have HB := n0_; clear n0_; obtain ⟨hcz_0, hcz_1, hcz_2, hcz_3, hcz_4, hfz_0, hfz_1, hfz_2, hfz_3, hfz_4⟩ := b5 BK.out) | ((with_reducible refine gate_dst (N := 3) rfl ?_); refine box_event ?hg (N := 3) ?hd (cs := #[.slice none 0 0]) (t := 29) ?hr ?_; (case hd => rfl); (case hg => rfl); (case hr => first | (go_simp; done) | (go_simp; rfl)); intro gl hg w2 hbox hb; have n0_ := am (below_step (zL HB.out) hb); have n1_ := am (blk_below (zB BK.out) hb); have n2_ := am (show w.heap.size ≤ gl by rw [hg]; exact below_size (zL HB.out)); have BL := am hbox; clear HB BK hb hg hbox; have HB := n0_; have BK := n1_; have GL := n2_; clear n0_ n1_ n2_; obtain ⟨hczb_0, hczb_1, hczb_2, hczb_3, hczb_4, hfzb_0, hfzb_1, hfzb_2, hfzb_3, hfzb_4⟩ := b5 BK.out) | (go_at_call 40; (with_reducible refine (request_Nodes.calls k a0 a1 a2 a3 _ _ l4 n _ ?s1 ?s2 A1.out).mono ?_); (case s1 => exact Kd.C_below HR.out (by first | exact HB.out | exact zL HB.out)); (case s2 => exact HC.out); rintro e w3 ⟨rfl, hb⟩; have n0_ := am (below_step (zL HB.out) hb); have n1_ := am (blk_below (zB BK.out) hb); have n2_ := am (blk_below (zB BL.out) hb); clear HB BK BL hb; have HB := n0_; have BK := n1_; have BL := n2_; clear n0_ n1_ n2_; obtain ⟨hczc_0, hczc_1, hczc_2, hczc_3, hczc_4, hfzc_0, hfzc_1, hfzc_2, hfzc_3, hfzc_4⟩ := b5 BK.out) | (go_at_call 41; (with_reducible refine (request_gather.calls k (fun k_ => k_ = gl) gl (.slice none 0 0) ([] : List S25) a0 a1 a2 a3 _ _ l4 b y w _ ?t1 rfl GL.out ?t2 ?t3 ?t4 HC.out A2.out).mono ?_); (case t1 => first | exact HB.out | exact zL HB.out); (case t2 => first | exact BL.out | exact zB BL.out); (case t3 => exact Kd.R_nil _ _ _ _ _); (case t4 => exact Kd.C_kept_came k28_heap HR.out (by first | exact HB.out | exact zL HB.out) (fun k_ hs_ => by first | exact hs_ ▸ GL.out | exact .inr (hs_ ▸ GL.out))); rintro e w4 ⟨rfl, _, hb, _⟩; have n0_ := am hb; clear HB hb; have HB := n0_; clear n0_))
  go_ret
  exact ⟨by first | rfl | (simp; done) | (simp [*]; done), by first | exact HB.out | exact zL HB.out⟩
 ·rw [if_neg c1] at h
  have c1b : decide (n > 0) = false := decide_eq_false c1
  clear c1
  obtain rfl := Option.some.inj h
  clear h
  go_enter Try.func30, Try.ntmps30
  go_wp2_with (first | ((with_reducible refine gate_dst (N := 1) rfl ?_); refine box_event ?hg (N := 1) ?hd (cs := #[.int .i64 a0, .string a1, .int .i64 a2, .int .i64 a3, .slice A4 l4.length c4]) (t := 28) ?hr ?_; (case hd => rfl); (case hg => rfl); (case hr => first | (go_simp; done) | (go_simp; rfl)); intro gb hg w1 hbox hb; have n0_ := am (below_step (zL HB.out) hb); have BK := am hbox; clear HB hb hg hbox; have HB := n0_; clear n0_; obtain ⟨hcz_0, hcz_1, hcz_2, hcz_3, hcz_4, hfz_0, hfz_1, hfz_2, hfz_3, hfz_4⟩ := b5 BK.out) | ((with_reducible refine gate_dst (N := 3) rfl ?_); refine box_event ?hg (N := 3) ?hd (cs := #[.slice none 0 0]) (t := 29) ?hr ?_; (case hd => rfl); (case hg => rfl); (case hr => first | (go_simp; done) | (go_simp; rfl)); intro gl hg w2 hbox hb; have n0_ := am (below_step (zL HB.out) hb); have n1_ := am (blk_below (zB BK.out) hb); have n2_ := am (show w.heap.size ≤ gl by rw [hg]; exact below_size (zL HB.out)); have BL := am hbox; clear HB BK hb hg hbox; have HB := n0_; have BK := n1_; have GL := n2_; clear n0_ n1_ n2_; obtain ⟨hczb_0, hczb_1, hczb_2, hczb_3, hczb_4, hfzb_0, hfzb_1, hfzb_2, hfzb_3, hfzb_4⟩ := b5 BK.out) | (go_at_call 40; (with_reducible refine (request_Nodes.calls k a0 a1 a2 a3 _ _ l4 n _ ?s1 ?s2 A1.out).mono ?_); (case s1 => exact Kd.C_below HR.out (by first | exact HB.out | exact zL HB.out)); (case s2 => exact HC.out); rintro e w3 ⟨rfl, hb⟩; have n0_ := am (below_step (zL HB.out) hb); have n1_ := am (blk_below (zB BK.out) hb); have n2_ := am (blk_below (zB BL.out) hb); clear HB BK BL hb; have HB := n0_; have BK := n1_; have BL := n2_; clear n0_ n1_ n2_; obtain ⟨hczc_0, hczc_1, hczc_2, hczc_3, hczc_4, hfzc_0, hfzc_1, hfzc_2, hfzc_3, hfzc_4⟩ := b5 BK.out))
  repeat (go_quiet (fail); try go_wp2)
  go_ret
  exact ⟨by first | rfl | (simp; done) | (simp [*]; done), by first | exact HB.out | exact zL HB.out⟩


/-! ### formula_collect: function 31 -/
mutual
def formula_collect.l0 : Nat → List (S25) → List (S25) → Int → Int → Int → ByteArray → Int → Int → List (S28) → Option ((List (S25)))
 | 0, _, _, _, _, _, _, _, _, _ => none
 | k + 1, x0, x12, x13, x14, x122000, x122001, x122002, x122003, x122004 => if x14 < x13 then (if 0 ≤ x14 then (if x14 < (x12.length : Int) then (if ((((rd_T25 x12 x14).f0).toList) == x122001.toList && ((((rd_T25 x12 x14).f1.f0) == x122002 && (((rd_T25 x12 x14).f1.f1) == x122003)))) = true then (some x0) else (formula_collect.l0 k x0 x12 x13 (wrap64 (x14 + 1)) x122000 x122001 x122002 x122003 x122004)) else (none)) else (none)) else (if x0.length < 4398046511104 then (some (x0 ++ [(⟨x122001, (⟨x122002, x122003⟩ : S23)⟩ : S25)])) else (none))
def formula_collect.l1 : Nat → List (S25) → List (S28) → Int → Int → Option ((List (S25)))
 | 0, _, _, _, _ => none
 | k + 1, x0, x30, x31, x32 => if x32 < x31 then (if 0 ≤ x32 then (if x32 < (x30.length : Int) then ((formula_collect.f k x0 ((rd_T28 x30 x32).f0) ((rd_T28 x30 x32).f1.f0) ((rd_T28 x30 x32).f1.f1.f0) ((rd_T28 x30 x32).f1.f1.f1) ((rd_T28 x30 x32).f2)).bind fun t129 => (formula_collect.l1 k t129 x30 x31 (wrap64 (x32 + 1)))) else (none)) else (none)) else (some x0)
def formula_collect.f : Nat → List (S25) → Int → ByteArray → Int → Int → List (S28) → Option ((List (S25)))
 | 0, _, _, _, _, _, _ => none
 | k + 1, l0, a1_0, a1_1, a1_2, a1_3, l1_4 => if a1_0 = 0 then (formula_collect.l0 k l0 l0 (l0.length : Int) 0 a1_0 a1_1 a1_2 a1_3 l1_4) else (formula_collect.l1 k l0 l1_4 (l1_4.length : Int) 0)
end
theorem formula_collect.mono_l : ∀ k, (∀ y0 y1 y2 y3 y4 y5, LeO (formula_collect.f k y0 y1 y2 y3 y4 y5) (formula_collect.f (k + 1) y0 y1 y2 y3 y4 y5)) ∧ (∀ y0 y1 y2 y3 y4 y5 y6 y7 y8, LeO (formula_collect.l0 k y0 y1 y2 y3 y4 y5 y6 y7 y8) (formula_collect.l0 (k + 1) y0 y1 y2 y3 y4 y5 y6 y7 y8)) ∧ (∀ y0 y1 y2 y3, LeO (formula_collect.l1 k y0 y1 y2 y3) (formula_collect.l1 (k + 1) y0 y1 y2 y3))
 | 0 => ⟨fun _ _ _ _ _ _ r h => by simp [formula_collect.f] at h, fun _ _ _ _ _ _ _ _ _ r h => by simp [formula_collect.l0] at h, fun _ _ _ _ r h => by simp [formula_collect.l1] at h⟩
 | k + 1 => by
  obtain ⟨ih0, ih1, ih2⟩ := formula_collect.mono_l k
  refine ⟨?_, ?_, ?_⟩
  ·intro y0 y1 y2 y3 y4 y5
   unfold formula_collect.f
   repeat' first
   | (with_reducible exact ih0 _ _ _ _ _ _)
   | (with_reducible exact ih1 _ _ _ _ _ _ _ _ _)
   | (with_reducible exact ih2 _ _ _ _)
   | (with_reducible exact LeO.refl _)
   | (with_reducible exact LeO.none _)
   | (with_reducible refine LeO.ite ?_ ?_)
   | (with_reducible refine LeO.bind ?_ (fun _ => ?_))
   | exact ih0 _ _ _ _ _ _
   | exact ih1 _ _ _ _ _ _ _ _ _
   | exact ih2 _ _ _ _
   | exact LeO.none _
   | refine LeO.ite ?_ ?_
   | refine LeO.bind ?_ (fun _ => ?_)
  ·intro y0 y1 y2 y3 y4 y5 y6 y7 y8
   unfold formula_collect.l0
   repeat' first
   | (with_reducible exact ih0 _ _ _ _ _ _)
   | (with_reducible exact ih1 _ _ _ _ _ _ _ _ _)
   | (with_reducible exact ih2 _ _ _ _)
   | (with_reducible exact LeO.refl _)
   | (with_reducible exact LeO.none _)
   | (with_reducible refine LeO.ite ?_ ?_)
   | (with_reducible refine LeO.bind ?_ (fun _ => ?_))
   | exact ih0 _ _ _ _ _ _
   | exact ih1 _ _ _ _ _ _ _ _ _
   | exact ih2 _ _ _ _
   | exact LeO.none _
   | refine LeO.ite ?_ ?_
   | refine LeO.bind ?_ (fun _ => ?_)
  ·intro y0 y1 y2 y3
   unfold formula_collect.l1
   repeat' first
   | (with_reducible exact ih0 _ _ _ _ _ _)
   | (with_reducible exact ih1 _ _ _ _ _ _ _ _ _)
   | (with_reducible exact ih2 _ _ _ _)
   | (with_reducible exact LeO.refl _)
   | (with_reducible exact LeO.none _)
   | (with_reducible refine LeO.ite ?_ ?_)
   | (with_reducible refine LeO.bind ?_ (fun _ => ?_))
   | exact ih0 _ _ _ _ _ _
   | exact ih1 _ _ _ _ _ _ _ _ _
   | exact ih2 _ _ _ _
   | exact LeO.none _
   | refine LeO.ite ?_ ?_
   | refine LeO.bind ?_ (fun _ => ?_)
theorem formula_collect.mono : ∀ a0 a1 a2 a3 a4 a5 k, LeO (formula_collect.f k a0 a1 a2 a3 a4 a5) (formula_collect.f (k + 1) a0 a1 a2 a3 a4 a5) := by
 intro a0 a1 a2 a3 a4 a5 k
 obtain ⟨ih0, ih1, ih2⟩ := formula_collect.mono_l k
 exact ih0 a0 a1 a2 a3 a4 a5
set_option maxHeartbeats 8000000 in
set_option maxRecDepth 100000 in
theorem formula_collect.calls (k : Nat) : ∀ (P0_ : Nat → Prop) (u9000_ : Value) (l0 : List (S25)) (a1_0 : Int) (a1_1 : ByteArray) (a1_2 : Int) (a1_3 : Int) (A1_4 : Option Addr) (c1_4 : Nat) (l1_4 : List (S28)) (r : List (S25)) (w0 w : World) (hB : Below w0.heap.size w0 w) (ho0 : Kd.R k25 25 w w0.heap.size P0_ u9000_ l0) (hr1_4 : ∀ W_, Kept w W_ (fun k_ => P0_ k_) → Kd.C k28 W_ A1_4 l1_4.length l1_4) (hc1_4 : l1_4.length ≤ c1_4) (h : formula_collect.f k l0 a1_0 a1_1 a1_2 a1_3 l1_4 = some r),
  Calls Try.prog 31 #[u9000_, .agg #[.int .i64 a1_0, .string a1_1, .int .i64 a1_2, .int .i64 a1_3, .slice A1_4 l1_4.length c1_4]] w fun e w' => ∃ v0_ : Value, e = .returned (v0_) ∧ Kd.R k25 25 w' w0.heap.size (fun k_ => (P0_ k_ ∨ w.heap.size ≤ k_)) v0_ r ∧ Below w0.heap.size w0 w' ∧ Kept w w' (fun k_ => P0_ k_) := by
 induction k using Nat.strongRecOn with
 | _ k ih =>
 intro P0_ u9000_ l0 a1_0 a1_1 a1_2 a1_3 A1_4 c1_4 l1_4 r w0 w hB ho0 hr1_4 hc1_4 h
 cases k with
 | zero => exact absurd h (by simp [formula_collect.f])
 | succ k =>
 simp only [formula_collect.f] at h
 have hu28 := Try.underlying28
 have hu25 := Try.underlying25
 have HO0 := am (show Kd.R k25 25 w w0.heap.size (fun k_ => (P0_ k_ ∨ w.heap.size ≤ k_)) u9000_ l0 from Kd.R_mono ho0 (fun k_ hk => (.inl hk)))
 have HR1_4 := Aside0.mk hr1_4
 have HC1_4 := Aside0.mk hc1_4
 clear hr1_4 hc1_4
 have HK := am (Kept.refl w (fun k_ => P0_ k_))
 have HW0 := Aside0.mk hB.size
 have HB := Aside0.mk hB
 clear hB
 have H : (if a1_0 = 0 then (formula_collect.l0 k l0 l0 (l0.length : Int) 0 a1_0 a1_1 a1_2 a1_3 l1_4) else (formula_collect.l1 k l0 l1_4 (l1_4.length : Int) 0)) = some r := h
 clear h
 by_cases c3 : a1_0 = 0
 ·rw [if_pos c3] at H
  have c3b0 : (a1_0 == 0) = true := beq_iff_eq.mpr c3
  have c3b1 : (a1_0 != 0) = false := bne_eq_false_iff_eq.mpr c3
  clear c3
  have H' := Aside0.mk H
  clear H
  go_enter Try.func31, Try.ntmps31
  go_wp2_with (first | ((with_reducible refine gate_dst (N := 3) rfl ?_); refine box_event ?hg (N := 3) ?hd (cs := #[.int .i64 a1_0, .string a1_1, .int .i64 a1_2, .int .i64 a1_3, .slice A1_4 l1_4.length c1_4]) (t := 28) ?hr ?_; (case hd => rfl); (case hg => rfl); (case hr => first | (go_simp; done) | (go_simp; rfl)); intro gb121 hg w4 hbox hb; have n0_ := am (Kd.R_below (zR HO0.out) hb); have n1_ := am (Kept.below (S := (fun k_ => P0_ k_)) (zK HK.out) hb); have n2_ := am (below_step (zL HB.out) hb); have n3_ := am (hbox); have n4_ := am ((by rw [hg]; exact (by first | exact HK.out.1 | exact (show Kept w _ (fun k_ => P0_ k_) from zK HK.out).1) : w.heap.size ≤ gb121)); have n5_ := am ((by rw [hg]; exact (below_size (zL HB.out)) : w0.heap.size ≤ gb121)); clear HO0 HK HB; have HO0 := n0_; have HK := n1_; have HB := n2_; have BK121 := n3_; have GW121 := n4_; have GE121 := n5_; clear n0_ n1_ n2_ n3_ n4_ n5_; clear hb hbox hg; obtain ⟨hcz5_0, hcz5_1, hcz5_2, hcz5_3, hcz5_4, hfz5_0, hfz5_1, hfz5_2, hfz5_3, hfz5_4⟩ := b5 BK121.out; obtain ⟨Ao6, co6, eo6⟩ := Kd.R_slice HO0.out; subst eo6))
  go_loopg [14] k (fun kq v14 w' => ∃ (x14_1 : Int), v14 = .int .i64 x14_1 ∧ Aside0 (formula_collect.l0 kq l0 l0 (l0.length : Int) x14_1 a1_0 a1_1 a1_2 a1_3 l1_4 = some r) ∧ Aside0 (kq ≤ k) ∧ Aside0 (Kd.R k25 25 w' w0.heap.size (fun k_ => (P0_ k_ ∨ w.heap.size ≤ k_)) (.slice Ao6 l0.length co6) l0) ∧ Aside0 (Kd.R k25 25 w' w0.heap.size (fun k_ => (P0_ k_ ∨ w.heap.size ≤ k_)) (.slice Ao6 l0.length co6) l0) ∧ Aside0 (w'.heap[gb121]? = some (.cells #[.int .i64 a1_0, .string a1_1, .int .i64 a1_2, .int .i64 a1_3, (.slice A1_4 l1_4.length c1_4)] 28 (0, 0))) ∧ Aside0 (Kept w w' (fun k_ => P0_ k_)) ∧ Aside0 (Below w0.heap.size w0 w'))
  case atStart => exact ⟨(0), (by first | rfl | (simp; done) | (simp [*]; done)), H', ⟨Nat.le_refl _⟩, ⟨by exact zR HO0.out⟩, ⟨by exact zR HO0.out⟩, ⟨by exact zB <| BK121.out⟩, ⟨by repeat (first | (with_reducible first | exact HK.out | apply Kept.alloc | apply Kept.drewN | apply Kept.drew | refine Kept.setCell ?_ (.inr GW121.out) _) | exact HK.out)⟩, ⟨by repeat (first | (with_reducible first | exact HB.out | apply ba | apply bd | apply be | refine below_set ?_ GE121.out) | exact HB.out)⟩⟩
  case round =>
   clear H'
   try clear c1
   try clear p2
   try clear c3
   try clear c3b0
   try clear c3b1
   try clear hcz5_0
   try clear hcz5_1
   try clear hcz5_2
   try clear hcz5_3
   try clear hcz5_4
   try clear hfz5_0
   try clear hfz5_1
   try clear hfz5_2
   try clear hfz5_3
   try clear hfz5_4
   obtain ⟨x14_1, rfl, HA, HK1, HO_0, HO_12, BK121, HK, HB⟩ := hrel
   cases gk with
   | zero => exact absurd HA.out (by simp [formula_collect.l0])
   | succ k1 =>
    have H := HA.out
    clear HA
    simp only [formula_collect.l0] at H
    by_cases c7 : x14_1 < (l0.length : Int)
    ·rw [if_pos c7] at H
     have c7b0 : decide (x14_1 < (l0.length : Int)) = true := decide_eq_true c7
     clear c7
     by_cases c8 : 0 ≤ x14_1
     ·rw [if_pos c8] at H
      have c8b0 : decide (0 ≤ x14_1) = true := decide_eq_true c8
      clear c8
      by_cases c9 : x14_1 < (l0.length : Int)
      ·rw [if_pos c9] at H
       have c9b0 : decide (x14_1 < (l0.length : Int)) = true := decide_eq_true c9
       clear c9
       by_cases c10 : ((((rd_T25 l0 x14_1).f0).toList) == a1_1.toList && ((((rd_T25 l0 x14_1).f1.f0) == a1_2 && (((rd_T25 l0 x14_1).f1.f1) == a1_3)))) = true
       ·rw [if_pos c10] at H
        have c10b0 : ((((rd_T25 l0 x14_1).f0).toList) == a1_1.toList && ((((rd_T25 l0 x14_1).f1.f0) == a1_2 && (((rd_T25 l0 x14_1).f1.f1) == a1_3)))) = true := c10
        (try (have c10b1 : decide ((((rd_T25 l0 x14_1).f0).toList) = a1_1.toList && ((((rd_T25 l0 x14_1).f1.f0) == a1_2 && (((rd_T25 l0 x14_1).f1.f1) == a1_3)))) = true := by simpa using c10))
        (try (have c10b2 : ((((rd_T25 l0 x14_1).f0).toList) == a1_1.toList && ((((rd_T25 l0 x14_1).f1.f0) == a1_2 && (((rd_T25 l0 x14_1).f1.f1) == a1_3)))) = true := by simpa using c10))
        clear c10
        obtain rfl := Option.some.inj H
        have p122 : 0 ≤ (x14_1 : Int) := of_decide_eq_true (by first | (with_reducible assumption) | assumption)
        have q122 : x14_1 < (l0.length : Int) := of_decide_eq_true (by first | (with_reducible assumption) | assumption)
        obtain ⟨ad122, e122, hx122_0, hx122_1, hx122_2⟩ := at_T25 (Kd.R_reads' HO_12.out).2.2 x14_1 p122 q122
        cases e122
        replace p122 := eq_true p122
        replace q122 := eq_true q122
        go_wp2_with (first | ((with_reducible refine gate_dst (N := 6) rfl ?_); refine box_event ?hg (N := 6) ?hd (cs := #[.string (⟨#[]⟩ : ByteArray), .int .i64 0, .int .i64 0]) (t := 25) ?hr ?_; (case hd => rfl); (case hg => rfl); (case hr => first | (go_simp; done) | (go_simp; rfl)); intro gb123 hg w11 hbox hb; have n0_ := am (Kd.R_below (Kd.R_elderB (zR HO_0.out) gb123 (Nat.le_of_eq hg.symm)) hb); have n1_ := am (Kd.R_below (Kd.R_elderB (zR HO_12.out) gb123 (Nat.le_of_eq hg.symm)) hb); have n2_ := am (blk_below (zB BK121.out) hb); have n3_ := am (Kept.below (S := (fun k_ => P0_ k_)) (zK HK.out) hb); have n4_ := am (below_step (zL HB.out) hb); have n5_ := am (hbox); have n6_ := am ((by rw [hg]; exact (by first | exact HK.out.1 | exact (show Kept w _ (fun k_ => P0_ k_) from zK HK.out).1) : w.heap.size ≤ gb123)); have n7_ := am ((by rw [hg]; exact (below_size (zL HB.out)) : w0.heap.size ≤ gb123)); have n8_ := am (zN hg BK121.out); have n9_ := am (zM hg BK121.out); clear HO_0 HO_12 BK121 HK HB; have HO_0 := n0_; have HO_12 := n1_; have BK121 := n2_; have HK := n3_; have HB := n4_; have BK123 := n5_; have GW123 := n6_; have GE123 := n7_; have NB121_123 := n8_; have NB123_121 := n9_; clear n0_ n1_ n2_ n3_ n4_ n5_ n6_ n7_ n8_ n9_; clear hb hbox hg; have hnb12 := NB123_121.out; have hnc12 := NB121_123.out; obtain ⟨hcz13_0, hcz13_1, hcz13_2, hfz13_0, hfz13_1, hfz13_2⟩ := b3 BK123.out) | ((with_reducible refine gate_store (t := 25) (p := 6) rfl ?_); refine store_event (t := 25) (p := 6) (v := ?vo_w14) (w1 := (((w11.setCell ⟨gb123, 0, none⟩ (.string ((rd_T25 l0 x14_1).f0))).setCell ⟨gb123, 1, none⟩ (.int .i64 ((rd_T25 l0 x14_1).f1.f0))).setCell ⟨gb123, 2, none⟩ (.int .i64 ((rd_T25 l0 x14_1).f1.f1)))) ?hg ?ho ?hn ?hr ?_; (case ho => rfl); (case hg => rfl); (case hn => rfl); (case hr => first | (go_simp; done) | (go_simp; rfl)); intro w14 hw; have n0_ : Aside0 (Kd.R k25 25 w14 w0.heap.size (fun k_ => (P0_ k_ ∨ w.heap.size ≤ k_) ∧ k_ ≠ gb123) (.slice (some ad122) l0.length co6) l0) := ⟨(by rw [hw]; exact (by exact zR <| Kd.R_mono (Kd.R_far (p := ⟨gb123, 2, none⟩) (Kd.R_far (p := ⟨gb123, 1, none⟩) (Kd.R_far (p := ⟨gb123, 0, none⟩) (Kd.R_mono HO_0.out (fun k_ hk => (⟨hk, hk.2⟩ : _ ∧ k_ ≠ gb123))) (fun _ hk => hk.2) (.string ((rd_T25 l0 x14_1).f0))) (fun _ hk => hk.2) (.int .i64 ((rd_T25 l0 x14_1).f1.f0))) (fun _ hk => hk.2) (.int .i64 ((rd_T25 l0 x14_1).f1.f1))) (fun _ hk => ⟨hk.1.1, hk.1.2⟩)))⟩; have n1_ : Aside0 (Kd.R k25 25 w14 w0.heap.size (fun k_ => (P0_ k_ ∨ w.heap.size ≤ k_) ∧ k_ ≠ gb123) (.slice (some ad122) l0.length co6) l0) := ⟨(by rw [hw]; exact (by exact zR <| Kd.R_mono (Kd.R_far (p := ⟨gb123, 2, none⟩) (Kd.R_far (p := ⟨gb123, 1, none⟩) (Kd.R_far (p := ⟨gb123, 0, none⟩) (Kd.R_mono HO_12.out (fun k_ hk => (⟨hk, hk.2⟩ : _ ∧ k_ ≠ gb123))) (fun _ hk => hk.2) (.string ((rd_T25 l0 x14_1).f0))) (fun _ hk => hk.2) (.int .i64 ((rd_T25 l0 x14_1).f1.f0))) (fun _ hk => hk.2) (.int .i64 ((rd_T25 l0 x14_1).f1.f1))) (fun _ hk => ⟨hk.1.1, hk.1.2⟩)))⟩; have n2_ : Aside0 (w14.heap[gb121]? = some (.cells #[.int .i64 a1_0, .string a1_1, .int .i64 a1_2, .int .i64 a1_3, .slice A1_4 l1_4.length c1_4] 28 (0, 0))) := ⟨(by rw [hw]; exact (by refine blk_far ?_ NB121_123.out _; refine blk_far ?_ NB121_123.out _; refine blk_far ?_ NB121_123.out _; exact zB <| BK121.out))⟩; have n3_ : Aside0 (w14.heap[gb123]? = some (.cells #[.string ((rd_T25 l0 x14_1).f0), .int .i64 ((rd_T25 l0 x14_1).f1.f0), .int .i64 ((rd_T25 l0 x14_1).f1.f1)] 25 (0, 0))) := ⟨(by rw [hw]; exact (by refine blk_put (cs := #[.string ((rd_T25 l0 x14_1).f0), .int .i64 ((rd_T25 l0 x14_1).f1.f0), .int .i64 0]) ?_ 2 _ rfl; refine blk_put (cs := #[.string ((rd_T25 l0 x14_1).f0), .int .i64 0, .int .i64 0]) ?_ 1 _ rfl; refine blk_put (cs := #[.string (⟨#[]⟩ : ByteArray), .int .i64 0, .int .i64 0]) ?_ 0 _ rfl; exact zB <| BK123.out))⟩; have n4_ : Aside0 (Kept w w14 (fun k_ => P0_ k_)) := ⟨(by rw [hw]; exact (by repeat (first | (with_reducible first | exact HK.out | apply Kept.alloc | apply Kept.drewN | apply Kept.drew | refine Kept.setCell ?_ (.inr GW121.out) _ | refine Kept.setCell ?_ (.inr GW123.out) _) | exact HK.out)))⟩; have n5_ : Aside0 (Below w0.heap.size w0 w14) := ⟨(by rw [hw]; exact (by repeat (first | (with_reducible first | exact HB.out | apply ba | apply bd | apply be | refine below_set ?_ GE121.out | refine below_set ?_ GE123.out) | exact HB.out)))⟩; clear hw HO_0 HO_12 BK121 BK123 HK HB; have HO_0 := n0_; have HO_12 := n1_; have BK121 := n2_; have BK123 := n3_; have HK := n4_; have HB := n5_; clear n0_ n1_ n2_ n3_ n4_ n5_; obtain ⟨hcz15_0, hcz15_1, hcz15_2, hfz15_0, hfz15_1, hfz15_2⟩ := b3 BK123.out; obtain ⟨hcz16_0, hcz16_1, hcz16_2, hcz16_3, hcz16_4, hfz16_0, hfz16_1, hfz16_2, hfz16_3, hfz16_4⟩ := b5 BK121.out))
        go_ret
        exact ⟨_, by first | rfl | (simp [errW_none, errW_some] <;> rfl) | (simp [*, errW_none, errW_some] <;> rfl), by exact zR <| Kd.R_mono HO_0.out (fun _ hk => hk.1), by repeat (first | (with_reducible first | exact HB.out | apply ba | apply bd | apply be | refine below_set ?_ GE121.out | refine below_set ?_ GE123.out) | exact HB.out), by repeat (first | (with_reducible first | exact HK.out | apply Kept.alloc | apply Kept.drewN | apply Kept.drew | refine Kept.setCell ?_ (.inr GW121.out) _ | refine Kept.setCell ?_ (.inr GW123.out) _) | exact HK.out)⟩
       ·rw [if_neg c10] at H
        have c10b0 : ((((rd_T25 l0 x14_1).f0).toList) == a1_1.toList && ((((rd_T25 l0 x14_1).f1.f0) == a1_2 && (((rd_T25 l0 x14_1).f1.f1) == a1_3)))) = false := by simpa using c10
        (try (have c10b1 : decide ((((rd_T25 l0 x14_1).f0).toList) = a1_1.toList && ((((rd_T25 l0 x14_1).f1.f0) == a1_2 && (((rd_T25 l0 x14_1).f1.f1) == a1_3)))) = false := by simpa using c10))
        (try (have c10b2 : ((((rd_T25 l0 x14_1).f0).toList) == a1_1.toList && ((((rd_T25 l0 x14_1).f1.f0) == a1_2 && (((rd_T25 l0 x14_1).f1.f1) == a1_3)))) = false := by simpa using c10))
        (try (have c10b3 : ¬ ((((rd_T25 l0 x14_1).f0).toList) = a1_1.toList && ((((rd_T25 l0 x14_1).f1.f0) == a1_2 && (((rd_T25 l0 x14_1).f1.f1) == a1_3)))) := by simpa using c10))
        clear c10
        have H' := Aside0.mk H
        clear H
        have p122 : 0 ≤ (x14_1 : Int) := of_decide_eq_true (by first | (with_reducible assumption) | assumption)
        have q122 : x14_1 < (l0.length : Int) := of_decide_eq_true (by first | (with_reducible assumption) | assumption)
        obtain ⟨ad122, e122, hx122_0, hx122_1, hx122_2⟩ := at_T25 (Kd.R_reads' HO_12.out).2.2 x14_1 p122 q122
        cases e122
        replace p122 := eq_true p122
        replace q122 := eq_true q122
        go_wp2_with (first | ((with_reducible refine gate_dst (N := 6) rfl ?_); refine box_event ?hg (N := 6) ?hd (cs := #[.string (⟨#[]⟩ : ByteArray), .int .i64 0, .int .i64 0]) (t := 25) ?hr ?_; (case hd => rfl); (case hg => rfl); (case hr => first | (go_simp; done) | (go_simp; rfl)); intro gb123 hg w17 hbox hb; have n0_ := am (Kd.R_below (Kd.R_elderB (zR HO_0.out) gb123 (Nat.le_of_eq hg.symm)) hb); have n1_ := am (Kd.R_below (Kd.R_elderB (zR HO_12.out) gb123 (Nat.le_of_eq hg.symm)) hb); have n2_ := am (blk_below (zB BK121.out) hb); have n3_ := am (Kept.below (S := (fun k_ => P0_ k_)) (zK HK.out) hb); have n4_ := am (below_step (zL HB.out) hb); have n5_ := am (hbox); have n6_ := am ((by rw [hg]; exact (by first | exact HK.out.1 | exact (show Kept w _ (fun k_ => P0_ k_) from zK HK.out).1) : w.heap.size ≤ gb123)); have n7_ := am ((by rw [hg]; exact (below_size (zL HB.out)) : w0.heap.size ≤ gb123)); have n8_ := am (zN hg BK121.out); have n9_ := am (zM hg BK121.out); clear HO_0 HO_12 BK121 HK HB; have HO_0 := n0_; have HO_12 := n1_; have BK121 := n2_; have HK := n3_; have HB := n4_; have BK123 := n5_; have GW123 := n6_; have GE123 := n7_; have NB121_123 := n8_; have NB123_121 := n9_; clear n0_ n1_ n2_ n3_ n4_ n5_ n6_ n7_ n8_ n9_; clear hb hbox hg; have hnb18 := NB123_121.out; have hnc18 := NB121_123.out; obtain ⟨hcz19_0, hcz19_1, hcz19_2, hfz19_0, hfz19_1, hfz19_2⟩ := b3 BK123.out) | ((with_reducible refine gate_store (t := 25) (p := 6) rfl ?_); refine store_event (t := 25) (p := 6) (v := ?vo_w20) (w1 := (((w17.setCell ⟨gb123, 0, none⟩ (.string ((rd_T25 l0 x14_1).f0))).setCell ⟨gb123, 1, none⟩ (.int .i64 ((rd_T25 l0 x14_1).f1.f0))).setCell ⟨gb123, 2, none⟩ (.int .i64 ((rd_T25 l0 x14_1).f1.f1)))) ?hg ?ho ?hn ?hr ?_; (case ho => rfl); (case hg => rfl); (case hn => rfl); (case hr => first | (go_simp; done) | (go_simp; rfl)); intro w20 hw; have n0_ : Aside0 (Kd.R k25 25 w20 w0.heap.size (fun k_ => (P0_ k_ ∨ w.heap.size ≤ k_) ∧ k_ ≠ gb123) (.slice (some ad122) l0.length co6) l0) := ⟨(by rw [hw]; exact (by exact zR <| Kd.R_mono (Kd.R_far (p := ⟨gb123, 2, none⟩) (Kd.R_far (p := ⟨gb123, 1, none⟩) (Kd.R_far (p := ⟨gb123, 0, none⟩) (Kd.R_mono HO_0.out (fun k_ hk => (⟨hk, hk.2⟩ : _ ∧ k_ ≠ gb123))) (fun _ hk => hk.2) (.string ((rd_T25 l0 x14_1).f0))) (fun _ hk => hk.2) (.int .i64 ((rd_T25 l0 x14_1).f1.f0))) (fun _ hk => hk.2) (.int .i64 ((rd_T25 l0 x14_1).f1.f1))) (fun _ hk => ⟨hk.1.1, hk.1.2⟩)))⟩; have n1_ : Aside0 (Kd.R k25 25 w20 w0.heap.size (fun k_ => (P0_ k_ ∨ w.heap.size ≤ k_) ∧ k_ ≠ gb123) (.slice (some ad122) l0.length co6) l0) := ⟨(by rw [hw]; exact (by exact zR <| Kd.R_mono (Kd.R_far (p := ⟨gb123, 2, none⟩) (Kd.R_far (p := ⟨gb123, 1, none⟩) (Kd.R_far (p := ⟨gb123, 0, none⟩) (Kd.R_mono HO_12.out (fun k_ hk => (⟨hk, hk.2⟩ : _ ∧ k_ ≠ gb123))) (fun _ hk => hk.2) (.string ((rd_T25 l0 x14_1).f0))) (fun _ hk => hk.2) (.int .i64 ((rd_T25 l0 x14_1).f1.f0))) (fun _ hk => hk.2) (.int .i64 ((rd_T25 l0 x14_1).f1.f1))) (fun _ hk => ⟨hk.1.1, hk.1.2⟩)))⟩; have n2_ : Aside0 (w20.heap[gb121]? = some (.cells #[.int .i64 a1_0, .string a1_1, .int .i64 a1_2, .int .i64 a1_3, .slice A1_4 l1_4.length c1_4] 28 (0, 0))) := ⟨(by rw [hw]; exact (by refine blk_far ?_ NB121_123.out _; refine blk_far ?_ NB121_123.out _; refine blk_far ?_ NB121_123.out _; exact zB <| BK121.out))⟩; have n3_ : Aside0 (w20.heap[gb123]? = some (.cells #[.string ((rd_T25 l0 x14_1).f0), .int .i64 ((rd_T25 l0 x14_1).f1.f0), .int .i64 ((rd_T25 l0 x14_1).f1.f1)] 25 (0, 0))) := ⟨(by rw [hw]; exact (by refine blk_put (cs := #[.string ((rd_T25 l0 x14_1).f0), .int .i64 ((rd_T25 l0 x14_1).f1.f0), .int .i64 0]) ?_ 2 _ rfl; refine blk_put (cs := #[.string ((rd_T25 l0 x14_1).f0), .int .i64 0, .int .i64 0]) ?_ 1 _ rfl; refine blk_put (cs := #[.string (⟨#[]⟩ : ByteArray), .int .i64 0, .int .i64 0]) ?_ 0 _ rfl; exact zB <| BK123.out))⟩; have n4_ : Aside0 (Kept w w20 (fun k_ => P0_ k_)) := ⟨(by rw [hw]; exact (by repeat (first | (with_reducible first | exact HK.out | apply Kept.alloc | apply Kept.drewN | apply Kept.drew | refine Kept.setCell ?_ (.inr GW121.out) _ | refine Kept.setCell ?_ (.inr GW123.out) _) | exact HK.out)))⟩; have n5_ : Aside0 (Below w0.heap.size w0 w20) := ⟨(by rw [hw]; exact (by repeat (first | (with_reducible first | exact HB.out | apply ba | apply bd | apply be | refine below_set ?_ GE121.out | refine below_set ?_ GE123.out) | exact HB.out)))⟩; clear hw HO_0 HO_12 BK121 BK123 HK HB; have HO_0 := n0_; have HO_12 := n1_; have BK121 := n2_; have BK123 := n3_; have HK := n4_; have HB := n5_; clear n0_ n1_ n2_ n3_ n4_ n5_; obtain ⟨hcz21_0, hcz21_1, hcz21_2, hfz21_0, hfz21_1, hfz21_2⟩ := b3 BK123.out; obtain ⟨hcz22_0, hcz22_1, hcz22_2, hcz22_3, hcz22_4, hfz22_0, hfz22_1, hfz22_2, hfz22_3, hfz22_4⟩ := b5 BK121.out))
        go_roundg k1
        case measure => have := HK1.out; omega
        case rel => exact ⟨(wrap64 (x14_1 + 1)), (by first | rfl | (simp; done) | (simp [*]; done)), H', ⟨by have := HK1.out; omega⟩, ⟨by exact zR <| Kd.R_mono HO_0.out (fun _ hk => hk.1)⟩, ⟨by exact zR <| Kd.R_mono HO_12.out (fun _ hk => hk.1)⟩, ⟨by exact zB <| BK121.out⟩, ⟨by repeat (first | (with_reducible first | exact HK.out | apply Kept.alloc | apply Kept.drewN | apply Kept.drew | refine Kept.setCell ?_ (.inr GW121.out) _ | refine Kept.setCell ?_ (.inr GW123.out) _) | exact HK.out)⟩, ⟨by repeat (first | (with_reducible first | exact HB.out | apply ba | apply bd | apply be | refine below_set ?_ GE121.out | refine below_set ?_ GE123.out) | exact HB.out)⟩⟩
      ·rw [if_neg c9] at H
       exact absurd H (by simp)
     ·rw [if_neg c8] at H
      exact absurd H (by simp)
    ·rw [if_neg c7] at H
     have c7b0 : decide (x14_1 < (l0.length : Int)) = false := decide_eq_false c7
     clear c7
     by_cases c23 : l0.length < 4398046511104
     ·rw [if_pos c23] at H
      have LMc23 := Aside0.mk c23
      clear c23
      obtain ⟨y124, hy124⟩ : ∃ y_ : List (S25), y_ = (l0 ++ [(⟨a1_1, (⟨a1_2, a1_3⟩ : S23)⟩ : S25)]) := ⟨_, rfl⟩
      replace H : (some y124) = some r := by first | (rw [hy124]; with_reducible exact H) | (have H2_ := (Option.bind_some _ _).symm.trans H; rw [hy124]; with_reducible exact H2_) | (have H2_ := (Option.bind_some _ _).symm.trans H; with_reducible exact H2_) | with_reducible exact H | (rw [hy124]; exact H) | exact H
      have Ny124 := Aside0.mk hy124
      clear hy124
      obtain rfl := Option.some.inj H
      obtain ⟨hcz24_0, hcz24_1, hcz24_2, hcz24_3, hcz24_4, hfz24_0, hfz24_1, hfz24_2, hfz24_3, hfz24_4⟩ := b5 BK121.out
      go_wp2_with (first | ((with_reducible refine gate_builtin (b := .append) (xs := #[.tmp 24, .tmp 27]) rfl ?_); at_builtin; refine Kd.R_append k25 (w0 := w0) w0.heap.size rfl (.tmp 24) (.tmp 27) 29 25 (.agg #[(.string ⟨#[]⟩), (.int .i64 0), (.int .i64 0)]) 32 rfl Try.underlying29 info25 rfl (by decide) (by omega) (.slice Ao6 l0.length co6) l0 (⟨a1_1, (⟨a1_2, a1_3⟩ : S23)⟩ : S25) [.string a1_1, .int .i64 a1_2, .int .i64 a1_3] (fun k_ => (P0_ k_ ∨ w.heap.size ≤ k_)) (fun _ => False) rfl rfl ?aP (fun _ hk => hk.elim) ?aF ?aO ?aB ?aS ?aL ?_; (case aP => exact k25_mkM _ _ _ (⟨a1_1, (⟨a1_2, a1_3⟩ : S23)⟩ : S25)); (case aB => exact (zL HB.out)); (case aF => exact (fun k_ hk => (.inr (Nat.le_trans (by first | exact HK.out.1 | exact (show Kept w _ (fun k_ => P0_ k_) from zK HK.out).1) hk)))); (case aO => exact (zR HO_0.out)); (case aS => exact (below_size (zL HB.out))); (case aL => have := LMc23.out; omega); intro v125 w25 ho hb hg hat; rw [← Ny124.out] at ho; have n0_ := am (blk_grown (g := gb121) (o := .cells #[.int .i64 a1_0, .string a1_1, .int .i64 a1_2, .int .i64 a1_3, .slice A1_4 l1_4.length c1_4] 28 (0, 0)) (zB BK121.out) hg (Kd.R_ne HO_0.out BK121.out (by decide))); have n1_ := am (hb); have n2_ := am (Kept.of_grown (S := (fun k_ => P0_ k_)) hg (zK HK.out) (fun k_ e_ => (HO_0.out.1 k_ e_))); have n3_ := am (ho); clear BK121 HB HK HO_0; have BK121 := n0_; have HB := n1_; have HK := n2_; have HO126 := n3_; clear n0_ n1_ n2_ n3_; clear ho hb hg hat))
      go_ret
      exact ⟨_, by first | rfl | (simp [errW_none, errW_some] <;> rfl) | (simp [*, errW_none, errW_some] <;> rfl), by exact zR HO126.out, by repeat (first | (with_reducible first | exact HB.out | apply ba | apply bd | apply be | refine below_set ?_ GE121.out) | exact HB.out), by repeat (first | (with_reducible first | exact HK.out | apply Kept.alloc | apply Kept.drewN | apply Kept.drew | refine Kept.setCell ?_ (.inr GW121.out) _) | exact HK.out)⟩
     ·rw [if_neg c23] at H
      exact absurd H (by simp)
 ·rw [if_neg c3] at H
  have c3b0 : (a1_0 == 0) = false := beq_eq_false_iff_ne.mpr c3
  have c3b1 : (a1_0 != 0) = true := bne_iff_ne.mpr c3
  have H' := Aside0.mk H
  clear H
  go_enter Try.func31, Try.ntmps31
  go_wp2_with (first | ((with_reducible refine gate_dst (N := 3) rfl ?_); refine box_event ?hg (N := 3) ?hd (cs := #[.int .i64 a1_0, .string a1_1, .int .i64 a1_2, .int .i64 a1_3, .slice A1_4 l1_4.length c1_4]) (t := 28) ?hr ?_; (case hd => rfl); (case hg => rfl); (case hr => first | (go_simp; done) | (go_simp; rfl)); intro gb121 hg w26 hbox hb; have n0_ := am (Kd.R_below (zR HO0.out) hb); have n1_ := am (Kept.below (S := (fun k_ => P0_ k_)) (zK HK.out) hb); have n2_ := am (below_step (zL HB.out) hb); have n3_ := am (hbox); have n4_ := am ((by rw [hg]; exact (by first | exact HK.out.1 | exact (show Kept w _ (fun k_ => P0_ k_) from zK HK.out).1) : w.heap.size ≤ gb121)); have n5_ := am ((by rw [hg]; exact (below_size (zL HB.out)) : w0.heap.size ≤ gb121)); clear HO0 HK HB; have HO0 := n0_; have HK := n1_; have HB := n2_; have BK121 := n3_; have GW121 := n4_; have GE121 := n5_; clear n0_ n1_ n2_ n3_ n4_ n5_; clear hb hbox hg; obtain ⟨hcz27_0, hcz27_1, hcz27_2, hcz27_3, hcz27_4, hfz27_0, hfz27_1, hfz27_2, hfz27_3, hfz27_4⟩ := b5 BK121.out))
  go_loopg [0, 32] k (fun kq v0 v32 w' => ∃ (x0_1 : List (S25)) (x32_1 : Int), v32 = .int .i64 x32_1 ∧ Aside0 (formula_collect.l1 kq x0_1 l1_4 (l1_4.length : Int) x32_1 = some r) ∧ Aside0 (kq ≤ k) ∧ Aside0 (Kd.R k25 25 w' w0.heap.size (fun k_ => (P0_ k_ ∨ w.heap.size ≤ k_)) v0 x0_1) ∧ Aside0 (w'.heap[gb121]? = some (.cells #[.int .i64 a1_0, .string a1_1, .int .i64 a1_2, .int .i64 a1_3, (.slice A1_4 l1_4.length c1_4)] 28 (0, 0))) ∧ Aside0 (Kept w w' (fun k_ => P0_ k_)) ∧ Aside0 (Below w0.heap.size w0 w'))
  case atStart => exact ⟨(l0), (0), (by first | rfl | (simp; done) | (simp [*]; done)), H', ⟨Nat.le_refl _⟩, ⟨by exact zR HO0.out⟩, ⟨by exact zB <| BK121.out⟩, ⟨by repeat (first | (with_reducible first | exact HK.out | apply Kept.alloc | apply Kept.drewN | apply Kept.drew | refine Kept.setCell ?_ (.inr GW121.out) _) | exact HK.out)⟩, ⟨by repeat (first | (with_reducible first | exact HB.out | apply ba | apply bd | apply be | refine below_set ?_ GE121.out) | exact HB.out)⟩⟩
  case round =>
   clear H'
   try clear c1
   try clear p1
   try clear q1
   try clear hx1
   try clear c2
   try clear p2
   try clear c3
   try clear c3b0
   try clear c3b1
   try clear p6
   try clear c7
   try clear c7b0
   try clear c8
   try clear c8b0
   try clear c9
   try clear c9b0
   try clear c10
   try clear c10b0
   try clear c10b1
   try clear c10b2
   try clear c12
   try clear p12
   try clear q12
   try clear hx12
   try clear c18
   try clear c23
   try clear hcz13_0
   try clear hcz13_1
   try clear hcz13_2
   try clear hcz15_0
   try clear hcz15_1
   try clear hcz15_2
   try clear hcz16_0
   try clear hcz16_1
   try clear hcz16_2
   try clear hcz16_3
   try clear hcz16_4
   try clear hcz19_0
   try clear hcz19_1
   try clear hcz19_2
   try clear hcz21_0
   try clear hcz21_1
   try clear hcz21_2
   try clear hcz22_0
   try clear hcz22_1
   try clear hcz22_2
   try clear hcz22_3
   try clear hcz22_4
   try clear hcz24_0
   try clear hcz24_1
   try clear hcz24_2
   try clear hcz24_3
   try clear hcz24_4
   try clear hcz27_0
   try clear hcz27_1
   try clear hcz27_2
   try clear hcz27_3
   try clear hcz27_4
   try clear hcz5_0
   try clear hcz5_1
   try clear hcz5_2
   try clear hcz5_3
   try clear hcz5_4
   try clear hfz13_0
   try clear hfz13_1
   try clear hfz13_2
   try clear hfz15_0
   try clear hfz15_1
   try clear hfz15_2
   try clear hfz16_0
   try clear hfz16_1
   try clear hfz16_2
   try clear hfz16_3
   try clear hfz16_4
   try clear hfz19_0
   try clear hfz19_1
   try clear hfz19_2
   try clear hfz21_0
   try clear hfz21_1
   try clear hfz21_2
   try clear hfz22_0
   try clear hfz22_1
   try clear hfz22_2
   try clear hfz22_3
   try clear hfz22_4
   try clear hfz24_0
   try clear hfz24_1
   try clear hfz24_2
   try clear hfz24_3
   try clear hfz24_4
   try clear hfz27_0
   try clear hfz27_1
   try clear hfz27_2
   try clear hfz27_3
   try clear hfz27_4
   try clear hfz5_0
   try clear hfz5_1
   try clear hfz5_2
   try clear hfz5_3
   try clear hfz5_4
   try clear hx122_0
   try clear hx122_1
   try clear hx122_2
   try clear p122
   try clear p2
   try clear q122
   obtain ⟨x0_1, x32_1, rfl, HA, HK1, HO_0, BK121, HK, HB⟩ := hrel
   cases gk with
   | zero => exact absurd HA.out (by simp [formula_collect.l1])
   | succ k1 =>
    have H := HA.out
    clear HA
    simp only [formula_collect.l1] at H
    by_cases c28 : x32_1 < (l1_4.length : Int)
    ·rw [if_pos c28] at H
     have c28b0 : decide (x32_1 < (l1_4.length : Int)) = true := decide_eq_true c28
     clear c28
     by_cases c29 : 0 ≤ x32_1
     ·rw [if_pos c29] at H
      have c29b0 : decide (0 ≤ x32_1) = true := decide_eq_true c29
      clear c29
      by_cases c30 : x32_1 < (l1_4.length : Int)
      ·rw [if_pos c30] at H
       have c30b0 : decide (x32_1 < (l1_4.length : Int)) = true := decide_eq_true c30
       clear c30
       replace H := Option.bind_eq_some_iff.mp H
       obtain ⟨t129, A310, H⟩ := H
       replace H : (formula_collect.l1 k1 t129 l1_4 (l1_4.length : Int) (wrap64 (x32_1 + 1))) = some r := H
       have A31 := Aside0.mk A310
       clear A310
       have H' := Aside0.mk H
       clear H
       have p127 : 0 ≤ (x32_1 : Int) := of_decide_eq_true (by first | (with_reducible assumption) | assumption)
       have q127 : x32_1 < (l1_4.length : Int) := of_decide_eq_true (by first | (with_reducible assumption) | assumption)
       obtain ⟨ad127, A127_4, c127_4, e127, hx127_0, hx127_1, hx127_2, hx127_3, hx127_4, hl127_4, hi127_4⟩ := at_T28 (Kd.C_kept_now HR1_4.out HK.out) x32_1 p127 q127
       cases e127
       have HR127_4 := am (Xw.foot_elemK HR1_4.out HK.out hx127_4 (fun W_ h_ => by obtain ⟨ad_, A_4, c_4, e_, hx_0, hx_1, hx_2, hx_3, hx_4, hl_4, hi_4⟩ := at_T28 h_ x32_1 p127 q127; cases e_; exact ⟨_, _, hx_4, hi_4⟩))
       have HC127_4 := Aside0.mk hl127_4
       clear hi127_4 hl127_4
       replace p127 := eq_true p127
       replace q127 := eq_true q127
       go_wp2_with (first | ((with_reducible refine gate_dst (N := 8) rfl ?_); refine box_event ?hg (N := 8) ?hd (cs := #[.int .i64 0, .string (⟨#[]⟩ : ByteArray), .int .i64 0, .int .i64 0, .slice none 0 0]) (t := 28) ?hr ?_; (case hd => rfl); (case hg => rfl); (case hr => first | (go_simp; done) | (go_simp; rfl)); intro gb128 hg w32 hbox hb; have n0_ := am (Kd.R_below (zR HO_0.out) hb); have n1_ := am (blk_below (zB BK121.out) hb); have n2_ := am (Kept.below (S := (fun k_ => P0_ k_)) (zK HK.out) hb); have n3_ := am (below_step (zL HB.out) hb); have n4_ := am (hbox); have n5_ := am ((by rw [hg]; exact (by first | exact HK.out.1 | exact (show Kept w _ (fun k_ => P0_ k_) from zK HK.out).1) : w.heap.size ≤ gb128)); have n6_ := am ((by rw [hg]; exact (below_size (zL HB.out)) : w0.heap.size ≤ gb128)); have n7_ := am (zN hg BK121.out); have n8_ := am (zM hg BK121.out); clear HO_0 BK121 HK HB; have HO_0 := n0_; have BK121 := n1_; have HK := n2_; have HB := n3_; have BK128 := n4_; have GW128 := n5_; have GE128 := n6_; have NB121_128 := n7_; have NB128_121 := n8_; clear n0_ n1_ n2_ n3_ n4_ n5_ n6_ n7_ n8_; clear hb hbox hg; have hnb33 := NB128_121.out; have hnc33 := NB121_128.out; obtain ⟨hcz34_0, hcz34_1, hcz34_2, hcz34_3, hcz34_4, hfz34_0, hfz34_1, hfz34_2, hfz34_3, hfz34_4⟩ := b5 BK128.out) | ((with_reducible refine gate_store (t := 28) (p := 8) rfl ?_); refine store_event (t := 28) (p := 8) (v := ?vo_w35) (w1 := (((((w32.setCell ⟨gb128, 0, none⟩ (.int .i64 ((rd_T28 l1_4 x32_1).f0))).setCell ⟨gb128, 1, none⟩ (.string ((rd_T28 l1_4 x32_1).f1.f0))).setCell ⟨gb128, 2, none⟩ (.int .i64 ((rd_T28 l1_4 x32_1).f1.f1.f0))).setCell ⟨gb128, 3, none⟩ (.int .i64 ((rd_T28 l1_4 x32_1).f1.f1.f1))).setCell ⟨gb128, 4, none⟩ (.slice A127_4 ((rd_T28 l1_4 x32_1).f2).length c127_4))) ?hg ?ho ?hn ?hr ?_; (case ho => rfl); (case hg => rfl); (case hn => rfl); (case hr => first | (go_simp; done) | (go_simp; rfl)); intro w35 hw; have n0_ : Aside0 (Kd.R k25 25 w35 w0.heap.size (fun k_ => (P0_ k_ ∨ w.heap.size ≤ k_)) u0 x0_1) := ⟨(by rw [hw]; exact (by exact zR <| Kd.R_mono (Kd.R_far (p := ⟨gb128, 4, none⟩) (Kd.R_far (p := ⟨gb128, 3, none⟩) (Kd.R_far (p := ⟨gb128, 2, none⟩) (Kd.R_far (p := ⟨gb128, 1, none⟩) (Kd.R_far (p := ⟨gb128, 0, none⟩) (Kd.R_types HO_0.out BK128.out (by decide)) (fun _ hk => hk.2) (.int .i64 ((rd_T28 l1_4 x32_1).f0))) (fun _ hk => hk.2) (.string ((rd_T28 l1_4 x32_1).f1.f0))) (fun _ hk => hk.2) (.int .i64 ((rd_T28 l1_4 x32_1).f1.f1.f0))) (fun _ hk => hk.2) (.int .i64 ((rd_T28 l1_4 x32_1).f1.f1.f1))) (fun _ hk => hk.2) (.slice A127_4 ((rd_T28 l1_4 x32_1).f2).length c127_4)) (fun _ hk => hk.1)))⟩; have n1_ : Aside0 (w35.heap[gb121]? = some (.cells #[.int .i64 a1_0, .string a1_1, .int .i64 a1_2, .int .i64 a1_3, .slice (some ad127) l1_4.length c1_4] 28 (0, 0))) := ⟨(by rw [hw]; exact (by refine blk_far ?_ NB121_128.out _; refine blk_far ?_ NB121_128.out _; refine blk_far ?_ NB121_128.out _; refine blk_far ?_ NB121_128.out _; refine blk_far ?_ NB121_128.out _; exact zB <| BK121.out))⟩; have n2_ : Aside0 (w35.heap[gb128]? = some (.cells #[.int .i64 ((rd_T28 l1_4 x32_1).f0), .string ((rd_T28 l1_4 x32_1).f1.f0), .int .i64 ((rd_T28 l1_4 x32_1).f1.f1.f0), .int .i64 ((rd_T28 l1_4 x32_1).f1.f1.f1), .slice A127_4 ((rd_T28 l1_4 x32_1).f2).length c127_4] 28 (0, 0))) := ⟨(by rw [hw]; exact (by refine blk_put (cs := #[.int .i64 ((rd_T28 l1_4 x32_1).f0), .string ((rd_T28 l1_4 x32_1).f1.f0), .int .i64 ((rd_T28 l1_4 x32_1).f1.f1.f0), .int .i64 ((rd_T28 l1_4 x32_1).f1.f1.f1), .slice none 0 0]) ?_ 4 _ rfl; refine blk_put (cs := #[.int .i64 ((rd_T28 l1_4 x32_1).f0), .string ((rd_T28 l1_4 x32_1).f1.f0), .int .i64 ((rd_T28 l1_4 x32_1).f1.f1.f0), .int .i64 0, .slice none 0 0]) ?_ 3 _ rfl; refine blk_put (cs := #[.int .i64 ((rd_T28 l1_4 x32_1).f0), .string ((rd_T28 l1_4 x32_1).f1.f0), .int .i64 0, .int .i64 0, .slice none 0 0]) ?_ 2 _ rfl; refine blk_put (cs := #[.int .i64 ((rd_T28 l1_4 x32_1).f0), .string (⟨#[]⟩ : ByteArray), .int .i64 0, .int .i64 0, .slice none 0 0]) ?_ 1 _ rfl; refine blk_put (cs := #[.int .i64 0, .string (⟨#[]⟩ : ByteArray), .int .i64 0, .int .i64 0, .slice none 0 0]) ?_ 0 _ rfl; exact zB <| BK128.out))⟩; have n3_ : Aside0 (Kept w w35 (fun k_ => P0_ k_)) := ⟨(by rw [hw]; exact (by repeat (first | (with_reducible first | exact HK.out | apply Kept.alloc | apply Kept.drewN | apply Kept.drew | refine Kept.setCell ?_ (.inr GW121.out) _ | refine Kept.setCell ?_ (.inr GW128.out) _) | exact HK.out)))⟩; have n4_ : Aside0 (Below w0.heap.size w0 w35) := ⟨(by rw [hw]; exact (by repeat (first | (with_reducible first | exact HB.out | apply ba | apply bd | apply be | refine below_set ?_ GE121.out | refine below_set ?_ GE128.out) | exact HB.out)))⟩; clear hw HO_0 BK121 BK128 HK HB; have HO_0 := n0_; have BK121 := n1_; have BK128 := n2_; have HK := n3_; have HB := n4_; clear n0_ n1_ n2_ n3_ n4_; obtain ⟨hcz36_0, hcz36_1, hcz36_2, hcz36_3, hcz36_4, hfz36_0, hfz36_1, hfz36_2, hfz36_3, hfz36_4⟩ := b5 BK128.out; obtain ⟨Ao37, co37, eo37⟩ := Kd.R_slice HO_0.out; subst eo37) | ((with_reducible refine gate_callee (f := 31) rfl ?_); refine goesL_ (some 38) rfl rfl Try.func31 (by kernel_rfl) rfl #[.slice Ao37 x0_1.length co37, .agg #[.int .i64 ((rd_T28 l1_4 x32_1).f0), .string ((rd_T28 l1_4 x32_1).f1.f0), .int .i64 ((rd_T28 l1_4 x32_1).f1.f1.f0), .int .i64 ((rd_T28 l1_4 x32_1).f1.f1.f1), .slice A127_4 ((rd_T28 l1_4 x32_1).f2).length c127_4]] rfl mp2 ?_; (with_reducible refine (ih k1 (by have := HK1.out; omega) (fun k_ => some k_ = (.slice Ao37 x0_1.length co37 : Value).ownBlock) (.slice Ao37 x0_1.length co37) x0_1 ((rd_T28 l1_4 x32_1).f0) ((rd_T28 l1_4 x32_1).f1.f0) ((rd_T28 l1_4 x32_1).f1.f1.f0) ((rd_T28 l1_4 x32_1).f1.f1.f1) _ _ ((rd_T28 l1_4 x32_1).f2) t129 w0 _ ?side1 ?side2 ?side3 ?side4 A31.out).mono ?_); (case side1 => exact zL HB.out); (case side2 => exact Kd.R_tight rfl HO_0.out); (case side3 => exact Kd.C_kept_call HR127_4.out (zK HK.out) (fun k_ hs_ => (fun e_ => (HO_0.out.1 k_ e_.symm)) hs_)); (case side4 => exact HC127_4.out); rintro e w38 ⟨v130, rfl, ho0, hb, hkp⟩; refine ⟨_, rfl, ?_⟩; have n0_ := am (blk_kept (zB BK121.out) hkp (fun hs_ => (fun e_ => (Kd.R_ne HO_0.out BK121.out (by decide)) e_) hs_)); have n1_ := am (blk_kept (zB BK128.out) hkp (fun hs_ => (fun e_ => (Kd.R_ne HO_0.out BK128.out (by decide)) e_) hs_)); have n2_ := am (Kd.R_mono (ok' := fun k_ => (P0_ k_ ∨ w.heap.size ≤ k_)) ho0 (fun k_ hk_ => Or.elim hk_ (fun hs_ => (HO_0.out.1 k_ (hs_).symm)) (fun hn_ => (.inr (Nat.le_trans (by first | exact HK.out.1 | exact (show Kept w _ (fun k_ => P0_ k_) from zK HK.out).1) hn_))))); have n3_ := am (Kept.then_ (S := (fun k_ => P0_ k_)) (zK HK.out) hkp (fun k_ hs_ => (fun e_ => (HO_0.out.1 k_ e_.symm)) hs_)); have n4_ := am (hb); clear BK121 BK128 HK HB HO_0; have BK121 := n0_; have BK128 := n1_; have HO131 := n2_; have HK := n3_; have HB := n4_; clear n0_ n1_ n2_ n3_ n4_; (try clear hb); (try clear hkp); (try clear ho0)))
       go_roundg k1
       case measure => have := HK1.out; omega
       case rel => exact ⟨(t129), (wrap64 (x32_1 + 1)), (by first | rfl | (simp; done) | (simp [*]; done)), H', ⟨by have := HK1.out; omega⟩, ⟨by exact zR HO131.out⟩, ⟨by exact zB <| BK121.out⟩, ⟨by repeat (first | (with_reducible first | exact HK.out | apply Kept.alloc | apply Kept.drewN | apply Kept.drew | refine Kept.setCell ?_ (.inr GW121.out) _ | refine Kept.setCell ?_ (.inr GW128.out) _) | exact HK.out)⟩, ⟨by repeat (first | (with_reducible first | exact HB.out | apply ba | apply bd | apply be | refine below_set ?_ GE121.out | refine below_set ?_ GE128.out) | exact HB.out)⟩⟩
      ·rw [if_neg c30] at H
       exact absurd H (by simp)
     ·rw [if_neg c29] at H
      exact absurd H (by simp)
    ·rw [if_neg c28] at H
     have c28b0 : decide (x32_1 < (l1_4.length : Int)) = false := decide_eq_false c28
     clear c28
     obtain rfl := Option.some.inj H
     go_wp2
     go_ret
     exact ⟨_, by first | rfl | (simp [errW_none, errW_some] <;> rfl) | (simp [*, errW_none, errW_some] <;> rfl), by exact zR HO_0.out, by repeat (first | (with_reducible first | exact HB.out | apply ba | apply bd | apply be | refine below_set ?_ GE121.out) | exact HB.out), by repeat (first | (with_reducible first | exact HK.out | apply Kept.alloc | apply Kept.drewN | apply Kept.drew | refine Kept.setCell ?_ (.inr GW121.out) _) | exact HK.out)⟩

end Go.Proofs.Ytefbcebpokoinaa.Y
