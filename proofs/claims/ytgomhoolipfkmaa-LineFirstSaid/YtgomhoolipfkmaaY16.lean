-- Laid by a program of this session's (xprint.py, which runs the kit's print.py with patches of its own). Lean checks it.
import Derived.Test.YtgomhoolipfkmaaY0
import Derived.Test.YtgomhoolipfkmaaY1
import Derived.Test.YtgomhoolipfkmaaY2
import Derived.Test.YtgomhoolipfkmaaY3
import Derived.Test.YtgomhoolipfkmaaY4
import Derived.Test.YtgomhoolipfkmaaY12
namespace Go.Proofs.Ytgomhoolipfkmaa.Y
open Go.RowKit Go.Proofs.YtgomhoolipfkmaaW.PrintWords Go.Proofs.YtgomhoolipfkmaaW.PrintLast Go.Proofs.YtgomhoolipfkmaaW.PrintMore
attribute [local go_sem] max2_int min2_int max_two min_two max_three min_three max_four min_four   -- for this text's walks alone
set_option linter.unusedVariables false
set_option linter.unusedSimpArgs false

attribute [local go_sem high] eqA24 eqA28
/-! ### clusterlocksref11_SameWaits: function 17 -/
def clusterlocksref11_SameWaits.l0 : Nat → List (S28) → List (S28) → Int → Option (Bool)
 | 0, _, _, _ => none
 | k + 1, x0, x1, x5 => if x5 < (x0.length : Int) then (if 0 ≤ x5 then (if x5 < (x1.length : Int) then (if ((!(((rd_T28 x0 x5).f0.f0) == ((rd_T28 x1 x5).f0.f0)) || (!(((rd_T28 x0 x5).f0.f1) == ((rd_T28 x1 x5).f0.f1)) || (!(((rd_T28 x0 x5).f0.f2) == ((rd_T28 x1 x5).f0.f2))))) || ((!(((rd_T28 x0 x5).f1.f0) == ((rd_T28 x1 x5).f1.f0)) || (!(((rd_T28 x0 x5).f1.f1) == ((rd_T28 x1 x5).f1.f1)))) || (!(((rd_T28 x0 x5).f2) == ((rd_T28 x1 x5).f2)) || (!(((rd_T28 x0 x5).f3) == ((rd_T28 x1 x5).f3)))))) = true then (some false) else (clusterlocksref11_SameWaits.l0 k x0 x1 (wrap64 (x5 + 1)))) else (none)) else (none)) else (some true)
def clusterlocksref11_SameWaits.f (k : Nat) (l0 : List (S28)) (l1 : List (S28)) : Option (Bool) := if (l0.length : Int) = (l1.length : Int) then (clusterlocksref11_SameWaits.l0 k l0 l1 0) else (some false)
theorem clusterlocksref11_SameWaits.mono_l : ∀ k, (∀ y0 y1 y2, LeO (clusterlocksref11_SameWaits.l0 k y0 y1 y2) (clusterlocksref11_SameWaits.l0 (k + 1) y0 y1 y2))
 | 0 => fun _ _ _ r h => by simp [clusterlocksref11_SameWaits.l0] at h
 | k + 1 => by
  have ih0 := clusterlocksref11_SameWaits.mono_l k
  ·intro y0 y1 y2
   unfold clusterlocksref11_SameWaits.l0
   repeat' first
   | (with_reducible exact ih0 _ _ _)
   | (with_reducible exact LeO.refl _)
   | (with_reducible exact LeO.none _)
   | (with_reducible refine LeO.ite ?_ ?_)
   | (with_reducible refine LeO.bind ?_ (fun _ => ?_))
   | exact ih0 _ _ _
   | exact LeO.none _
   | refine LeO.ite ?_ ?_
   | refine LeO.bind ?_ (fun _ => ?_)
theorem clusterlocksref11_SameWaits.mono : ∀ a0 a1 k, LeO (clusterlocksref11_SameWaits.f k a0 a1) (clusterlocksref11_SameWaits.f (k + 1) a0 a1) := by
 intro a0 a1 k
 have ih0 := clusterlocksref11_SameWaits.mono_l k
 unfold clusterlocksref11_SameWaits.f
 repeat' first
   | (with_reducible exact ih0 _ _ _)
   | (with_reducible exact LeO.refl _)
   | (with_reducible exact LeO.none _)
   | (with_reducible refine LeO.ite ?_ ?_)
   | (with_reducible refine LeO.bind ?_ (fun _ => ?_))
   | exact ih0 _ _ _
   | exact LeO.none _
   | refine LeO.ite ?_ ?_
   | refine LeO.bind ?_ (fun _ => ?_)
set_option maxHeartbeats 8000000 in
set_option maxRecDepth 100000 in
theorem clusterlocksref11_SameWaits.calls (k : Nat) (A0 : Option Addr) (c0 : Nat) (l0 : List (S28)) (A1 : Option Addr) (c1 : Nat) (l1 : List (S28)) (r : Bool) (w : World) (hr0 : Kd.C k28 w A0 l0.length l0) (hc0 : l0.length ≤ c0) (hr1 : Kd.C k28 w A1 l1.length l1) (hc1 : l1.length ≤ c1) (h : clusterlocksref11_SameWaits.f k l0 l1 = some r) :
  Calls Try.prog 17 #[.slice A0 l0.length c0, .slice A1 l1.length c1] w fun e w' => e = .returned (.bool r) ∧ Drawn0 w w' := by
 have hu28 := Try.underlying28
 have HR0 := Aside0.mk hr0
 have HC0 := Aside0.mk hc0
 clear hr0 hc0
 have HR1 := Aside0.mk hr1
 have HC1 := Aside0.mk hc1
 clear hr1 hc1
 have H : (if (l0.length : Int) = (l1.length : Int) then (clusterlocksref11_SameWaits.l0 k l0 l1 0) else (some false)) = some r := h
 clear h
 by_cases c3 : (l0.length : Int) = (l1.length : Int)
 ·rw [if_pos c3] at H
  have c3b0 : ((l0.length : Int) == (l1.length : Int)) = true := beq_iff_eq.mpr c3
  have c3b1 : ((l0.length : Int) != (l1.length : Int)) = false := bne_eq_false_iff_eq.mpr c3
  have c3b2 : (l0.length == l1.length) = true := by first | simpa using c3 | (simp at c3 ⊢; omega)
  clear c3
  have H' := Aside0.mk H
  clear H
  go_enter Try.func17, Try.ntmps17
  go_wp2
  repeat (go_quiet (fail); try go_wp2)
  go_loopg [5] k (fun kq v5 w' => ∃ (x5_1 : Int), v5 = .int .i64 x5_1 ∧ Aside0 (clusterlocksref11_SameWaits.l0 kq l0 l1 x5_1 = some r) ∧ Aside0 (kq ≤ k) ∧ Drawn0 w w')
  case atStart => exact ⟨(0), (by first | rfl | (simp; done) | (simp [*]; done)), H', ⟨Nat.le_refl _⟩, by repeat (first | exact Drawn0.refl _ | apply Drawn0.step)⟩
  case round =>
   clear H'
   try clear c1
   try clear p2
   try clear c3
   try clear c3b0
   try clear c3b1
   try clear c3b2
   obtain ⟨x5_1, rfl, HA, HK1, ⟨m1, rfl⟩⟩ := hrel
   cases gk with
   | zero => exact absurd HA.out (by simp [clusterlocksref11_SameWaits.l0])
   | succ k1 =>
    have H := HA.out
    clear HA
    simp only [clusterlocksref11_SameWaits.l0] at H
    by_cases c4 : x5_1 < (l0.length : Int)
    ·rw [if_pos c4] at H
     have c4b0 : decide (x5_1 < (l0.length : Int)) = true := decide_eq_true c4
     clear c4
     by_cases c5 : 0 ≤ x5_1
     ·rw [if_pos c5] at H
      have c5b0 : decide (0 ≤ x5_1) = true := decide_eq_true c5
      clear c5
      by_cases c6 : x5_1 < (l1.length : Int)
      ·rw [if_pos c6] at H
       have c6b0 : decide (x5_1 < (l1.length : Int)) = true := decide_eq_true c6
       clear c6
       by_cases c7 : ((!(((rd_T28 l0 x5_1).f0.f0) == ((rd_T28 l1 x5_1).f0.f0)) || (!(((rd_T28 l0 x5_1).f0.f1) == ((rd_T28 l1 x5_1).f0.f1)) || (!(((rd_T28 l0 x5_1).f0.f2) == ((rd_T28 l1 x5_1).f0.f2))))) || ((!(((rd_T28 l0 x5_1).f1.f0) == ((rd_T28 l1 x5_1).f1.f0)) || (!(((rd_T28 l0 x5_1).f1.f1) == ((rd_T28 l1 x5_1).f1.f1)))) || (!(((rd_T28 l0 x5_1).f2) == ((rd_T28 l1 x5_1).f2)) || (!(((rd_T28 l0 x5_1).f3) == ((rd_T28 l1 x5_1).f3)))))) = true
       ·rw [if_pos c7] at H
        have c7b0 : ((!(((rd_T28 l0 x5_1).f0.f0) == ((rd_T28 l1 x5_1).f0.f0)) || (!(((rd_T28 l0 x5_1).f0.f1) == ((rd_T28 l1 x5_1).f0.f1)) || (!(((rd_T28 l0 x5_1).f0.f2) == ((rd_T28 l1 x5_1).f0.f2))))) || ((!(((rd_T28 l0 x5_1).f1.f0) == ((rd_T28 l1 x5_1).f1.f0)) || (!(((rd_T28 l0 x5_1).f1.f1) == ((rd_T28 l1 x5_1).f1.f1)))) || (!(((rd_T28 l0 x5_1).f2) == ((rd_T28 l1 x5_1).f2)) || (!(((rd_T28 l0 x5_1).f3) == ((rd_T28 l1 x5_1).f3)))))) = true := c7
        clear c7
        obtain rfl := Option.some.inj H
        have p249 : 0 ≤ (x5_1 : Int) := of_decide_eq_true (by first | (with_reducible assumption) | assumption)
        have q249 : x5_1 < (l0.length : Int) := of_decide_eq_true (by first | (with_reducible assumption) | assumption)
        obtain ⟨ad249, e249, hx249_0, hx249_1, hx249_2, hx249_3, hx249_4, hx249_5, hx249_6⟩ := at_T28 HR0.out x5_1 p249 q249
        cases e249
        replace p249 := eq_true p249
        replace q249 := eq_true q249
        have p250 : 0 ≤ (x5_1 : Int) := of_decide_eq_true (by first | (with_reducible assumption) | assumption)
        have q250 : x5_1 < (l1.length : Int) := of_decide_eq_true (by first | (with_reducible assumption) | assumption)
        obtain ⟨ad250, e250, hx250_0, hx250_1, hx250_2, hx250_3, hx250_4, hx250_5, hx250_6⟩ := at_T28 HR1.out x5_1 p250 q250
        cases e250
        replace p250 := eq_true p250
        replace q250 := eq_true q250
        go_wp2
        repeat (go_quiet (fail); try go_wp2)
        go_ret
        exact ⟨by first | rfl | (simp; done) | (simp [*]; done), by repeat (first | exact Drawn0.refl _ | apply Drawn0.step)⟩
       ·rw [if_neg c7] at H
        have c7b0 : ((!(((rd_T28 l0 x5_1).f0.f0) == ((rd_T28 l1 x5_1).f0.f0)) || (!(((rd_T28 l0 x5_1).f0.f1) == ((rd_T28 l1 x5_1).f0.f1)) || (!(((rd_T28 l0 x5_1).f0.f2) == ((rd_T28 l1 x5_1).f0.f2))))) || ((!(((rd_T28 l0 x5_1).f1.f0) == ((rd_T28 l1 x5_1).f1.f0)) || (!(((rd_T28 l0 x5_1).f1.f1) == ((rd_T28 l1 x5_1).f1.f1)))) || (!(((rd_T28 l0 x5_1).f2) == ((rd_T28 l1 x5_1).f2)) || (!(((rd_T28 l0 x5_1).f3) == ((rd_T28 l1 x5_1).f3)))))) = false := by simpa using c7
        clear c7
        have H' := Aside0.mk H
        clear H
        have p249 : 0 ≤ (x5_1 : Int) := of_decide_eq_true (by first | (with_reducible assumption) | assumption)
        have q249 : x5_1 < (l0.length : Int) := of_decide_eq_true (by first | (with_reducible assumption) | assumption)
        obtain ⟨ad249, e249, hx249_0, hx249_1, hx249_2, hx249_3, hx249_4, hx249_5, hx249_6⟩ := at_T28 HR0.out x5_1 p249 q249
        cases e249
        replace p249 := eq_true p249
        replace q249 := eq_true q249
        have p250 : 0 ≤ (x5_1 : Int) := of_decide_eq_true (by first | (with_reducible assumption) | assumption)
        have q250 : x5_1 < (l1.length : Int) := of_decide_eq_true (by first | (with_reducible assumption) | assumption)
        obtain ⟨ad250, e250, hx250_0, hx250_1, hx250_2, hx250_3, hx250_4, hx250_5, hx250_6⟩ := at_T28 HR1.out x5_1 p250 q250
        cases e250
        replace p250 := eq_true p250
        replace q250 := eq_true q250
        go_wp2
        repeat (go_quiet (fail); try go_wp2)
        go_roundg k1
        case measure => have := HK1.out; omega
        case rel => exact ⟨(wrap64 (x5_1 + 1)), (by first | rfl | (simp; done) | (simp [*]; done)), H', ⟨by have := HK1.out; omega⟩, by repeat (first | exact Drawn0.refl _ | apply Drawn0.step)⟩
      ·rw [if_neg c6] at H
       exact absurd H (by simp)
     ·rw [if_neg c5] at H
      exact absurd H (by simp)
    ·rw [if_neg c4] at H
     have c4b0 : decide (x5_1 < (l0.length : Int)) = false := decide_eq_false c4
     clear c4
     obtain rfl := Option.some.inj H
     go_wp2
     repeat (go_quiet (fail); try go_wp2)
     go_ret
     exact ⟨by first | rfl | (simp; done) | (simp [*]; done), by repeat (first | exact Drawn0.refl _ | apply Drawn0.step)⟩
 ·rw [if_neg c3] at H
  have c3b0 : ((l0.length : Int) == (l1.length : Int)) = false := beq_eq_false_iff_ne.mpr c3
  have c3b1 : ((l0.length : Int) != (l1.length : Int)) = true := bne_iff_ne.mpr c3
  have c3b2 : (l0.length == l1.length) = false := by first | simpa using c3 | (simp at c3 ⊢; omega)
  obtain rfl := Option.some.inj H
  go_enter Try.func17, Try.ntmps17
  go_wp2
  repeat (go_quiet (fail); try go_wp2)
  go_ret
  exact ⟨by first | rfl | (simp; done) | (simp [*]; done), by repeat (first | exact Drawn0.refl _ | apply Drawn0.step)⟩

/-! ### api_Wait_37: function 37 -/
set_option maxHeartbeats 8000000 in
theorem api_Wait_37.calls (p : S28 → Bool) {g : FuncId} {fn : Func} (hf : Try.prog.funcs[g]? = some fn) (hname : (fn.name == "runtime.NumGoroutine") = false) (hbody : fn.body.isSome = true) (lb : Array Value) (base : Nat) (v : Value) (l0 : List S28) (w : World) (hbase : base ≤ w.heap.size) (hR : Kd.R k28 28 w base (fun _ => True) v l0)
  (hp : ∀ (W : World) (x : S28), Below base w W → Calls Try.prog g (#[.agg #[.int .i64 x.f0.f0, .int .i64 x.f0.f1, .int .i64 x.f0.f2, .int .i64 x.f1.f0, .int .i64 x.f1.f1, .int .i64 x.f2, .int .i64 x.f3]] ++ lb) W fun e w' => e = .returned (.bool (p x)) ∧ Below W.heap.size W w') :
  Calls Try.prog 37 #[v, .func (.func g) #[] lb] w fun e w' => ∃ v', e = .returned v' ∧ Kd.R k28 28 w' base (fun _ => True) v' (l0.filter fun x => !p x) ∧ Below base w w' := by
 have hu28 := Try.underlying28
 have hm : l0.length ≤ 9223372036854775807 := by obtain ⟨A, c, _, _, hC⟩ := Kd.R_reads hR; exact hC.2.1
 have HBASE := Aside0.mk hbase
 by_cases hidx : Xw.idx_ p l0 = -1
 ·have HI := Aside0.mk hidx
  have HF := am (Xw.idx_none p l0 hidx)
  obtain ⟨A, c, rfl, hcc, hC⟩ := Kd.R_reads hR
  have HO := Aside0.mk hR
  have HC := Aside0.mk hC
  have HP := Aside0.mk hp
  clear hR hC hp hidx hcc hbase
  go_enter Try.func37, Try.ntmps37
  go_wp2_with (first | ((with_reducible refine gate_callee (f := 39) rfl ?_); refine goesL_ (some 10) rfl rfl Try.func39 (by kernel_rfl) rfl #[.slice A l0.length c, .func (.func g) #[] lb] rfl (by (try simp only [List.map_toArray, List.map_cons, List.map_nil]); first | done | rfl) ?_; (with_reducible refine (api_Wait_39.calls p hf hname hbody lb A c l0 _ HC.out ?side1).mono ?_); (case side1 => exact fun W x _ hW => (HP.out W x (hW.mono HBASE.out)).mono fun e w' hh => ⟨hh.1, below_step hW hh.2⟩); rintro e w7 ⟨rfl, hb⟩; rw [HI.out]; refine ⟨_, rfl, ?_⟩; have HB := Aside0.mk hb; clear hb))
  go_ret
  refine ⟨_, rfl, ?_, HB.out.mono HBASE.out⟩
  rw [HF.out]
  exact Kd.R_below HO.out HB.out
 ·obtain ⟨gr, cap, rfl, hgb, hgl, _⟩ := Kd.R_form hR (by cases l0 with | nil => exact absurd rfl hidx | cons => simp)
  obtain ⟨hx1, hx2, hx3⟩ := Xw.idx_some p l0 hidx
  obtain ⟨_, hcp, hC⟩ := Kd.R_reads' hR
  have HO := Aside0.mk hR
  have HC := Aside0.mk hC
  have HP := Aside0.mk hp
  have HX := am (And.intro hx1 (And.intro hx2 hx3))
  have HG := Aside0.mk hgb
  have HCP := Aside0.mk hcp
  have hne : decide (Xw.idx_ p l0 = -1) = false := decide_eq_false hidx
  have hw : wrap64 (Xw.idx_ p l0 + 1) = Xw.idx_ p l0 + 1 := by unfold wrap64; omega
  clear hR hC hp hx1 hx2 hx3 hgb hgl hcp hbase
  obtain ⟨ix, hix⟩ : ∃ ix, ix = Xw.idx_ p l0 := ⟨_, rfl⟩
  rw [← hix] at HX hne hw hidx
  have HIX := Aside0.mk hix.symm
  clear hix
  go_enter Try.func37, Try.ntmps37
  go_wp2_with (first | ((with_reducible refine gate_callee (f := 39) rfl ?_); refine goesL_ (some 10) rfl rfl Try.func39 (by kernel_rfl) rfl #[.slice (some ⟨gr, 0, none⟩) l0.length cap, .func (.func g) #[] lb] rfl (by (try simp only [List.map_toArray, List.map_cons, List.map_nil]); first | done | rfl) ?_; (with_reducible refine (api_Wait_39.calls p hf hname hbody lb _ cap l0 _ HC.out ?side1).mono ?_); (case side1 => exact fun W x _ hW => (HP.out W x (hW.mono HBASE.out)).mono fun e w' hh => ⟨hh.1, below_step hW hh.2⟩); rintro e w7 ⟨rfl, hb⟩; rw [HIX.out]; refine ⟨_, rfl, ?_⟩; have n0_ := am (Kd.R_below HO.out hb); have HB := am (hb.mono HBASE.out); clear hb HO; have HO := n0_; clear n0_))
  go_loopg [5, 6] l0.length (fun gg s5 s6 wr => ∃ (i j : Int) (zs : List S28), s5 = .int .i64 i ∧ s6 = .int .i64 j ∧ Aside0 (0 ≤ i ∧ i < j ∧ j ≤ (l0.length : Int) ∧ l0.length - j.toNat ≤ gg) ∧ Aside0 (zs.length = l0.length ∧ zs.take i.toNat = (l0.take j.toNat).filter (fun x => !p x) ∧ zs.drop j.toNat = l0.drop j.toNat) ∧ Aside0 (Kd.R k28 28 wr base (fun _ => True) (.slice (some ⟨gr, 0, none⟩) l0.length cap) zs) ∧ Aside0 (Below base w wr))
  case atStart => exact ⟨ix, ix + 1, l0, rfl, by first | rfl | rw [hw], ⟨by have := HX.out; omega⟩, ⟨rfl, by rw [HX.out.2.2, show (ix + 1).toNat = ix.toNat + 1 by have := HX.out; omega], rfl⟩, HO, HB⟩
  case round =>
   clear HO HB HX hne hw hidx HIX HC
   obtain ⟨i, j, zs, rfl, rfl, HI, HZ, HO, HB⟩ := hrel
   by_cases c4 : j < (l0.length : Int)
   ·have c4b0 : decide (j < (l0.length : Int)) = true := decide_eq_true c4
    have c5b0 : decide (0 ≤ j) = true := decide_eq_true (by have := HI.out; omega)
    have c6b0 : decide (0 ≤ i) = true := decide_eq_true (by have := HI.out; omega)
    have c7b0 : decide (i < (l0.length : Int)) = true := decide_eq_true (by have := HI.out; omega)
    have p168 : 0 ≤ j := by have := HI.out; omega
    have q168 := c4
    have p169 : 0 ≤ i := by have := HI.out; omega
    have q169 : i < (l0.length : Int) := by have := HI.out; omega
    clear c4
    obtain ⟨ce, hcl, hM, hcc, hfr⟩ := Kd.R_elem HO.out z28 j p168 q168
    obtain rfl := k28_openM hM
    have hx0 : wr.cell? ⟨gr, j.toNat * 7, none⟩ = some (.int .i64 (rd_T28 zs j).f0.f0) := hcc 0 _ rfl
    have hx1 : wr.cell? ⟨gr, j.toNat * 7 + 1, none⟩ = some (.int .i64 (rd_T28 zs j).f0.f1) := hcc 1 _ rfl
    have hx2 : wr.cell? ⟨gr, j.toNat * 7 + 2, none⟩ = some (.int .i64 (rd_T28 zs j).f0.f2) := hcc 2 _ rfl
    have hx3 : wr.cell? ⟨gr, j.toNat * 7 + 3, none⟩ = some (.int .i64 (rd_T28 zs j).f1.f0) := hcc 3 _ rfl
    have hx4 : wr.cell? ⟨gr, j.toNat * 7 + 4, none⟩ = some (.int .i64 (rd_T28 zs j).f1.f1) := hcc 4 _ rfl
    have hx5 : wr.cell? ⟨gr, j.toNat * 7 + 5, none⟩ = some (.int .i64 (rd_T28 zs j).f2) := hcc 5 _ rfl
    have hx6 : wr.cell? ⟨gr, j.toNat * 7 + 6, none⟩ = some (.int .i64 (rd_T28 zs j).f3) := hcc 6 _ rfl
    clear hcl hM hcc hfr
    have HX2 := am (And.intro p168 q168)
    replace p168 := eq_true p168
    replace q168 := eq_true q168
    replace p169 := eq_true p169
    replace q169 := eq_true q169
    have hwj : wrap64 (j + 1) = j + 1 := by have := HX2.out; unfold wrap64; omega
    have hwi : wrap64 (i + 1) = i + 1 := by have := HX2.out; have := HI.out; unfold wrap64; omega
    have HW := am (And.intro hwj hwi)
    clear hwj hwi
    cases hq0 : p (rd_T28 zs j) with
    | true =>
     have hq := Aside0.mk hq0
     clear hq0
     go_wp2_with (first | ((with_reducible refine gate_dst (N := 7) rfl ?_); refine box_event ?hg (N := 7) ?hd (cs := #[.int .i64 0, .int .i64 0, .int .i64 0, .int .i64 0, .int .i64 0, .int .i64 0, .int .i64 0]) (t := 28) ?hr ?_; (case hd => rfl); (case hg => rfl); (case hr => first | (go_simp; done) | (go_simp; rfl)); intro gb hg w3 hbox hb; have HBr := Aside0.mk hb; have BKg := Aside0.mk hbox; have GEg := am (Nat.le_of_eq hg.symm); clear hb hbox hg; have hcz_0 : w3.cell? ⟨gb, 0, none⟩ = some (.int .i64 0) := (blk_cell BKg.out 0).trans rfl; have hfz_0 := blk_frozen BKg.out 0; have hcz_1 : w3.cell? ⟨gb, 1, none⟩ = some (.int .i64 0) := (blk_cell BKg.out 1).trans rfl; have hfz_1 := blk_frozen BKg.out 1; have hcz_2 : w3.cell? ⟨gb, 2, none⟩ = some (.int .i64 0) := (blk_cell BKg.out 2).trans rfl; have hfz_2 := blk_frozen BKg.out 2; have hcz_3 : w3.cell? ⟨gb, 3, none⟩ = some (.int .i64 0) := (blk_cell BKg.out 3).trans rfl; have hfz_3 := blk_frozen BKg.out 3; have hcz_4 : w3.cell? ⟨gb, 4, none⟩ = some (.int .i64 0) := (blk_cell BKg.out 4).trans rfl; have hfz_4 := blk_frozen BKg.out 4; have hcz_5 : w3.cell? ⟨gb, 5, none⟩ = some (.int .i64 0) := (blk_cell BKg.out 5).trans rfl; have hfz_5 := blk_frozen BKg.out 5; have hcz_6 : w3.cell? ⟨gb, 6, none⟩ = some (.int .i64 0) := (blk_cell BKg.out 6).trans rfl; have hfz_6 := blk_frozen BKg.out 6) | ((with_reducible refine gate_store (t := 28) (p := 7) rfl ?_); refine store_event (t := 28) (p := 7) (v := ?vo_w4) (w1 := (((((((w3.setCell ⟨gb, 0, none⟩ (.int .i64 (rd_T28 zs j).f0.f0)).setCell ⟨gb, 1, none⟩ (.int .i64 (rd_T28 zs j).f0.f1)).setCell ⟨gb, 2, none⟩ (.int .i64 (rd_T28 zs j).f0.f2)).setCell ⟨gb, 3, none⟩ (.int .i64 (rd_T28 zs j).f1.f0)).setCell ⟨gb, 4, none⟩ (.int .i64 (rd_T28 zs j).f1.f1)).setCell ⟨gb, 5, none⟩ (.int .i64 (rd_T28 zs j).f2)).setCell ⟨gb, 6, none⟩ (.int .i64 (rd_T28 zs j).f3))) ?hg ?ho ?hn ?hr ?_; (case ho => rfl); (case hg => rfl); (case hn => rfl); (case hr => first | (go_simp; done) | (go_simp; rfl)); intro w4 hw; have n0_ := am (show w4.heap[gb]? = some (.cells #[.int .i64 (rd_T28 zs j).f0.f0, .int .i64 (rd_T28 zs j).f0.f1, .int .i64 (rd_T28 zs j).f0.f2, .int .i64 (rd_T28 zs j).f1.f0, .int .i64 (rd_T28 zs j).f1.f1, .int .i64 (rd_T28 zs j).f2, .int .i64 (rd_T28 zs j).f3] 28 (0, 0)) by rw [hw]; exact (blk_set (blk_set (blk_set (blk_set (blk_set (blk_set (blk_set BKg.out 0 _) 1 _) 2 _) 3 _) 4 _) 5 _) 6 _)); have n1_ := am (show Below wr.heap.size wr w4 by rw [hw]; exact (Below.setCell (Below.setCell (Below.setCell (Below.setCell (Below.setCell (Below.setCell (Below.setCell HBr.out GEg.out _) GEg.out _) GEg.out _) GEg.out _) GEg.out _) GEg.out _) GEg.out _)); clear BKg HBr hw hcz_0 hfz_0 hcz_1 hfz_1 hcz_2 hfz_2 hcz_3 hfz_3 hcz_4 hfz_4 hcz_5 hfz_5 hcz_6 hfz_6; have BKg := n0_; have HBr := n1_; clear n0_ n1_; have hcz_0 : w4.cell? ⟨gb, 0, none⟩ = some (.int .i64 (rd_T28 zs j).f0.f0) := (blk_cell BKg.out 0).trans rfl; have hcz_1 : w4.cell? ⟨gb, 1, none⟩ = some (.int .i64 (rd_T28 zs j).f0.f1) := (blk_cell BKg.out 1).trans rfl; have hcz_2 : w4.cell? ⟨gb, 2, none⟩ = some (.int .i64 (rd_T28 zs j).f0.f2) := (blk_cell BKg.out 2).trans rfl; have hcz_3 : w4.cell? ⟨gb, 3, none⟩ = some (.int .i64 (rd_T28 zs j).f1.f0) := (blk_cell BKg.out 3).trans rfl; have hcz_4 : w4.cell? ⟨gb, 4, none⟩ = some (.int .i64 (rd_T28 zs j).f1.f1) := (blk_cell BKg.out 4).trans rfl; have hcz_5 : w4.cell? ⟨gb, 5, none⟩ = some (.int .i64 (rd_T28 zs j).f2) := (blk_cell BKg.out 5).trans rfl; have hcz_6 : w4.cell? ⟨gb, 6, none⟩ = some (.int .i64 (rd_T28 zs j).f3) := (blk_cell BKg.out 6).trans rfl) | ((with_reducible refine Xw.gate_value (n := 26) rfl ?_); refine Xw.goesV_ (some 28) rfl rfl hf hname hbody #[.agg #[.int .i64 (rd_T28 zs j).f0.f0, .int .i64 (rd_T28 zs j).f0.f1, .int .i64 (rd_T28 zs j).f0.f2, .int .i64 (rd_T28 zs j).f1.f0, .int .i64 (rd_T28 zs j).f1.f1, .int .i64 (rd_T28 zs j).f2, .int .i64 (rd_T28 zs j).f3]] lb rfl rfl (by (try simp only [List.map_toArray, List.map_cons, List.map_nil]); first | done | rfl) ?_; refine (HP.out w4 (rd_T28 zs j) (below_then HB.out (by have := HB.out.size; have := HBASE.out; omega) HBr.out)).mono ?_; rintro e w5 ⟨rfl, hb'0⟩; rw [hq.out]; refine ⟨_, rfl, ?_⟩; have n0_ := am (blk_below BKg.out hb'0); have n1_ := am (below_step HBr.out hb'0); clear BKg HBr hb'0 hcz_0 hcz_1 hcz_2 hcz_3 hcz_4 hcz_5 hcz_6; have BKg := n0_; have HBr := n1_; clear n0_ n1_; have hcz_0 : w5.cell? ⟨gb, 0, none⟩ = some (.int .i64 (rd_T28 zs j).f0.f0) := (blk_cell BKg.out 0).trans rfl; have hcz_1 : w5.cell? ⟨gb, 1, none⟩ = some (.int .i64 (rd_T28 zs j).f0.f1) := (blk_cell BKg.out 1).trans rfl; have hcz_2 : w5.cell? ⟨gb, 2, none⟩ = some (.int .i64 (rd_T28 zs j).f0.f2) := (blk_cell BKg.out 2).trans rfl; have hcz_3 : w5.cell? ⟨gb, 3, none⟩ = some (.int .i64 (rd_T28 zs j).f1.f0) := (blk_cell BKg.out 3).trans rfl; have hcz_4 : w5.cell? ⟨gb, 4, none⟩ = some (.int .i64 (rd_T28 zs j).f1.f1) := (blk_cell BKg.out 4).trans rfl; have hcz_5 : w5.cell? ⟨gb, 5, none⟩ = some (.int .i64 (rd_T28 zs j).f2) := (blk_cell BKg.out 5).trans rfl; have hcz_6 : w5.cell? ⟨gb, 6, none⟩ = some (.int .i64 (rd_T28 zs j).f3) := (blk_cell BKg.out 6).trans rfl))
     go_roundg (l0.length - (j.toNat + 1))
     case measure => have := HI.out; have := HX2.out; omega
     case rel => exact ⟨i, j + 1, zs, rfl, by rw [HW.out.1], ⟨by have := HX2.out; have := HI.out; omega⟩, ⟨Xw.df_skip p zs l0 z28 i j HX2.out.1 HI.out.2.1 HX2.out.2 hq.out HZ.out⟩, ⟨Kd.R_below HO.out HBr.out⟩, ⟨below_then HB.out (by have := HB.out.size; have := HBASE.out; omega) HBr.out⟩⟩
    | false =>
     have hq := Aside0.mk hq0
     clear hq0
     go_wp2_with (first | ((with_reducible refine gate_dst (N := 7) rfl ?_); refine box_event ?hg (N := 7) ?hd (cs := #[.int .i64 0, .int .i64 0, .int .i64 0, .int .i64 0, .int .i64 0, .int .i64 0, .int .i64 0]) (t := 28) ?hr ?_; (case hd => rfl); (case hg => rfl); (case hr => first | (go_simp; done) | (go_simp; rfl)); intro gb hg w3 hbox hb; have HBr := Aside0.mk hb; have BKg := Aside0.mk hbox; have GEg := am (Nat.le_of_eq hg.symm); clear hb hbox hg; have hcz_0 : w3.cell? ⟨gb, 0, none⟩ = some (.int .i64 0) := (blk_cell BKg.out 0).trans rfl; have hfz_0 := blk_frozen BKg.out 0; have hcz_1 : w3.cell? ⟨gb, 1, none⟩ = some (.int .i64 0) := (blk_cell BKg.out 1).trans rfl; have hfz_1 := blk_frozen BKg.out 1; have hcz_2 : w3.cell? ⟨gb, 2, none⟩ = some (.int .i64 0) := (blk_cell BKg.out 2).trans rfl; have hfz_2 := blk_frozen BKg.out 2; have hcz_3 : w3.cell? ⟨gb, 3, none⟩ = some (.int .i64 0) := (blk_cell BKg.out 3).trans rfl; have hfz_3 := blk_frozen BKg.out 3; have hcz_4 : w3.cell? ⟨gb, 4, none⟩ = some (.int .i64 0) := (blk_cell BKg.out 4).trans rfl; have hfz_4 := blk_frozen BKg.out 4; have hcz_5 : w3.cell? ⟨gb, 5, none⟩ = some (.int .i64 0) := (blk_cell BKg.out 5).trans rfl; have hfz_5 := blk_frozen BKg.out 5; have hcz_6 : w3.cell? ⟨gb, 6, none⟩ = some (.int .i64 0) := (blk_cell BKg.out 6).trans rfl; have hfz_6 := blk_frozen BKg.out 6) | ((with_reducible refine gate_store (t := 28) (p := 7) rfl ?_); refine store_event (t := 28) (p := 7) (v := ?vo_w4) (w1 := (((((((w3.setCell ⟨gb, 0, none⟩ (.int .i64 (rd_T28 zs j).f0.f0)).setCell ⟨gb, 1, none⟩ (.int .i64 (rd_T28 zs j).f0.f1)).setCell ⟨gb, 2, none⟩ (.int .i64 (rd_T28 zs j).f0.f2)).setCell ⟨gb, 3, none⟩ (.int .i64 (rd_T28 zs j).f1.f0)).setCell ⟨gb, 4, none⟩ (.int .i64 (rd_T28 zs j).f1.f1)).setCell ⟨gb, 5, none⟩ (.int .i64 (rd_T28 zs j).f2)).setCell ⟨gb, 6, none⟩ (.int .i64 (rd_T28 zs j).f3))) ?hg ?ho ?hn ?hr ?_; (case ho => rfl); (case hg => rfl); (case hn => rfl); (case hr => first | (go_simp; done) | (go_simp; rfl)); intro w4 hw; have n0_ := am (show w4.heap[gb]? = some (.cells #[.int .i64 (rd_T28 zs j).f0.f0, .int .i64 (rd_T28 zs j).f0.f1, .int .i64 (rd_T28 zs j).f0.f2, .int .i64 (rd_T28 zs j).f1.f0, .int .i64 (rd_T28 zs j).f1.f1, .int .i64 (rd_T28 zs j).f2, .int .i64 (rd_T28 zs j).f3] 28 (0, 0)) by rw [hw]; exact (blk_set (blk_set (blk_set (blk_set (blk_set (blk_set (blk_set BKg.out 0 _) 1 _) 2 _) 3 _) 4 _) 5 _) 6 _)); have n1_ := am (show Below wr.heap.size wr w4 by rw [hw]; exact (Below.setCell (Below.setCell (Below.setCell (Below.setCell (Below.setCell (Below.setCell (Below.setCell HBr.out GEg.out _) GEg.out _) GEg.out _) GEg.out _) GEg.out _) GEg.out _) GEg.out _)); clear BKg HBr hw hcz_0 hfz_0 hcz_1 hfz_1 hcz_2 hfz_2 hcz_3 hfz_3 hcz_4 hfz_4 hcz_5 hfz_5 hcz_6 hfz_6; have BKg := n0_; have HBr := n1_; clear n0_ n1_; have hcz_0 : w4.cell? ⟨gb, 0, none⟩ = some (.int .i64 (rd_T28 zs j).f0.f0) := (blk_cell BKg.out 0).trans rfl; have hcz_1 : w4.cell? ⟨gb, 1, none⟩ = some (.int .i64 (rd_T28 zs j).f0.f1) := (blk_cell BKg.out 1).trans rfl; have hcz_2 : w4.cell? ⟨gb, 2, none⟩ = some (.int .i64 (rd_T28 zs j).f0.f2) := (blk_cell BKg.out 2).trans rfl; have hcz_3 : w4.cell? ⟨gb, 3, none⟩ = some (.int .i64 (rd_T28 zs j).f1.f0) := (blk_cell BKg.out 3).trans rfl; have hcz_4 : w4.cell? ⟨gb, 4, none⟩ = some (.int .i64 (rd_T28 zs j).f1.f1) := (blk_cell BKg.out 4).trans rfl; have hcz_5 : w4.cell? ⟨gb, 5, none⟩ = some (.int .i64 (rd_T28 zs j).f2) := (blk_cell BKg.out 5).trans rfl; have hcz_6 : w4.cell? ⟨gb, 6, none⟩ = some (.int .i64 (rd_T28 zs j).f3) := (blk_cell BKg.out 6).trans rfl) | ((with_reducible refine Xw.gate_value (n := 26) rfl ?_); refine Xw.goesV_ (some 28) rfl rfl hf hname hbody #[.agg #[.int .i64 (rd_T28 zs j).f0.f0, .int .i64 (rd_T28 zs j).f0.f1, .int .i64 (rd_T28 zs j).f0.f2, .int .i64 (rd_T28 zs j).f1.f0, .int .i64 (rd_T28 zs j).f1.f1, .int .i64 (rd_T28 zs j).f2, .int .i64 (rd_T28 zs j).f3]] lb rfl rfl (by (try simp only [List.map_toArray, List.map_cons, List.map_nil]); first | done | rfl) ?_; refine (HP.out w4 (rd_T28 zs j) (below_then HB.out (by have := HB.out.size; have := HBASE.out; omega) HBr.out)).mono ?_; rintro e w5 ⟨rfl, hb'0⟩; rw [hq.out]; refine ⟨_, rfl, ?_⟩; have n0_ := am (blk_below BKg.out hb'0); have n1_ := am (below_step HBr.out hb'0); clear BKg HBr hb'0 hcz_0 hcz_1 hcz_2 hcz_3 hcz_4 hcz_5 hcz_6; have BKg := n0_; have HBr := n1_; clear n0_ n1_; have hcz_0 : w5.cell? ⟨gb, 0, none⟩ = some (.int .i64 (rd_T28 zs j).f0.f0) := (blk_cell BKg.out 0).trans rfl; have hcz_1 : w5.cell? ⟨gb, 1, none⟩ = some (.int .i64 (rd_T28 zs j).f0.f1) := (blk_cell BKg.out 1).trans rfl; have hcz_2 : w5.cell? ⟨gb, 2, none⟩ = some (.int .i64 (rd_T28 zs j).f0.f2) := (blk_cell BKg.out 2).trans rfl; have hcz_3 : w5.cell? ⟨gb, 3, none⟩ = some (.int .i64 (rd_T28 zs j).f1.f0) := (blk_cell BKg.out 3).trans rfl; have hcz_4 : w5.cell? ⟨gb, 4, none⟩ = some (.int .i64 (rd_T28 zs j).f1.f1) := (blk_cell BKg.out 4).trans rfl; have hcz_5 : w5.cell? ⟨gb, 5, none⟩ = some (.int .i64 (rd_T28 zs j).f2) := (blk_cell BKg.out 5).trans rfl; have hcz_6 : w5.cell? ⟨gb, 6, none⟩ = some (.int .i64 (rd_T28 zs j).f3) := (blk_cell BKg.out 6).trans rfl) | ((with_reducible refine gate_store (t := 28) (p := 33) rfl ?_); have HO5 := Kd.R_below HO.out HBr.out; obtain ⟨ci, hcl, hM, hcc, hfr⟩ := Kd.R_elem HO5 z28 i HI.out.1 (by have := HI.out; have := HX2.out; omega); obtain rfl := k28_openM hM; refine Kd.R_store k28 (w0 := w) base rfl rfl 28 (.tmp 33) (.tmp 32) rfl 28 i 0 zs (rd_T28 zs j) (.agg #[.int .i64 (rd_T28 zs j).f0.f0, .int .i64 (rd_T28 zs j).f0.f1, .int .i64 (rd_T28 zs j).f0.f2, .int .i64 (rd_T28 zs j).f1.f0, .int .i64 (rd_T28 zs j).f1.f1, .int .i64 (rd_T28 zs j).f2, .int .i64 (rd_T28 zs j).f3]) [.int .i64 (rd_T28 zs j).f0.f0, .int .i64 (rd_T28 zs j).f0.f1, .int .i64 (rd_T28 zs j).f0.f2, .int .i64 (rd_T28 zs j).f1.f0, .int .i64 (rd_T28 zs j).f1.f1, .int .i64 (rd_T28 zs j).f2, .int .i64 (rd_T28 zs j).f3] _ (fun _ => True) (fun _ => False) rfl rfl rfl rfl (by kernel_rfl) (by simp [Value.oneCell']) HO5 HI.out.1 (by have := HI.out; have := HX2.out; omega) hcl hcc (Nat.le_refl 7) (k28_mkM _ _ _ (rd_T28 zs j)) (fun _ h => h.elim) (below_then HB.out (by have := HB.out.size; have := HBASE.out; omega) HBr.out) ?_; intro w6 ho6 hb6 hg6; have HO6 := Aside0.mk ho6; have HB6 := Aside0.mk hb6; clear ho6 hb6 hg6 HO5 hcl hM hcc hfr))
     go_roundg (l0.length - (j.toNat + 1))
     case measure => have := HI.out; have := HX2.out; omega
     case rel => exact ⟨i + 1, j + 1, zs.set i.toNat (rd_T28 zs j), by rw [HW.out.2], by rw [HW.out.1], ⟨by have := HX2.out; have := HI.out; omega⟩, ⟨Xw.df_put p zs l0 z28 i j HI.out.1 HX2.out.1 HI.out.2.1 HX2.out.2 hq.out HZ.out⟩, HO6, HB6⟩
   ·have c4b0 : decide (j < (l0.length : Int)) = false := decide_eq_false c4
    have hij := HI.out
    obtain ⟨i0q, hi0q, _, hszq, _⟩ := info_parts info28
    have hcutA := cut_from (P := Try.prog) 22 28 .i64 Try.underlying22 hi0q 7 hszq (some ⟨gr, 0, none⟩) l0.length cap i hij.1 (by omega)
    rw [if_neg (by have := HCP.out; omega)] at hcutA
    have hcutB := cut_to (P := Try.prog) 22 28 .i64 Try.underlying22 hi0q (some ⟨gr, 0, none⟩) l0.length cap i hij.1 (by omega) HCP.out
    have hzv : ∀ w, (zeroValue 28).run Try.prog w = .ok (.agg #[.int .i64 0, .int .i64 0, .int .i64 0, .int .i64 0, .int .i64 0, .int .i64 0, .int .i64 0]) w := fun w => by kernel_rfl
    obtain ⟨W', hcl, hR', hgr⟩ := Xw.clear_row k28 22 0 (.agg #[.int .i64 0, .int .i64 0, .int .i64 0, .int .i64 0, .int .i64 0, .int .i64 0, .int .i64 0]) Try.underlying22 hzv rfl (by simp [Value.cells, Value.oneCell']) (by decide) HO.out i.toNat (by omega) (cap - i.toNat)
    have hcl2 : ∀ ty, (Builtin.clear_ #[22] ty #[.slice (some ⟨gr, i.toNat * 7, none⟩) (l0.length - i.toNat) (cap - i.toNat)]).run Try.prog wr = .ok (.tuple #[]) W' := fun ty => hcl
    have HR' := Aside0.mk hR'
    have HGR := Aside0.mk hgr
    have HIJ := am (And.intro hij c4)
    rw [Option.map_some, add_plain] at hcutA
    clear hcl hR' hgr hij c4 hzv hi0q hszq
    go_wp2
    go_ret
    have hij := HIJ.out
    have hz := HZ.out
    have e1 : (l0.take j.toNat) = l0 := List.take_of_length_le (by omega)
    have e2 := hz.2.1.trans (congrArg _ e1)
    exact ⟨_, rfl, e2 ▸ HR'.out, pw_below_grown HB.out (some gr) (by have := HB.out.size; have := HBASE.out; omega) HGR.out (fun k hk => by injection hk with hk; rw [← hk]; exact HG.out)⟩


/-! ### line_Remove: function 19 -/
def line_Remove.p (a0 a1 a2 : Int) (x : S28) : Bool := (x.f0.f0 == a0 && (x.f0.f1 == a1 && (x.f0.f2 == a2)))
set_option maxHeartbeats 8000000 in
theorem line_Remove.closure (a0 a1 a2 : Int) (B : Nat) (w : World) (hB : w.heap[B]? = some (.cells #[.int .i64 a0, .int .i64 a1, .int .i64 a2] 24 (0, 0))) (x : S28) :
  Calls Try.prog 38 (#[.agg #[.int .i64 x.f0.f0, .int .i64 x.f0.f1, .int .i64 x.f0.f2, .int .i64 x.f1.f0, .int .i64 x.f1.f1, .int .i64 x.f2, .int .i64 x.f3]] ++ #[.pointer (some ⟨B, 0, none⟩)]) w fun e w' => e = .returned (.bool (line_Remove.p a0 a1 a2 x)) ∧ Below w.heap.size w w' := by
 have hu24 := Try.underlying24
 have BK := Aside0.mk hB
 have HB := am (Below.refl w.heap.size w)
 clear hB
 by_cases c6 : (x.f0.f0 == a0 && (x.f0.f1 == a1 && (x.f0.f2 == a2))) = true
 ·have c6b0 : (x.f0.f0 == a0 && (x.f0.f1 == a1 && (x.f0.f2 == a2))) = true := c6
  (try (have c6b1 : decide (x.f0.f0 = a0 && (x.f0.f1 == a1 && (x.f0.f2 == a2))) = true := by simpa using c6))
  (try (have c6b2 : (x.f0.f0 == a0 && (x.f0.f1 == a1 && (x.f0.f2 == a2))) = true := by simpa using c6))
  have hr := am (show line_Remove.p a0 a1 a2 x = true from c6b0)
  clear c6
  go_enter Try.func38, Try.ntmps38
  go_wp2_with (first | ((with_reducible refine gate_dst (N := 2) rfl ?_); refine box_event ?hg (N := 2) ?hd (cs := #[.int .i64 x.f0.f0, .int .i64 x.f0.f1, .int .i64 x.f0.f2, .int .i64 x.f1.f0, .int .i64 x.f1.f1, .int .i64 x.f2, .int .i64 x.f3]) (t := 28) ?hr ?_; (case hd => rfl); (case hg => rfl); (case hr => first | (go_simp; done) | (go_simp; rfl)); intro gb hg w_gb hbox hb; have n0_ := am (below_step (zL HB.out) hb); have n1_ := Aside0.mk hbox; have k0_ := am (blk_below (by exact BK.out) hb); clear HB; have HB := n0_; have BKgb := n1_; clear BK; have BK := k0_; clear n0_ n1_ k0_; clear hb hbox hg; have hcz7_0 : w_gb.cell? ⟨gb, 0, none⟩ = some (Value.int .i64 x.f0.f0) := (blk_cell BKgb.out 0).trans rfl; have hcz7_1 : w_gb.cell? ⟨gb, 1, none⟩ = some (Value.int .i64 x.f0.f1) := (blk_cell BKgb.out 1).trans rfl; have hcz7_2 : w_gb.cell? ⟨gb, 2, none⟩ = some (Value.int .i64 x.f0.f2) := (blk_cell BKgb.out 2).trans rfl; have hcz8_0 : w_gb.cell? ⟨B, 0, none⟩ = some (.int .i64 a0) := (blk_cell BK.out 0).trans rfl; have hcz8_1 : w_gb.cell? ⟨B, 1, none⟩ = some (.int .i64 a1) := (blk_cell BK.out 1).trans rfl; have hcz8_2 : w_gb.cell? ⟨B, 2, none⟩ = some (.int .i64 a2) := (blk_cell BK.out 2).trans rfl))
  go_ret
  exact ⟨by rw [hr.out]; rfl, HB.out⟩
 ·have c6b0 : (x.f0.f0 == a0 && (x.f0.f1 == a1 && (x.f0.f2 == a2))) = false := by simpa using c6
  (try (have c6b1 : decide (x.f0.f0 = a0 && (x.f0.f1 == a1 && (x.f0.f2 == a2))) = false := by simpa using c6))
  (try (have c6b2 : (x.f0.f0 == a0 && (x.f0.f1 == a1 && (x.f0.f2 == a2))) = false := by simpa using c6))
  (try (have c6b3 : ¬ (x.f0.f0 = a0 && (x.f0.f1 == a1 && (x.f0.f2 == a2))) := by simpa using c6))
  have hr := am (show line_Remove.p a0 a1 a2 x = false from c6b0)
  clear c6
  go_enter Try.func38, Try.ntmps38
  go_wp2_with (first | ((with_reducible refine gate_dst (N := 2) rfl ?_); refine box_event ?hg (N := 2) ?hd (cs := #[.int .i64 x.f0.f0, .int .i64 x.f0.f1, .int .i64 x.f0.f2, .int .i64 x.f1.f0, .int .i64 x.f1.f1, .int .i64 x.f2, .int .i64 x.f3]) (t := 28) ?hr ?_; (case hd => rfl); (case hg => rfl); (case hr => first | (go_simp; done) | (go_simp; rfl)); intro gb hg w_gb hbox hb; have n0_ := am (below_step (zL HB.out) hb); have n1_ := Aside0.mk hbox; have k0_ := am (blk_below (by exact BK.out) hb); clear HB; have HB := n0_; have BKgb := n1_; clear BK; have BK := k0_; clear n0_ n1_ k0_; clear hb hbox hg; have hcz7_0 : w_gb.cell? ⟨gb, 0, none⟩ = some (Value.int .i64 x.f0.f0) := (blk_cell BKgb.out 0).trans rfl; have hcz7_1 : w_gb.cell? ⟨gb, 1, none⟩ = some (Value.int .i64 x.f0.f1) := (blk_cell BKgb.out 1).trans rfl; have hcz7_2 : w_gb.cell? ⟨gb, 2, none⟩ = some (Value.int .i64 x.f0.f2) := (blk_cell BKgb.out 2).trans rfl; have hcz8_0 : w_gb.cell? ⟨B, 0, none⟩ = some (.int .i64 a0) := (blk_cell BK.out 0).trans rfl; have hcz8_1 : w_gb.cell? ⟨B, 1, none⟩ = some (.int .i64 a1) := (blk_cell BK.out 1).trans rfl; have hcz8_2 : w_gb.cell? ⟨B, 2, none⟩ = some (.int .i64 a2) := (blk_cell BK.out 2).trans rfl))
  go_ret
  exact ⟨by rw [hr.out]; rfl, HB.out⟩
def line_Remove.f (l0 : List S28) (a0 a1 a2 : Int) : Option (List S28 × Bool) := if l0.length < 2513169434916 then (some (l0.filter (fun x => !line_Remove.p a0 a1 a2 x), decide ((l0.filter (fun x => !line_Remove.p a0 a1 a2 x)).length < l0.length))) else (none)
set_option maxHeartbeats 8000000 in
theorem line_Remove.calls (A0 : Option Addr) (c0 : Nat) (l0 : List S28) (a1_0 : Int) (a1_1 : Int) (a1_2 : Int) (r1 : List S28) (r2 : Bool) (w : World) (hr0 : Kd.C k28 w A0 l0.length l0) (hc0 : l0.length ≤ c0) (h : line_Remove.f l0 a1_0 a1_1 a1_2 = some (r1, r2)) :
  Calls Try.prog 19 #[.slice A0 l0.length c0, .agg #[.int .i64 a1_0, .int .i64 a1_1, .int .i64 a1_2]] w fun e w' => ∃ v0_ : Value, e = .returned (.tuple #[v0_, .bool r2]) ∧ Kd.R k28 28 w' w.heap.size (fun _ => True) v0_ r1 ∧ Below w.heap.size w w' := by
 unfold line_Remove.f at h
 by_cases hl : l0.length < 2513169434916
 ·rw [if_pos hl] at h
  injection h with h
  injection h with h1 h2
  subst h1
  subst h2
  have hcl : api_Wait_35.f l0 = some l0 := by unfold api_Wait_35.f; rw [if_pos hl]
  have HCL := Aside0.mk hcl
  have HR0 := Aside0.mk hr0
  have HC0 := Aside0.mk hc0
  have HB := am (Below.refl w.heap.size w)
  clear hr0 hcl hl hc0
  have hmf : ∀ (fn : Fn) (first cap : Array Value) (w : World), (Instr.makeFunc fn first cap).run Try.prog w = .ok (.func fn first cap) w := fun _ _ _ _ => rfl
  go_enter Try.func19, Try.ntmps19
  go_wp2_with (first | ((with_reducible refine gate_dst (N := 3) rfl ?_); refine box_event ?hg (N := 3) ?hd (cs := #[.int .i64 a1_0, .int .i64 a1_1, .int .i64 a1_2]) (t := 24) ?hr ?_; (case hd => rfl); (case hg => rfl); (case hr => first | (go_simp; done) | (go_simp; rfl)); intro gb167 hg w_gb167 hbox hb; have n0_ := am (below_step (zL HB.out) hb); have n1_ := Aside0.mk hbox; clear HB; have HB := n0_; have BKgb167 := n1_; clear n0_ n1_ ; clear hb hbox hg) | ((with_reducible refine gate_callee (f := 35) rfl ?_); refine goesL_ (some 8) rfl rfl Try.func35 (by kernel_rfl) rfl #[.slice A0 l0.length c0] rfl (by (try simp only [List.map_toArray, List.map_cons, List.map_nil]); first | done | rfl) ?_; (with_reducible refine (api_Wait_35.calls A0 c0 l0 l0 _ (Kd.C_below HR0.out HB.out) HC0.out HCL.out).mono ?_); rintro e w5 ⟨v5, rfl, hR5, hb⟩; refine ⟨_, rfl, ?_⟩; have HR5 := Aside0.mk hR5; have HB5 := Aside0.mk hb; have GE5 := am (blk_lt BKgb167.out); have n0_ := am (blk_below BKgb167.out hb); clear BKgb167 hb hR5; have BKgb167 := n0_; clear n0_) | ((with_reducible refine gate_callee (f := 37) rfl ?_); refine goesL_ (some 10) rfl rfl Try.func37 (by kernel_rfl) rfl #[v5, .func (.func 38) #[] #[.pointer (some ⟨gb167, 0, none⟩)]] rfl (by (try simp only [List.map_toArray, List.map_cons, List.map_nil]); first | done | rfl) ?_; (with_reducible refine (api_Wait_37.calls (line_Remove.p a1_0 a1_1 a1_2) Try.func38 (by kernel_rfl) rfl #[.pointer (some ⟨gb167, 0, none⟩)] w_gb167.heap.size v5 l0 _ HB5.out.size HR5.out ?side1).mono ?_); (case side1 => exact fun W x hW => line_Remove.closure a1_0 a1_1 a1_2 gb167 W ((hW.block _ GE5.out).trans BKgb167.out) x); rintro e w7 ⟨v7, rfl, hR7, hb7⟩; refine ⟨_, rfl, ?_⟩; obtain ⟨A7, c7, rfl⟩ := Kd.R_slice hR7; have HR7 := Aside0.mk hR7; have HB7 := am (below_step HB.out (HB5.out.trans hb7)); clear hR7 hb7))
  have hcmp : ∀ (a b : Nat), decide ((a : Int) < (b : Int)) = decide (a < b) := fun a b => by simp
  go_ret2
  exact ⟨_, by first | rfl | (simp; done) | (simp; rfl), Kd.R_lower HR7.out (by have := HB.out.size; omega), HB7.out⟩
 ·rw [if_neg hl] at h; cases h


/-! ### clusterlocksref11_Remove: function 20 -/
def clusterlocksref11_Remove.l0 : Nat → List (S28) → List (S28) → Int → Int → Int → Int → Option ((List (S28)) × Bool)
 | 0, _, _, _, _, _, _ => none
 | k + 1, x0, x6, x7, x252000, x252001, x252002 => if x7 < (x0.length : Int) then (if 0 ≤ x7 then (if (!(((rd_T28 x0 x7).f0.f0) == x252000) || (!(((rd_T28 x0 x7).f0.f1) == x252001) || (!(((rd_T28 x0 x7).f0.f2) == x252002)))) = true then (if x6.length < 2513169434916 then (clusterlocksref11_Remove.l0 k x0 (x6 ++ [(⟨(⟨(rd_T28 x0 x7).f0.f0, (rd_T28 x0 x7).f0.f1, (rd_T28 x0 x7).f0.f2⟩ : S24), (⟨(rd_T28 x0 x7).f1.f0, (rd_T28 x0 x7).f1.f1⟩ : S26), (rd_T28 x0 x7).f2, (rd_T28 x0 x7).f3⟩ : S28)]) (wrap64 (x7 + 1)) x252000 x252001 x252002) else (none)) else (clusterlocksref11_Remove.l0 k x0 x6 (wrap64 (x7 + 1)) x252000 x252001 x252002)) else (none)) else (some (x6, decide ((x6.length : Int) < (x0.length : Int))))
def clusterlocksref11_Remove.f (k : Nat) (l0 : List (S28)) (a1_0 : Int) (a1_1 : Int) (a1_2 : Int) : Option ((List (S28)) × Bool) := clusterlocksref11_Remove.l0 k l0 ([] : List (S28)) 0 a1_0 a1_1 a1_2
theorem clusterlocksref11_Remove.mono_l : ∀ k, (∀ y0 y1 y2 y3 y4 y5, LeO (clusterlocksref11_Remove.l0 k y0 y1 y2 y3 y4 y5) (clusterlocksref11_Remove.l0 (k + 1) y0 y1 y2 y3 y4 y5))
 | 0 => fun _ _ _ _ _ _ r h => by simp [clusterlocksref11_Remove.l0] at h
 | k + 1 => by
  have ih0 := clusterlocksref11_Remove.mono_l k
  ·intro y0 y1 y2 y3 y4 y5
   unfold clusterlocksref11_Remove.l0
   repeat' first
   | (with_reducible exact ih0 _ _ _ _ _ _)
   | (with_reducible exact LeO.refl _)
   | (with_reducible exact LeO.none _)
   | (with_reducible refine LeO.ite ?_ ?_)
   | (with_reducible refine LeO.bind ?_ (fun _ => ?_))
   | exact ih0 _ _ _ _ _ _
   | exact LeO.none _
   | refine LeO.ite ?_ ?_
   | refine LeO.bind ?_ (fun _ => ?_)
theorem clusterlocksref11_Remove.mono : ∀ a0 a1 a2 a3 k, LeO (clusterlocksref11_Remove.f k a0 a1 a2 a3) (clusterlocksref11_Remove.f (k + 1) a0 a1 a2 a3) := by
 intro a0 a1 a2 a3 k
 have ih0 := clusterlocksref11_Remove.mono_l k
 unfold clusterlocksref11_Remove.f
 repeat' first
   | (with_reducible exact ih0 _ _ _ _ _ _)
   | (with_reducible exact LeO.refl _)
   | (with_reducible exact LeO.none _)
   | (with_reducible refine LeO.ite ?_ ?_)
   | (with_reducible refine LeO.bind ?_ (fun _ => ?_))
   | exact ih0 _ _ _ _ _ _
   | exact LeO.none _
   | refine LeO.ite ?_ ?_
   | refine LeO.bind ?_ (fun _ => ?_)
set_option maxHeartbeats 8000000 in
set_option maxRecDepth 100000 in
theorem clusterlocksref11_Remove.calls (k : Nat) (A0 : Option Addr) (c0 : Nat) (l0 : List (S28)) (a1_0 : Int) (a1_1 : Int) (a1_2 : Int) (r1 : List (S28)) (r2 : Bool) (w : World) (hr0 : Kd.C k28 w A0 l0.length l0) (hc0 : l0.length ≤ c0) (h : clusterlocksref11_Remove.f k l0 a1_0 a1_1 a1_2 = some (r1, r2)) :
  Calls Try.prog 20 #[.slice A0 l0.length c0, .agg #[.int .i64 a1_0, .int .i64 a1_1, .int .i64 a1_2]] w fun e w' => ∃ v0_ : Value, e = .returned (.tuple #[v0_, .bool r2]) ∧ Kd.R k28 28 w' w.heap.size (fun _ => True) v0_ r1 ∧ Below w.heap.size w w' := by
 have hu24 := Try.underlying24
 have hu28 := Try.underlying28
 have HR0 := Aside0.mk hr0
 have HC0 := Aside0.mk hc0
 clear hr0 hc0
 have HB := am (Below.refl w.heap.size w)
 have H : (clusterlocksref11_Remove.l0 k l0 ([] : List (S28)) 0 a1_0 a1_1 a1_2) = some (r1, r2) := h
 clear h
 have H' := Aside0.mk H
 clear H
 go_enter Try.func20, Try.ntmps20
 go_wp2_with (first | ((with_reducible refine gate_dst (N := 3) rfl ?_); refine box_event ?hg (N := 3) ?hd (cs := #[.int .i64 a1_0, .int .i64 a1_1, .int .i64 a1_2]) (t := 24) ?hr ?_; (case hd => rfl); (case hg => rfl); (case hr => first | (go_simp; done) | (go_simp; rfl)); intro gb251 hg w3 hbox hb; have n0_ := am (below_step (zL HB.out) hb); have n1_ := am (hbox); have n2_ := am (zS hg HB.out); have n3_ := am (zS hg HB.out); clear HB; have HB := n0_; have BK251 := n1_; have GW251 := n2_; have GE251 := n3_; clear n0_ n1_ n2_ n3_; clear hb hbox hg))
 repeat (go_quiet (first | ((with_reducible refine gate_dst (N := 3) rfl ?_); refine box_event ?hg (N := 3) ?hd (cs := #[.int .i64 a1_0, .int .i64 a1_1, .int .i64 a1_2]) (t := 24) ?hr ?_; (case hd => rfl); (case hg => rfl); (case hr => first | (go_simp; done) | (go_simp; rfl)); intro gb251 hg w3 hbox hb; have n0_ := am (below_step (zL HB.out) hb); have n1_ := am (hbox); have n2_ := am (zS hg HB.out); have n3_ := am (zS hg HB.out); clear HB; have HB := n0_; have BK251 := n1_; have GW251 := n2_; have GE251 := n3_; clear n0_ n1_ n2_ n3_; clear hb hbox hg)); try go_wp2_with (first | ((with_reducible refine gate_dst (N := 3) rfl ?_); refine box_event ?hg (N := 3) ?hd (cs := #[.int .i64 a1_0, .int .i64 a1_1, .int .i64 a1_2]) (t := 24) ?hr ?_; (case hd => rfl); (case hg => rfl); (case hr => first | (go_simp; done) | (go_simp; rfl)); intro gb251 hg w3 hbox hb; have n0_ := am (below_step (zL HB.out) hb); have n1_ := am (hbox); have n2_ := am (zS hg HB.out); have n3_ := am (zS hg HB.out); clear HB; have HB := n0_; have BK251 := n1_; have GW251 := n2_; have GE251 := n3_; clear n0_ n1_ n2_ n3_; clear hb hbox hg)))
 go_loopg [6, 7] k (fun kq v6 v7 w' => ∃ (x6_1 : List (S28)) (x7_1 : Int), v7 = .int .i64 x7_1 ∧ Aside0 (clusterlocksref11_Remove.l0 kq l0 x6_1 x7_1 a1_0 a1_1 a1_2 = some (r1, r2)) ∧ Aside0 (kq ≤ k) ∧ Aside0 (Kd.R k28 28 w' w.heap.size (fun _ => True) v6 x6_1) ∧ Aside0 (w'.heap[gb251]? = some (.cells #[.int .i64 a1_0, .int .i64 a1_1, .int .i64 a1_2] 24 (0, 0))) ∧ Aside0 (Below w.heap.size w w'))
 case atStart => exact ⟨(([] : List (S28))), (0), (by first | rfl | (simp; done) | (simp [*]; done)), H', ⟨Nat.le_refl _⟩, ⟨by first | exact Kd.R_nil _ _ _ _ _ | exact Kd.N_nil _ _ _ _ _ | exact Kd.V_nil _ _ _ _ _ | exact Kd.Q_nil _ _ _ _ _ | exact Kd.S_nil _ _ _ _ _⟩, ⟨by exact zB <| BK251.out⟩, ⟨by repeat (first | (with_reducible first | exact HB.out | apply ba | apply bd | apply be | refine below_set ?_ GE251.out) | exact HB.out)⟩⟩
 case round =>
  clear H'
  try clear c2
  try clear p2
  obtain ⟨x6_1, x7_1, rfl, HA, HK1, HO_6, BK251, HB⟩ := hrel
  cases gk with
  | zero => exact absurd HA.out (by simp [clusterlocksref11_Remove.l0])
  | succ k1 =>
   have H := HA.out
   clear HA
   simp only [clusterlocksref11_Remove.l0] at H
   by_cases c4 : x7_1 < (l0.length : Int)
   ·rw [if_pos c4] at H
    have c4b0 : decide (x7_1 < (l0.length : Int)) = true := decide_eq_true c4
    clear c4
    by_cases c5 : 0 ≤ x7_1
    ·rw [if_pos c5] at H
     have c5b0 : decide (0 ≤ x7_1) = true := decide_eq_true c5
     clear c5
     by_cases c6 : (!(((rd_T28 l0 x7_1).f0.f0) == a1_0) || (!(((rd_T28 l0 x7_1).f0.f1) == a1_1) || (!(((rd_T28 l0 x7_1).f0.f2) == a1_2)))) = true
     ·rw [if_pos c6] at H
      have c6b0 : (!(((rd_T28 l0 x7_1).f0.f0) == a1_0) || (!(((rd_T28 l0 x7_1).f0.f1) == a1_1) || (!(((rd_T28 l0 x7_1).f0.f2) == a1_2)))) = true := c6
      clear c6
      by_cases c7 : x6_1.length < 2513169434916
      ·rw [if_pos c7] at H
       have LMc7 := Aside0.mk c7
       clear c7
       obtain ⟨y254, hy254⟩ : ∃ y_ : List (S28), y_ = (x6_1 ++ [(⟨(⟨(rd_T28 l0 x7_1).f0.f0, (rd_T28 l0 x7_1).f0.f1, (rd_T28 l0 x7_1).f0.f2⟩ : S24), (⟨(rd_T28 l0 x7_1).f1.f0, (rd_T28 l0 x7_1).f1.f1⟩ : S26), (rd_T28 l0 x7_1).f2, (rd_T28 l0 x7_1).f3⟩ : S28)]) := ⟨_, rfl⟩
       replace H : (clusterlocksref11_Remove.l0 k1 l0 y254 (wrap64 (x7_1 + 1)) a1_0 a1_1 a1_2) = some (r1, r2) := by first | (rw [hy254]; with_reducible exact H) | (have H2_ := (Option.bind_some _ _).symm.trans H; rw [hy254]; with_reducible exact H2_) | (have H2_ := (Option.bind_some _ _).symm.trans H; with_reducible exact H2_) | with_reducible exact H | (rw [hy254]; exact H) | exact H
       have Ny254 := Aside0.mk hy254
       clear hy254
       have H' := Aside0.mk H
       clear H
       have p252 : 0 ≤ (x7_1 : Int) := of_decide_eq_true (by first | (with_reducible assumption) | assumption)
       have q252 : x7_1 < (l0.length : Int) := of_decide_eq_true (by first | (with_reducible assumption) | assumption)
       obtain ⟨ad252, e252, hx252_0, hx252_1, hx252_2, hx252_3, hx252_4, hx252_5, hx252_6⟩ := at_T28 HR0.out x7_1 p252 q252
       cases e252
       replace hx252_0 := (HB.out.cell (World.block_lt_of_cell? w _ hx252_0)).trans hx252_0
       replace hx252_1 := (HB.out.cell (World.block_lt_of_cell? w _ hx252_1)).trans hx252_1
       replace hx252_2 := (HB.out.cell (World.block_lt_of_cell? w _ hx252_2)).trans hx252_2
       replace hx252_3 := (HB.out.cell (World.block_lt_of_cell? w _ hx252_3)).trans hx252_3
       replace hx252_4 := (HB.out.cell (World.block_lt_of_cell? w _ hx252_4)).trans hx252_4
       replace hx252_5 := (HB.out.cell (World.block_lt_of_cell? w _ hx252_5)).trans hx252_5
       replace hx252_6 := (HB.out.cell (World.block_lt_of_cell? w _ hx252_6)).trans hx252_6
       replace p252 := eq_true p252
       replace q252 := eq_true q252
       have hcz8_0 : wr.cell? ⟨gb251, 0, none⟩ = some (.int .i64 a1_0) := (blk_cell BK251.out 0).trans rfl
       have hcz8_1 : wr.cell? ⟨gb251, 1, none⟩ = some (.int .i64 a1_1) := (blk_cell BK251.out 1).trans rfl
       have hcz8_2 : wr.cell? ⟨gb251, 2, none⟩ = some (.int .i64 a1_2) := (blk_cell BK251.out 2).trans rfl
       have hfz8_0 := blk_frozen BK251.out 0
       have hfz8_1 := blk_frozen BK251.out 1
       have hfz8_2 := blk_frozen BK251.out 2
       have p253 : 0 ≤ (x7_1 : Int) := of_decide_eq_true (by first | (with_reducible assumption) | assumption)
       have q253 : x7_1 < (l0.length : Int) := of_decide_eq_true (by first | (with_reducible assumption) | assumption)
       obtain ⟨ad253, e253, hx253_0, hx253_1, hx253_2, hx253_3, hx253_4, hx253_5, hx253_6⟩ := at_T28 HR0.out x7_1 p253 q253
       obtain rfl : ad252 = ad253 := (by injection e253)
       replace hx253_0 := (HB.out.cell (World.block_lt_of_cell? w _ hx253_0)).trans hx253_0
       replace hx253_1 := (HB.out.cell (World.block_lt_of_cell? w _ hx253_1)).trans hx253_1
       replace hx253_2 := (HB.out.cell (World.block_lt_of_cell? w _ hx253_2)).trans hx253_2
       replace hx253_3 := (HB.out.cell (World.block_lt_of_cell? w _ hx253_3)).trans hx253_3
       replace hx253_4 := (HB.out.cell (World.block_lt_of_cell? w _ hx253_4)).trans hx253_4
       replace hx253_5 := (HB.out.cell (World.block_lt_of_cell? w _ hx253_5)).trans hx253_5
       replace hx253_6 := (HB.out.cell (World.block_lt_of_cell? w _ hx253_6)).trans hx253_6
       replace p253 := eq_true p253
       replace q253 := eq_true q253
       go_wp2_with (first | ((with_reducible refine gate_builtin (b := .append) (xs := #[.tmp 21, .tmp 26]) rfl ?_); at_builtin; refine Kd.R_append k28 (w0 := w) w.heap.size rfl (.tmp 21) (.tmp 26) 22 28 (.agg #[(.int .i64 0), (.int .i64 0), (.int .i64 0), (.int .i64 0), (.int .i64 0), (.int .i64 0), (.int .i64 0)]) 56 rfl Try.underlying22 info28 rfl (by decide) (by omega) u6 x6_1 (⟨(⟨(rd_T28 l0 x7_1).f0.f0, (rd_T28 l0 x7_1).f0.f1, (rd_T28 l0 x7_1).f0.f2⟩ : S24), (⟨(rd_T28 l0 x7_1).f1.f0, (rd_T28 l0 x7_1).f1.f1⟩ : S26), (rd_T28 l0 x7_1).f2, (rd_T28 l0 x7_1).f3⟩ : S28) [.int .i64 ((rd_T28 l0 x7_1).f0.f0), .int .i64 ((rd_T28 l0 x7_1).f0.f1), .int .i64 ((rd_T28 l0 x7_1).f0.f2), .int .i64 ((rd_T28 l0 x7_1).f1.f0), .int .i64 ((rd_T28 l0 x7_1).f1.f1), .int .i64 ((rd_T28 l0 x7_1).f2), .int .i64 ((rd_T28 l0 x7_1).f3)] (fun _ => True) (fun _ => False) rfl rfl ?aP (fun _ hk => hk.elim) ?aF ?aO ?aB ?aS ?aL ?_; (case aP => exact k28_mkM _ _ _ (⟨(⟨(rd_T28 l0 x7_1).f0.f0, (rd_T28 l0 x7_1).f0.f1, (rd_T28 l0 x7_1).f0.f2⟩ : S24), (⟨(rd_T28 l0 x7_1).f1.f0, (rd_T28 l0 x7_1).f1.f1⟩ : S26), (rd_T28 l0 x7_1).f2, (rd_T28 l0 x7_1).f3⟩ : S28)); (case aB => exact (by repeat (first | (with_reducible first | exact HB.out | apply ba | apply bd | apply be | refine below_set ?_ GE251.out) | exact HB.out))); (case aF => exact (fun _ _ => trivial)); (case aO => exact (zR HO_6.out)); (case aS => exact (below_size (zL HB.out))); (case aL => have := LMc7.out; omega); intro v255 w9 ho hb hg hat; rw [← Ny254.out] at ho; have n0_ := am (blk_grown (g := gb251) (o := .cells #[.int .i64 a1_0, .int .i64 a1_1, .int .i64 a1_2] 24 (0, 0)) (zB BK251.out) hg (Kd.R_ne HO_6.out BK251.out (by decide))); have n1_ := am (hb); have n2_ := am (ho); clear BK251 HB HO_6; have BK251 := n0_; have HB := n1_; have HO256 := n2_; clear n0_ n1_ n2_; clear ho hb hg hat))
       repeat (go_quiet (first | ((with_reducible refine gate_builtin (b := .append) (xs := #[.tmp 21, .tmp 26]) rfl ?_); at_builtin; refine Kd.R_append k28 (w0 := w) w.heap.size rfl (.tmp 21) (.tmp 26) 22 28 (.agg #[(.int .i64 0), (.int .i64 0), (.int .i64 0), (.int .i64 0), (.int .i64 0), (.int .i64 0), (.int .i64 0)]) 56 rfl Try.underlying22 info28 rfl (by decide) (by omega) u6 x6_1 (⟨(⟨(rd_T28 l0 x7_1).f0.f0, (rd_T28 l0 x7_1).f0.f1, (rd_T28 l0 x7_1).f0.f2⟩ : S24), (⟨(rd_T28 l0 x7_1).f1.f0, (rd_T28 l0 x7_1).f1.f1⟩ : S26), (rd_T28 l0 x7_1).f2, (rd_T28 l0 x7_1).f3⟩ : S28) [.int .i64 ((rd_T28 l0 x7_1).f0.f0), .int .i64 ((rd_T28 l0 x7_1).f0.f1), .int .i64 ((rd_T28 l0 x7_1).f0.f2), .int .i64 ((rd_T28 l0 x7_1).f1.f0), .int .i64 ((rd_T28 l0 x7_1).f1.f1), .int .i64 ((rd_T28 l0 x7_1).f2), .int .i64 ((rd_T28 l0 x7_1).f3)] (fun _ => True) (fun _ => False) rfl rfl ?aP (fun _ hk => hk.elim) ?aF ?aO ?aB ?aS ?aL ?_; (case aP => exact k28_mkM _ _ _ (⟨(⟨(rd_T28 l0 x7_1).f0.f0, (rd_T28 l0 x7_1).f0.f1, (rd_T28 l0 x7_1).f0.f2⟩ : S24), (⟨(rd_T28 l0 x7_1).f1.f0, (rd_T28 l0 x7_1).f1.f1⟩ : S26), (rd_T28 l0 x7_1).f2, (rd_T28 l0 x7_1).f3⟩ : S28)); (case aB => exact (by repeat (first | (with_reducible first | exact HB.out | apply ba | apply bd | apply be | refine below_set ?_ GE251.out) | exact HB.out))); (case aF => exact (fun _ _ => trivial)); (case aO => exact (zR HO_6.out)); (case aS => exact (below_size (zL HB.out))); (case aL => have := LMc7.out; omega); intro v255 w9 ho hb hg hat; rw [← Ny254.out] at ho; have n0_ := am (blk_grown (g := gb251) (o := .cells #[.int .i64 a1_0, .int .i64 a1_1, .int .i64 a1_2] 24 (0, 0)) (zB BK251.out) hg (Kd.R_ne HO_6.out BK251.out (by decide))); have n1_ := am (hb); have n2_ := am (ho); clear BK251 HB HO_6; have BK251 := n0_; have HB := n1_; have HO256 := n2_; clear n0_ n1_ n2_; clear ho hb hg hat)); try go_wp2_with (first | ((with_reducible refine gate_builtin (b := .append) (xs := #[.tmp 21, .tmp 26]) rfl ?_); at_builtin; refine Kd.R_append k28 (w0 := w) w.heap.size rfl (.tmp 21) (.tmp 26) 22 28 (.agg #[(.int .i64 0), (.int .i64 0), (.int .i64 0), (.int .i64 0), (.int .i64 0), (.int .i64 0), (.int .i64 0)]) 56 rfl Try.underlying22 info28 rfl (by decide) (by omega) u6 x6_1 (⟨(⟨(rd_T28 l0 x7_1).f0.f0, (rd_T28 l0 x7_1).f0.f1, (rd_T28 l0 x7_1).f0.f2⟩ : S24), (⟨(rd_T28 l0 x7_1).f1.f0, (rd_T28 l0 x7_1).f1.f1⟩ : S26), (rd_T28 l0 x7_1).f2, (rd_T28 l0 x7_1).f3⟩ : S28) [.int .i64 ((rd_T28 l0 x7_1).f0.f0), .int .i64 ((rd_T28 l0 x7_1).f0.f1), .int .i64 ((rd_T28 l0 x7_1).f0.f2), .int .i64 ((rd_T28 l0 x7_1).f1.f0), .int .i64 ((rd_T28 l0 x7_1).f1.f1), .int .i64 ((rd_T28 l0 x7_1).f2), .int .i64 ((rd_T28 l0 x7_1).f3)] (fun _ => True) (fun _ => False) rfl rfl ?aP (fun _ hk => hk.elim) ?aF ?aO ?aB ?aS ?aL ?_; (case aP => exact k28_mkM _ _ _ (⟨(⟨(rd_T28 l0 x7_1).f0.f0, (rd_T28 l0 x7_1).f0.f1, (rd_T28 l0 x7_1).f0.f2⟩ : S24), (⟨(rd_T28 l0 x7_1).f1.f0, (rd_T28 l0 x7_1).f1.f1⟩ : S26), (rd_T28 l0 x7_1).f2, (rd_T28 l0 x7_1).f3⟩ : S28)); (case aB => exact (by repeat (first | (with_reducible first | exact HB.out | apply ba | apply bd | apply be | refine below_set ?_ GE251.out) | exact HB.out))); (case aF => exact (fun _ _ => trivial)); (case aO => exact (zR HO_6.out)); (case aS => exact (below_size (zL HB.out))); (case aL => have := LMc7.out; omega); intro v255 w9 ho hb hg hat; rw [← Ny254.out] at ho; have n0_ := am (blk_grown (g := gb251) (o := .cells #[.int .i64 a1_0, .int .i64 a1_1, .int .i64 a1_2] 24 (0, 0)) (zB BK251.out) hg (Kd.R_ne HO_6.out BK251.out (by decide))); have n1_ := am (hb); have n2_ := am (ho); clear BK251 HB HO_6; have BK251 := n0_; have HB := n1_; have HO256 := n2_; clear n0_ n1_ n2_; clear ho hb hg hat)))
       go_roundg k1
       case measure => have := HK1.out; omega
       case rel => exact ⟨(y254), (wrap64 (x7_1 + 1)), (by first | rfl | (simp; done) | (simp [*]; done)), H', ⟨by have := HK1.out; omega⟩, ⟨by exact zR HO256.out⟩, ⟨by exact zB <| BK251.out⟩, ⟨by repeat (first | (with_reducible first | exact HB.out | apply ba | apply bd | apply be | refine below_set ?_ GE251.out) | exact HB.out)⟩⟩
      ·rw [if_neg c7] at H
       exact absurd H (by simp)
     ·rw [if_neg c6] at H
      have c6b0 : (!(((rd_T28 l0 x7_1).f0.f0) == a1_0) || (!(((rd_T28 l0 x7_1).f0.f1) == a1_1) || (!(((rd_T28 l0 x7_1).f0.f2) == a1_2)))) = false := by simpa using c6
      clear c6
      have H' := Aside0.mk H
      clear H
      have p252 : 0 ≤ (x7_1 : Int) := of_decide_eq_true (by first | (with_reducible assumption) | assumption)
      have q252 : x7_1 < (l0.length : Int) := of_decide_eq_true (by first | (with_reducible assumption) | assumption)
      obtain ⟨ad252, e252, hx252_0, hx252_1, hx252_2, hx252_3, hx252_4, hx252_5, hx252_6⟩ := at_T28 HR0.out x7_1 p252 q252
      cases e252
      replace hx252_0 := (HB.out.cell (World.block_lt_of_cell? w _ hx252_0)).trans hx252_0
      replace hx252_1 := (HB.out.cell (World.block_lt_of_cell? w _ hx252_1)).trans hx252_1
      replace hx252_2 := (HB.out.cell (World.block_lt_of_cell? w _ hx252_2)).trans hx252_2
      replace hx252_3 := (HB.out.cell (World.block_lt_of_cell? w _ hx252_3)).trans hx252_3
      replace hx252_4 := (HB.out.cell (World.block_lt_of_cell? w _ hx252_4)).trans hx252_4
      replace hx252_5 := (HB.out.cell (World.block_lt_of_cell? w _ hx252_5)).trans hx252_5
      replace hx252_6 := (HB.out.cell (World.block_lt_of_cell? w _ hx252_6)).trans hx252_6
      replace p252 := eq_true p252
      replace q252 := eq_true q252
      have hcz10_0 : wr.cell? ⟨gb251, 0, none⟩ = some (.int .i64 a1_0) := (blk_cell BK251.out 0).trans rfl
      have hcz10_1 : wr.cell? ⟨gb251, 1, none⟩ = some (.int .i64 a1_1) := (blk_cell BK251.out 1).trans rfl
      have hcz10_2 : wr.cell? ⟨gb251, 2, none⟩ = some (.int .i64 a1_2) := (blk_cell BK251.out 2).trans rfl
      have hfz10_0 := blk_frozen BK251.out 0
      have hfz10_1 := blk_frozen BK251.out 1
      have hfz10_2 := blk_frozen BK251.out 2
      go_wp2
      repeat (go_quiet (fail); try go_wp2)
      go_roundg k1
      case measure => have := HK1.out; omega
      case rel => exact ⟨(x6_1), (wrap64 (x7_1 + 1)), (by first | rfl | (simp; done) | (simp [*]; done)), H', ⟨by have := HK1.out; omega⟩, ⟨by exact zR HO_6.out⟩, ⟨by exact zB <| BK251.out⟩, ⟨by repeat (first | (with_reducible first | exact HB.out | apply ba | apply bd | apply be | refine below_set ?_ GE251.out) | exact HB.out)⟩⟩
    ·rw [if_neg c5] at H
     exact absurd H (by simp)
   ·rw [if_neg c4] at H
    have c4b0 : decide (x7_1 < (l0.length : Int)) = false := decide_eq_false c4
    clear c4
    simp only [Option.some.injEq, Prod.mk.injEq] at H
    obtain ⟨rfl, rfl⟩ := H
    obtain ⟨Ao11, co11, eo11⟩ := Kd.R_slice HO_6.out
    subst eo11
    go_wp2
    repeat (go_quiet (fail); try go_wp2)
    go_ret2
    exact ⟨_, by first | rfl | (simp [errW_none, errW_some] <;> rfl) | (simp [*, errW_none, errW_some] <;> rfl), by exact zR HO_6.out, by repeat (first | (with_reducible first | exact HB.out | apply ba | apply bd | apply be | refine below_set ?_ GE251.out) | exact HB.out)⟩

/-! ### clusterlocksref02_SameProcs: function 23 -/
def clusterlocksref02_SameProcs.l0 : Nat → List (S24) → List (S24) → Int → Option (Bool)
 | 0, _, _, _ => none
 | k + 1, x0, x1, x5 => if x5 < (x0.length : Int) then (if 0 ≤ x5 then (if x5 < (x1.length : Int) then (if (!(((rd_T24 x0 x5).f0) == ((rd_T24 x1 x5).f0)) || (!(((rd_T24 x0 x5).f1) == ((rd_T24 x1 x5).f1)) || (!(((rd_T24 x0 x5).f2) == ((rd_T24 x1 x5).f2))))) = true then (some false) else (clusterlocksref02_SameProcs.l0 k x0 x1 (wrap64 (x5 + 1)))) else (none)) else (none)) else (some true)
def clusterlocksref02_SameProcs.f (k : Nat) (l0 : List (S24)) (l1 : List (S24)) : Option (Bool) := if (l0.length : Int) = (l1.length : Int) then (clusterlocksref02_SameProcs.l0 k l0 l1 0) else (some false)
theorem clusterlocksref02_SameProcs.mono_l : ∀ k, (∀ y0 y1 y2, LeO (clusterlocksref02_SameProcs.l0 k y0 y1 y2) (clusterlocksref02_SameProcs.l0 (k + 1) y0 y1 y2))
 | 0 => fun _ _ _ r h => by simp [clusterlocksref02_SameProcs.l0] at h
 | k + 1 => by
  have ih0 := clusterlocksref02_SameProcs.mono_l k
  ·intro y0 y1 y2
   unfold clusterlocksref02_SameProcs.l0
   repeat' first
   | (with_reducible exact ih0 _ _ _)
   | (with_reducible exact LeO.refl _)
   | (with_reducible exact LeO.none _)
   | (with_reducible refine LeO.ite ?_ ?_)
   | (with_reducible refine LeO.bind ?_ (fun _ => ?_))
   | exact ih0 _ _ _
   | exact LeO.none _
   | refine LeO.ite ?_ ?_
   | refine LeO.bind ?_ (fun _ => ?_)
theorem clusterlocksref02_SameProcs.mono : ∀ a0 a1 k, LeO (clusterlocksref02_SameProcs.f k a0 a1) (clusterlocksref02_SameProcs.f (k + 1) a0 a1) := by
 intro a0 a1 k
 have ih0 := clusterlocksref02_SameProcs.mono_l k
 unfold clusterlocksref02_SameProcs.f
 repeat' first
   | (with_reducible exact ih0 _ _ _)
   | (with_reducible exact LeO.refl _)
   | (with_reducible exact LeO.none _)
   | (with_reducible refine LeO.ite ?_ ?_)
   | (with_reducible refine LeO.bind ?_ (fun _ => ?_))
   | exact ih0 _ _ _
   | exact LeO.none _
   | refine LeO.ite ?_ ?_
   | refine LeO.bind ?_ (fun _ => ?_)
set_option maxHeartbeats 8000000 in
set_option maxRecDepth 100000 in
theorem clusterlocksref02_SameProcs.calls (k : Nat) (A0 : Option Addr) (c0 : Nat) (l0 : List (S24)) (A1 : Option Addr) (c1 : Nat) (l1 : List (S24)) (r : Bool) (w : World) (hr0 : Kd.C k24 w A0 l0.length l0) (hc0 : l0.length ≤ c0) (hr1 : Kd.C k24 w A1 l1.length l1) (hc1 : l1.length ≤ c1) (h : clusterlocksref02_SameProcs.f k l0 l1 = some r) :
  Calls Try.prog 23 #[.slice A0 l0.length c0, .slice A1 l1.length c1] w fun e w' => e = .returned (.bool r) ∧ Drawn0 w w' := by
 have hu24 := Try.underlying24
 have HR0 := Aside0.mk hr0
 have HC0 := Aside0.mk hc0
 clear hr0 hc0
 have HR1 := Aside0.mk hr1
 have HC1 := Aside0.mk hc1
 clear hr1 hc1
 have H : (if (l0.length : Int) = (l1.length : Int) then (clusterlocksref02_SameProcs.l0 k l0 l1 0) else (some false)) = some r := h
 clear h
 by_cases c3 : (l0.length : Int) = (l1.length : Int)
 ·rw [if_pos c3] at H
  have c3b0 : ((l0.length : Int) == (l1.length : Int)) = true := beq_iff_eq.mpr c3
  have c3b1 : ((l0.length : Int) != (l1.length : Int)) = false := bne_eq_false_iff_eq.mpr c3
  have c3b2 : (l0.length == l1.length) = true := by first | simpa using c3 | (simp at c3 ⊢; omega)
  clear c3
  have H' := Aside0.mk H
  clear H
  go_enter Try.func23, Try.ntmps23
  go_wp2
  repeat (go_quiet (fail); try go_wp2)
  go_loopg [5] k (fun kq v5 w' => ∃ (x5_1 : Int), v5 = .int .i64 x5_1 ∧ Aside0 (clusterlocksref02_SameProcs.l0 kq l0 l1 x5_1 = some r) ∧ Aside0 (kq ≤ k) ∧ Drawn0 w w')
  case atStart => exact ⟨(0), (by first | rfl | (simp; done) | (simp [*]; done)), H', ⟨Nat.le_refl _⟩, by repeat (first | exact Drawn0.refl _ | apply Drawn0.step)⟩
  case round =>
   clear H'
   try clear c1
   try clear c2
   try clear p2
   try clear c3
   try clear c3b0
   try clear c3b1
   try clear c3b2
   obtain ⟨x5_1, rfl, HA, HK1, ⟨m1, rfl⟩⟩ := hrel
   cases gk with
   | zero => exact absurd HA.out (by simp [clusterlocksref02_SameProcs.l0])
   | succ k1 =>
    have H := HA.out
    clear HA
    simp only [clusterlocksref02_SameProcs.l0] at H
    by_cases c4 : x5_1 < (l0.length : Int)
    ·rw [if_pos c4] at H
     have c4b0 : decide (x5_1 < (l0.length : Int)) = true := decide_eq_true c4
     clear c4
     by_cases c5 : 0 ≤ x5_1
     ·rw [if_pos c5] at H
      have c5b0 : decide (0 ≤ x5_1) = true := decide_eq_true c5
      clear c5
      by_cases c6 : x5_1 < (l1.length : Int)
      ·rw [if_pos c6] at H
       have c6b0 : decide (x5_1 < (l1.length : Int)) = true := decide_eq_true c6
       clear c6
       by_cases c7 : (!(((rd_T24 l0 x5_1).f0) == ((rd_T24 l1 x5_1).f0)) || (!(((rd_T24 l0 x5_1).f1) == ((rd_T24 l1 x5_1).f1)) || (!(((rd_T24 l0 x5_1).f2) == ((rd_T24 l1 x5_1).f2))))) = true
       ·rw [if_pos c7] at H
        have c7b0 : (!(((rd_T24 l0 x5_1).f0) == ((rd_T24 l1 x5_1).f0)) || (!(((rd_T24 l0 x5_1).f1) == ((rd_T24 l1 x5_1).f1)) || (!(((rd_T24 l0 x5_1).f2) == ((rd_T24 l1 x5_1).f2))))) = true := c7
        clear c7
        obtain rfl := Option.some.inj H
        have p257 : 0 ≤ (x5_1 : Int) := of_decide_eq_true (by first | (with_reducible assumption) | assumption)
        have q257 : x5_1 < (l0.length : Int) := of_decide_eq_true (by first | (with_reducible assumption) | assumption)
        obtain ⟨ad257, e257, hx257_0, hx257_1, hx257_2⟩ := at_T24 HR0.out x5_1 p257 q257
        cases e257
        replace p257 := eq_true p257
        replace q257 := eq_true q257
        have p258 : 0 ≤ (x5_1 : Int) := of_decide_eq_true (by first | (with_reducible assumption) | assumption)
        have q258 : x5_1 < (l1.length : Int) := of_decide_eq_true (by first | (with_reducible assumption) | assumption)
        obtain ⟨ad258, e258, hx258_0, hx258_1, hx258_2⟩ := at_T24 HR1.out x5_1 p258 q258
        cases e258
        replace p258 := eq_true p258
        replace q258 := eq_true q258
        go_wp2
        repeat (go_quiet (fail); try go_wp2)
        go_ret
        exact ⟨by first | rfl | (simp; done) | (simp [*]; done), by repeat (first | exact Drawn0.refl _ | apply Drawn0.step)⟩
       ·rw [if_neg c7] at H
        have c7b0 : (!(((rd_T24 l0 x5_1).f0) == ((rd_T24 l1 x5_1).f0)) || (!(((rd_T24 l0 x5_1).f1) == ((rd_T24 l1 x5_1).f1)) || (!(((rd_T24 l0 x5_1).f2) == ((rd_T24 l1 x5_1).f2))))) = false := by simpa using c7
        clear c7
        have H' := Aside0.mk H
        clear H
        have p257 : 0 ≤ (x5_1 : Int) := of_decide_eq_true (by first | (with_reducible assumption) | assumption)
        have q257 : x5_1 < (l0.length : Int) := of_decide_eq_true (by first | (with_reducible assumption) | assumption)
        obtain ⟨ad257, e257, hx257_0, hx257_1, hx257_2⟩ := at_T24 HR0.out x5_1 p257 q257
        cases e257
        replace p257 := eq_true p257
        replace q257 := eq_true q257
        have p258 : 0 ≤ (x5_1 : Int) := of_decide_eq_true (by first | (with_reducible assumption) | assumption)
        have q258 : x5_1 < (l1.length : Int) := of_decide_eq_true (by first | (with_reducible assumption) | assumption)
        obtain ⟨ad258, e258, hx258_0, hx258_1, hx258_2⟩ := at_T24 HR1.out x5_1 p258 q258
        cases e258
        replace p258 := eq_true p258
        replace q258 := eq_true q258
        go_wp2
        repeat (go_quiet (fail); try go_wp2)
        go_roundg k1
        case measure => have := HK1.out; omega
        case rel => exact ⟨(wrap64 (x5_1 + 1)), (by first | rfl | (simp; done) | (simp [*]; done)), H', ⟨by have := HK1.out; omega⟩, by repeat (first | exact Drawn0.refl _ | apply Drawn0.step)⟩
      ·rw [if_neg c6] at H
       exact absurd H (by simp)
     ·rw [if_neg c5] at H
      exact absurd H (by simp)
    ·rw [if_neg c4] at H
     have c4b0 : decide (x5_1 < (l0.length : Int)) = false := decide_eq_false c4
     clear c4
     obtain rfl := Option.some.inj H
     go_wp2
     repeat (go_quiet (fail); try go_wp2)
     go_ret
     exact ⟨by first | rfl | (simp; done) | (simp [*]; done), by repeat (first | exact Drawn0.refl _ | apply Drawn0.step)⟩
 ·rw [if_neg c3] at H
  have c3b0 : ((l0.length : Int) == (l1.length : Int)) = false := beq_eq_false_iff_ne.mpr c3
  have c3b1 : ((l0.length : Int) != (l1.length : Int)) = true := bne_iff_ne.mpr c3
  have c3b2 : (l0.length == l1.length) = false := by first | simpa using c3 | (simp at c3 ⊢; omega)
  obtain rfl := Option.some.inj H
  go_enter Try.func23, Try.ntmps23
  go_wp2
  repeat (go_quiet (fail); try go_wp2)
  go_ret
  exact ⟨by first | rfl | (simp; done) | (simp [*]; done), by repeat (first | exact Drawn0.refl _ | apply Drawn0.step)⟩

/-! ### clusterlocksref11_Ahead: function 25 -/
def clusterlocksref11_Ahead.l0 : Nat → List (S28) → List (S24) → Int → Int → Option ((List (S24)))
 | 0, _, _, _, _ => none
 | k + 1, x0, x5, x6, x7 => if x7 < x6 then (if 0 ≤ x7 then (if x7 < (x0.length : Int) then (if x5.length < 5864062014805 then (clusterlocksref11_Ahead.l0 k x0 (x5 ++ [(⟨(rd_T28 x0 x7).f0.f0, (rd_T28 x0 x7).f0.f1, (rd_T28 x0 x7).f0.f2⟩ : S24)]) x6 (wrap64 (x7 + 1))) else (none)) else (none)) else (none)) else (some x5)
def clusterlocksref11_Ahead.f (k : Nat) (l0 : List (S28)) (a1_0 : Int) (a1_1 : Int) (a1_2 : Int) : Option ((List (S24))) := (clusterlocksref11_Find.f k l0 a1_0 a1_1 a1_2).bind fun t260 => (clusterlocksref11_Ahead.l0 k l0 ([] : List (S24)) t260 0)
theorem clusterlocksref11_Ahead.mono_l : ∀ k, (∀ y0 y1 y2 y3, LeO (clusterlocksref11_Ahead.l0 k y0 y1 y2 y3) (clusterlocksref11_Ahead.l0 (k + 1) y0 y1 y2 y3))
 | 0 => fun _ _ _ _ r h => by simp [clusterlocksref11_Ahead.l0] at h
 | k + 1 => by
  have ih0 := clusterlocksref11_Ahead.mono_l k
  ·intro y0 y1 y2 y3
   unfold clusterlocksref11_Ahead.l0
   repeat' first
   | (with_reducible exact ih0 _ _ _ _)
   | (with_reducible exact clusterlocksref11_Find.mono _ _ _ _ _)
   | (with_reducible exact LeO.refl _)
   | (with_reducible exact LeO.none _)
   | (with_reducible refine LeO.ite ?_ ?_)
   | (with_reducible refine LeO.bind ?_ (fun _ => ?_))
   | exact ih0 _ _ _ _
   | exact clusterlocksref11_Find.mono _ _ _ _ _
   | exact LeO.none _
   | refine LeO.ite ?_ ?_
   | refine LeO.bind ?_ (fun _ => ?_)
theorem clusterlocksref11_Ahead.mono : ∀ a0 a1 a2 a3 k, LeO (clusterlocksref11_Ahead.f k a0 a1 a2 a3) (clusterlocksref11_Ahead.f (k + 1) a0 a1 a2 a3) := by
 intro a0 a1 a2 a3 k
 have ih0 := clusterlocksref11_Ahead.mono_l k
 unfold clusterlocksref11_Ahead.f
 repeat' first
   | (with_reducible exact ih0 _ _ _ _)
   | (with_reducible exact clusterlocksref11_Find.mono _ _ _ _ _)
   | (with_reducible exact LeO.refl _)
   | (with_reducible exact LeO.none _)
   | (with_reducible refine LeO.ite ?_ ?_)
   | (with_reducible refine LeO.bind ?_ (fun _ => ?_))
   | exact ih0 _ _ _ _
   | exact clusterlocksref11_Find.mono _ _ _ _ _
   | exact LeO.none _
   | refine LeO.ite ?_ ?_
   | refine LeO.bind ?_ (fun _ => ?_)
set_option maxHeartbeats 8000000 in
set_option maxRecDepth 100000 in
theorem clusterlocksref11_Ahead.calls (k : Nat) (A0 : Option Addr) (c0 : Nat) (l0 : List (S28)) (a1_0 : Int) (a1_1 : Int) (a1_2 : Int) (r : List (S24)) (w : World) (hr0 : Kd.C k28 w A0 l0.length l0) (hc0 : l0.length ≤ c0) (h : clusterlocksref11_Ahead.f k l0 a1_0 a1_1 a1_2 = some r) :
  Calls Try.prog 25 #[.slice A0 l0.length c0, .agg #[.int .i64 a1_0, .int .i64 a1_1, .int .i64 a1_2]] w fun e w' => ∃ v0_ : Value, e = .returned (v0_) ∧ Kd.R k24 24 w' w.heap.size (fun _ => True) v0_ r ∧ Below w.heap.size w w' := by
 have hu24 := Try.underlying24
 have HR0 := Aside0.mk hr0
 have HC0 := Aside0.mk hc0
 clear hr0 hc0
 have HB := am (Below.refl w.heap.size w)
 have H : ((clusterlocksref11_Find.f k l0 a1_0 a1_1 a1_2).bind fun t260 => (clusterlocksref11_Ahead.l0 k l0 ([] : List (S24)) t260 0)) = some r := h
 clear h
 replace H := Option.bind_eq_some_iff.mp H
 obtain ⟨t260, A30, H⟩ := H
 replace H : (clusterlocksref11_Ahead.l0 k l0 ([] : List (S24)) t260 0) = some r := H
 have A3 := Aside0.mk A30
 clear A30
 have H' := Aside0.mk H
 clear H
 go_enter Try.func25, Try.ntmps25
 go_wp2_with (first | ((with_reducible refine gate_dst (N := 3) rfl ?_); refine box_event ?hg (N := 3) ?hd (cs := #[.int .i64 a1_0, .int .i64 a1_1, .int .i64 a1_2]) (t := 24) ?hr ?_; (case hd => rfl); (case hg => rfl); (case hr => first | (go_simp; done) | (go_simp; rfl)); intro gb259 hg w4 hbox hb; have n0_ := am (below_step (zL HB.out) hb); have n1_ := am (hbox); have n2_ := am (zS hg HB.out); have n3_ := am (zS hg HB.out); clear HB; have HB := n0_; have BK259 := n1_; have GW259 := n2_; have GE259 := n3_; clear n0_ n1_ n2_ n3_; clear hb hbox hg; have hcz5_0 : w4.cell? ⟨gb259, 0, none⟩ = some (.int .i64 a1_0) := (blk_cell BK259.out 0).trans rfl; have hcz5_1 : w4.cell? ⟨gb259, 1, none⟩ = some (.int .i64 a1_1) := (blk_cell BK259.out 1).trans rfl; have hcz5_2 : w4.cell? ⟨gb259, 2, none⟩ = some (.int .i64 a1_2) := (blk_cell BK259.out 2).trans rfl; have hfz5_0 := blk_frozen BK259.out 0; have hfz5_1 := blk_frozen BK259.out 1; have hfz5_2 := blk_frozen BK259.out 2) | ((with_reducible refine gate_callee (f := 22) rfl ?_); refine goesL_ (some 10) rfl rfl Try.func22 (by kernel_rfl) rfl #[.slice A0 l0.length c0, .agg #[.int .i64 a1_0, .int .i64 a1_1, .int .i64 a1_2]] rfl (by (try simp only [List.map_toArray, List.map_cons, List.map_nil]); first | done | rfl | (simp only [List.length_drop, List.length_take]; rfl)) ?_; (with_reducible refine (clusterlocksref11_Find.calls k _ _ l0 a1_0 a1_1 a1_2 t260 _ ?side1 ?side2 A3.out).mono ?_); (case side1 => exact zC (Kd.C_below HR0.out HB.out)); (case side2 => exact HC0.out); rintro e w6 ⟨rfl, hb⟩; refine ⟨_, rfl, ?_⟩; have n0_ := am (blk_below (zB BK259.out) hb); have n1_ := am (below_step (zL HB.out) hb); clear BK259 HB; have BK259 := n0_; have HB := n1_; clear n0_ n1_; (try clear hb); (try clear hb2); (try clear hk); (try clear hi)))
 go_loopg [5, 7] k (fun kq v5 v7 w' => ∃ (x5_1 : List (S24)) (x7_1 : Int), v7 = .int .i64 x7_1 ∧ Aside0 (clusterlocksref11_Ahead.l0 kq l0 x5_1 t260 x7_1 = some r) ∧ Aside0 (kq ≤ k) ∧ Aside0 (Kd.R k24 24 w' w.heap.size (fun k_ => k_ ≠ gb259) v5 x5_1) ∧ Aside0 (w'.heap[gb259]? = some (.cells #[.int .i64 a1_0, .int .i64 a1_1, .int .i64 a1_2] 24 (0, 0))) ∧ Aside0 (Below w.heap.size w w'))
 case atStart => exact ⟨(([] : List (S24))), (0), (by first | rfl | (simp; done) | (simp [*]; done)), H', ⟨Nat.le_refl _⟩, ⟨by first | exact Kd.R_nil _ _ _ _ _ | exact Kd.N_nil _ _ _ _ _ | exact Kd.V_nil _ _ _ _ _ | exact Kd.Q_nil _ _ _ _ _ | exact Kd.S_nil _ _ _ _ _⟩, ⟨by exact zB <| BK259.out⟩, ⟨by repeat (first | (with_reducible first | exact HB.out | apply ba | apply bd | apply be | refine below_set ?_ GE259.out) | exact HB.out)⟩⟩
 case round =>
  clear H'
  try clear c2
  try clear p2
  try clear hcz5_0
  try clear hcz5_1
  try clear hcz5_2
  try clear hfz5_0
  try clear hfz5_1
  try clear hfz5_2
  obtain ⟨x5_1, x7_1, rfl, HA, HK1, HO_5, BK259, HB⟩ := hrel
  cases gk with
  | zero => exact absurd HA.out (by simp [clusterlocksref11_Ahead.l0])
  | succ k1 =>
   have H := HA.out
   clear HA
   simp only [clusterlocksref11_Ahead.l0] at H
   by_cases c7 : x7_1 < t260
   ·rw [if_pos c7] at H
    have c7b0 : decide (x7_1 < t260) = true := decide_eq_true c7
    clear c7
    by_cases c8 : 0 ≤ x7_1
    ·rw [if_pos c8] at H
     have c8b0 : decide (0 ≤ x7_1) = true := decide_eq_true c8
     clear c8
     by_cases c9 : x7_1 < (l0.length : Int)
     ·rw [if_pos c9] at H
      have c9b0 : decide (x7_1 < (l0.length : Int)) = true := decide_eq_true c9
      clear c9
      by_cases c10 : x5_1.length < 5864062014805
      ·rw [if_pos c10] at H
       have LMc10 := Aside0.mk c10
       clear c10
       obtain ⟨y262, hy262⟩ : ∃ y_ : List (S24), y_ = (x5_1 ++ [(⟨(rd_T28 l0 x7_1).f0.f0, (rd_T28 l0 x7_1).f0.f1, (rd_T28 l0 x7_1).f0.f2⟩ : S24)]) := ⟨_, rfl⟩
       replace H : (clusterlocksref11_Ahead.l0 k1 l0 y262 t260 (wrap64 (x7_1 + 1))) = some r := by first | (rw [hy262]; with_reducible exact H) | (have H2_ := (Option.bind_some _ _).symm.trans H; rw [hy262]; with_reducible exact H2_) | (have H2_ := (Option.bind_some _ _).symm.trans H; with_reducible exact H2_) | with_reducible exact H | (rw [hy262]; exact H) | exact H
       have Ny262 := Aside0.mk hy262
       clear hy262
       have H' := Aside0.mk H
       clear H
       have p261 : 0 ≤ (x7_1 : Int) := of_decide_eq_true (by first | (with_reducible assumption) | assumption)
       have q261 : x7_1 < (l0.length : Int) := of_decide_eq_true (by first | (with_reducible assumption) | assumption)
       obtain ⟨ad261, e261, hx261_0, hx261_1, hx261_2, hx261_3, hx261_4, hx261_5, hx261_6⟩ := at_T28 HR0.out x7_1 p261 q261
       cases e261
       replace hx261_0 := (HB.out.cell (World.block_lt_of_cell? w _ hx261_0)).trans hx261_0
       replace hx261_1 := (HB.out.cell (World.block_lt_of_cell? w _ hx261_1)).trans hx261_1
       replace hx261_2 := (HB.out.cell (World.block_lt_of_cell? w _ hx261_2)).trans hx261_2
       replace hx261_3 := (HB.out.cell (World.block_lt_of_cell? w _ hx261_3)).trans hx261_3
       replace hx261_4 := (HB.out.cell (World.block_lt_of_cell? w _ hx261_4)).trans hx261_4
       replace hx261_5 := (HB.out.cell (World.block_lt_of_cell? w _ hx261_5)).trans hx261_5
       replace hx261_6 := (HB.out.cell (World.block_lt_of_cell? w _ hx261_6)).trans hx261_6
       replace p261 := eq_true p261
       replace q261 := eq_true q261
       go_wp2_with (first | ((with_reducible refine gate_builtin (b := .append) (xs := #[.tmp 16, .tmp 22]) rfl ?_); at_builtin; refine Kd.R_append k24 (w0 := w) w.heap.size rfl (.tmp 16) (.tmp 22) 43 24 (.agg #[(.int .i64 0), (.int .i64 0), (.int .i64 0)]) 24 rfl Try.underlying43 info24 rfl (by decide) (by omega) u5 x5_1 (⟨(rd_T28 l0 x7_1).f0.f0, (rd_T28 l0 x7_1).f0.f1, (rd_T28 l0 x7_1).f0.f2⟩ : S24) [.int .i64 ((rd_T28 l0 x7_1).f0.f0), .int .i64 ((rd_T28 l0 x7_1).f0.f1), .int .i64 ((rd_T28 l0 x7_1).f0.f2)] (fun k_ => k_ ≠ gb259) (fun _ => False) rfl rfl ?aP (fun _ hk => hk.elim) ?aF ?aO ?aB ?aS ?aL ?_; (case aP => exact k24_mkM _ _ _ (⟨(rd_T28 l0 x7_1).f0.f0, (rd_T28 l0 x7_1).f0.f1, (rd_T28 l0 x7_1).f0.f2⟩ : S24)); (case aB => exact (by repeat (first | (with_reducible first | exact HB.out | apply ba | apply bd | apply be | refine below_set ?_ GE259.out) | exact HB.out))); (case aF => exact (fun k_ hk => Kd.freshB (g := gb259) (o := .cells #[.int .i64 a1_0, .int .i64 a1_1, .int .i64 a1_2] 24 (0, 0)) (zB BK259.out) k_ hk)); (case aO => exact (zR HO_5.out)); (case aS => exact (below_size (zL HB.out))); (case aL => have := LMc10.out; omega); intro v263 w11 ho hb hg hat; rw [← Ny262.out] at ho; have n0_ := am (blk_grown (g := gb259) (o := .cells #[.int .i64 a1_0, .int .i64 a1_1, .int .i64 a1_2] 24 (0, 0)) (zB BK259.out) hg (Kd.R_away HO_5.out (fun _ hk => hk))); have n1_ := am (hb); have n2_ := am (ho); clear BK259 HB HO_5; have BK259 := n0_; have HB := n1_; have HO264 := n2_; clear n0_ n1_ n2_; clear ho hb hg hat))
       go_roundg k1
       case measure => have := HK1.out; omega
       case rel => exact ⟨(y262), (wrap64 (x7_1 + 1)), (by first | rfl | (simp; done) | (simp [*]; done)), H', ⟨by have := HK1.out; omega⟩, ⟨by exact zR HO264.out⟩, ⟨by exact zB <| BK259.out⟩, ⟨by repeat (first | (with_reducible first | exact HB.out | apply ba | apply bd | apply be | refine below_set ?_ GE259.out) | exact HB.out)⟩⟩
      ·rw [if_neg c10] at H
       exact absurd H (by simp)
     ·rw [if_neg c9] at H
      exact absurd H (by simp)
    ·rw [if_neg c8] at H
     exact absurd H (by simp)
   ·rw [if_neg c7] at H
    have c7b0 : decide (x7_1 < t260) = false := decide_eq_false c7
    clear c7
    obtain rfl := Option.some.inj H
    go_wp2
    go_ret
    exact ⟨_, by first | rfl | (simp [errW_none, errW_some] <;> rfl) | (simp [*, errW_none, errW_some] <;> rfl), by exact zR <| Kd.R_mono HO_5.out (fun _ hk => trivial), by repeat (first | (with_reducible first | exact HB.out | apply ba | apply bd | apply be | refine below_set ?_ GE259.out) | exact HB.out)⟩

end Go.Proofs.Ytgomhoolipfkmaa.Y
