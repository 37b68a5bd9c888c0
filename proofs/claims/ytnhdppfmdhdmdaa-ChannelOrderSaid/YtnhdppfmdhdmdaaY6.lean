-- Laid by a program of this session's (xprint.py, which runs the kit's print.py with patches of its own). Lean checks it.
import Derived.Test.YtnhdppfmdhdmdaaY0
import Derived.Test.YtnhdppfmdhdmdaaY1
import Derived.Test.YtnhdppfmdhdmdaaY2
namespace Go.Proofs.Ytnhdppfmdhdmdaa.Y
open Go.RowKit Go.Proofs.YtnhdppfmdhdmdaaW.PrintWords Go.Proofs.YtnhdppfmdhdmdaaW.PrintLast Go.Proofs.YtnhdppfmdhdmdaaW.PrintMore
attribute [local go_sem] max2_int min2_int max_two min_two max_three min_three max_four min_four   -- for this text's walks alone
set_option linter.unusedVariables false
set_option linter.unusedSimpArgs false

/-! ### clusterlockslaw23_ChannelOrder: function 3 -/
mutual
def clusterlockslaw23_ChannelOrder.l0 : Nat → List (List Int) → List (List Int) → List (List Int) → Int → Option Bool
 | 0, _, _, _, _ => none
 | k + 1, l, c, s, i => if i < (l.length : Int) then (if 0 ≤ i then ((channel_Send.f k c (rd_L1 l i)).bind fun bt => (if bt.2 = 0 then (if s.length < 5864062014805 then (clusterlockslaw23_ChannelOrder.l0 k l bt.1 (s ++ [rd_L1 l i]) (wrap64 (i + 1))) else (none)) else (clusterlockslaw23_ChannelOrder.l0 k l c s (wrap64 (i + 1))))) else (none)) else (clusterlockslaw23_ChannelOrder.l1 k s c 0)
def clusterlockslaw23_ChannelOrder.l1 : Nat → List (List Int) → List (List Int) → Int → Option Bool
 | 0, _, _, _ => none
 | k + 1, s, c, i => if i < (s.length : Int) then (if 0 ≤ i then ((channel_Deliver.f k c 0).bind fun bt => (if bt.2.2 = 0 then (if (strOfNums bt.1).toList = (strOfNums (rd_L1 s i)).toList then (clusterlockslaw23_ChannelOrder.l1 k s bt.2.1 (wrap64 (i + 1))) else (none)) else (none))) else (none)) else ((clusterlockslaw23_awake.f k).bind fun t => (if t = true then (if (c.length : Int) = 0 then (some true) else (none)) else (none)))
end
def clusterlockslaw23_ChannelOrder.f (k : Nat) (l0 : List (List Int)) : Option Bool := if (l0.length : Int) > 8 then ((clusterlockslaw23_awake.f k).bind fun t => (some t)) else ((clusterlockslaw23_short.f k l0).bind fun t => (if t = true then (clusterlockslaw23_ChannelOrder.l0 k l0 [] [] 0) else ((clusterlockslaw23_awake.f k).bind fun t => (some t))))
/-- An element that came in, as one of a row that leads on. -/
theorem clusterlockslaw23_ChannelOrder.fk {w W : World} {A : Option Addr} {c : Nat} {p : List Int} (hb : Below w.heap.size w W) (h : Kd.C (Kd.int .u8) w A p.length p) (hc : p.length ≤ c) : Kd.FK (Kd.slice 5 (Kd.int .u8)) W (fun k => k < w.heap.size) p [.slice A p.length c] := Kd.FK_slice_mk hc (Kd.F_below (Kd.C_F (Kd.heap_int .u8) h) hb)
set_option maxHeartbeats 8000000 in
set_option maxRecDepth 100000 in
theorem clusterlockslaw23_ChannelOrder.calls (k : Nat) (A0 : Option Addr) (c0 : Nat) (l0 : List (List Int)) (r : Bool) (w : World) (hr0 : Kd.C (Kd.slice 5 (Kd.int .u8)) w A0 l0.length l0) (hc0 : l0.length ≤ c0) (h : clusterlockslaw23_ChannelOrder.f k l0 = some r) :
  Calls Try.prog 3 #[.slice A0 l0.length c0] w fun e w' => e = .returned (.bool r) ∧ Below w.heap.size w w' := by
 unfold clusterlockslaw23_ChannelOrder.f at h
 have HR0 := Aside0.mk hr0
 have HC0 := Aside0.mk hc0
 have HB := am (Below.refl w.heap.size w)
 clear hr0 hc0
 by_cases c1 : (l0.length : Int) > 8
 ·rw [if_pos c1] at h
  have c1b0 : decide (8 < (l0.length : Int)) = true := decide_eq_true c1
  clear c1
  replace h := Option.bind_eq_some_iff.mp h
  obtain ⟨t, ht, h⟩ := h
  injection h with h
  subst h
  have A1 := Aside0.mk ht
  clear ht
  go_enter Try.func3, Try.ntmps3
  go_wp2_with (first | ((with_reducible refine gate_callee (f := 8) rfl ?_); refine goesL_ (some 22) rfl rfl Try.func8 (by kernel_rfl) rfl #[] rfl (by (try simp only [List.map_toArray, List.map_cons, List.map_nil]); first | done | rfl) ?_; (with_reducible refine (clusterlockslaw23_awake.calls k _ _ A1.out).mono ?_); rintro e w5 ⟨rfl, hb⟩; refine ⟨_, rfl, ?_⟩; have n0_ := am (below_step (zL HB.out) hb); clear HB hb; have HB := n0_; clear n0_))
  go_ret
  exact ⟨rfl, zL HB.out⟩
 rw [if_neg c1] at h
 have HL8 := Aside0.mk c1
 have c1b0 : decide (8 < (l0.length : Int)) = false := decide_eq_false c1
 clear c1
 replace h := Option.bind_eq_some_iff.mp h
 obtain ⟨t, ht, h⟩ := h
 have A2 := Aside0.mk ht
 clear ht
 cases t with
 | false =>
  rw [if_neg (by decide)] at h
  replace h := Option.bind_eq_some_iff.mp h
  obtain ⟨t, ht, h⟩ := h
  injection h with h
  subst h
  have A1 := Aside0.mk ht
  clear ht
  go_enter Try.func3, Try.ntmps3
  go_wp2_with (first | ((with_reducible refine gate_callee (f := 7) rfl ?_); (try (refine gate_guard (by rfl) ?_; dsimp only)); refine goesL_ (some 19) rfl rfl Try.func7 (by kernel_rfl) rfl #[.slice A0 l0.length c0] rfl (by (try simp only [List.map_toArray, List.map_cons, List.map_nil]); first | done | rfl) ?_; (with_reducible refine (clusterlockslaw23_short.calls k _ _ l0 _ _ ?s1 ?s2 A2.out).mono ?_); (case s1 => exact zC HR0.out); (case s2 => exact HC0.out); rintro e w' ⟨rfl, ⟨nd, rfl⟩⟩; refine ⟨_, rfl, ?_⟩) | ((with_reducible refine gate_callee (f := 8) rfl ?_); refine goesL_ (some 22) rfl rfl Try.func8 (by kernel_rfl) rfl #[] rfl (by (try simp only [List.map_toArray, List.map_cons, List.map_nil]); first | done | rfl) ?_; (with_reducible refine (clusterlockslaw23_awake.calls k _ _ A1.out).mono ?_); rintro e w5 ⟨rfl, hb⟩; refine ⟨_, rfl, ?_⟩; have n0_ := am (below_step (zL HB.out) hb); clear HB hb; have HB := n0_; clear n0_))
  go_ret
  exact ⟨rfl, zL HB.out⟩
 | true =>
  rw [if_pos rfl] at h
  have H' := Aside0.mk h
  clear h
  go_enter Try.func3, Try.ntmps3
  go_wp2_with (first | ((with_reducible refine gate_callee (f := 7) rfl ?_); (try (refine gate_guard (by rfl) ?_; dsimp only)); refine goesL_ (some 19) rfl rfl Try.func7 (by kernel_rfl) rfl #[.slice A0 l0.length c0] rfl (by (try simp only [List.map_toArray, List.map_cons, List.map_nil]); first | done | rfl) ?_; (with_reducible refine (clusterlockslaw23_short.calls k _ _ l0 _ _ ?s1 ?s2 A2.out).mono ?_); (case s1 => exact zC HR0.out); (case s2 => exact HC0.out); rintro e w' ⟨rfl, ⟨nd, rfl⟩⟩; refine ⟨_, rfl, ?_⟩))
  go_loopg [3, 4, 25] k (fun kq v3 v4 v25 w' => ∃ (c s : List (List Int)) (x : Int), v25 = .int .i64 x ∧ Aside0 (clusterlockslaw23_ChannelOrder.l0 kq l0 c s x = some r) ∧ Aside0 (kq ≤ k) ∧ Aside0 (Kd.V (Kd.slice 5 (Kd.int .u8)) 25 w' w.heap.size (fun _ => True) v3 c) ∧ Aside0 (Kd.N (Kd.slice 5 (Kd.int .u8)) 25 w' w.heap.size (fun _ => True) v4 s) ∧ Aside0 (Below w.heap.size w w'))
  case atStart => exact ⟨[], [], 0, rfl, H', ⟨Nat.le_refl _⟩, ⟨Kd.V_nil _ _ _ _ _⟩, ⟨Kd.N_nil _ _ _ _ _⟩, ⟨zL HB.out⟩⟩
  case round =>
   clear H' HB
   obtain ⟨c, s, x, rfl, HA, HK1, HV, HN, HB⟩ := hrel
   cases gk with
   | zero => exact absurd HA.out (by simp [clusterlockslaw23_ChannelOrder.l0])
   | succ k1 =>
    have H := HA.out
    clear HA
    simp only [clusterlockslaw23_ChannelOrder.l0] at H
    by_cases c3 : x < (l0.length : Int)
    ·rw [if_pos c3] at H
     have c3b0 : decide (x < (l0.length : Int)) = true := decide_eq_true c3
     by_cases c4 : 0 ≤ x
     ·rw [if_pos c4] at H
      have c4b0 : decide (0 ≤ x) = true := decide_eq_true c4
      replace H := Option.bind_eq_some_iff.mp H
      obtain ⟨⟨t1, t2⟩, hs, H⟩ := H
      have A5 := Aside0.mk hs
      clear hs
      obtain ⟨ad, A113, c113, e1, hx1, hl1, hi1⟩ := at_L1 HR0.out x c4 c3
      cases e1
      have HR1 := Aside0.mk hi1
      have HC1 := Aside0.mk hl1
      replace hx1 := (HB.out.cell (World.block_lt_of_cell? w _ hx1)).trans hx1
      clear hi1 hl1
      have p1 := eq_true c4
      have q1 := eq_true c3
      clear c3 c4
      obtain ⟨Ac, cc, ec⟩ := Kd.V_slice HV.out
      subst ec
      by_cases c5 : t2 = 0
      ·subst c5
       rw [if_pos rfl] at H
       by_cases c6 : s.length < 5864062014805
       ·rw [if_pos c6] at H
        have HL6 := Aside0.mk c6
        clear c6
        have H' := Aside0.mk H
        clear H
        go_wp2_with (first | ((with_reducible refine gate_callee (f := 9) rfl ?_); refine goesL_ (some 32) rfl rfl Try.func9 (by kernel_rfl) rfl #[.slice Ac c.length cc, .slice A113 (rd_L1 l0 x).length c113] rfl (by (try simp only [List.map_toArray, List.map_cons, List.map_nil]); first | done | rfl) ?_; (with_reducible refine (channel_Send.calls k1 _ _ c _ _ (rd_L1 l0 x) t1 _ _ ?s1 ?s2 ?s3 ?s4 A5.out).mono ?_); (case s1 => exact zC (Kd.V_reads' HV.out).2.2); (case s2 => exact (Kd.V_reads' HV.out).2.1); (case s3 => exact zC (Kd.C_below HR1.out HB.out)); (case s4 => exact HC1.out); rintro e w5 ⟨v5, rfl, hS, hb⟩; refine ⟨_, rfl, ?_⟩; have n0_ := am (below_step (zL HB.out) hb); have n1_ := am (Kd.V_below HV.out hb); have n2_ := am (Kd.N_below HN.out hb); have n3_ := am (Kd.S_lower (Kd.S_new' hS (Kd.N_lt HN.out)) (below_size (zL HB.out))); clear HB HV HN hb hS; have HB := n0_; have HV := n1_; have HN := n2_; have HS := n3_; clear n0_ n1_ n2_ n3_) | ((with_reducible refine gate_builtin (b := .append) (xs := #[.tmp 38, .tmp 40]) rfl ?_); at_builtin; refine Kd.N_append (Kd.slice 5 (Kd.int .u8)) (w0 := w) w.heap.size rfl (.tmp 38) (.tmp 40) 22 25 (.slice none 0 0) 24 rfl Try.underlying22 info25 rfl (by decide) (by omega) _ s (rd_L1 l0 x) [.slice A113 (rd_L1 l0 x).length c113] (fun _ => True) (fun k => k < w.heap.size) rfl rfl ?aP ?aK ?aF HN.out (zL HB.out) ?aS ?aL ?_; (case aP => exact clusterlockslaw23_ChannelOrder.fk (zL HB.out) HR1.out HC1.out); (case aK => exact fun k hk => ⟨trivial, fun e_ => by have h_ := Kd.N_base HN.out k e_.symm; omega⟩); (case aF => exact (fun _ _ => trivial)); (case aS => exact (below_size (zL HB.out))); (case aL => have := HL6.out; omega); intro v6 w6 ho hb hg hat; have n0_ := am hb; have n1_ := am ho; have n2_ := am (Kd.S_grown HS.out hg (fun k hk => hk.2)); clear HB HN HS HV; have HB := n0_; have HN := n1_; have HS := n2_; clear n0_ n1_ n2_ ho hb hg hat))
        go_roundg k1
        case measure => have := HK1.out; omega
        case rel => exact ⟨t1, s ++ [rd_L1 l0 x], wrap64 (x + 1), rfl, H', ⟨by have := HK1.out; omega⟩, ⟨Kd.V_mono (Kd.S_V HS.out) (fun _ _ => trivial)⟩, HN, ⟨zL HB.out⟩⟩
       ·rw [if_neg c6] at H; cases H
      ·rw [if_neg c5] at H
       have c5b0 : (t2 == 0) = false := beq_eq_false_iff_ne.mpr c5
       clear c5
       have H' := Aside0.mk H
       clear H
       go_wp2_with (first | ((with_reducible refine gate_callee (f := 9) rfl ?_); refine goesL_ (some 32) rfl rfl Try.func9 (by kernel_rfl) rfl #[.slice Ac c.length cc, .slice A113 (rd_L1 l0 x).length c113] rfl (by (try simp only [List.map_toArray, List.map_cons, List.map_nil]); first | done | rfl) ?_; (with_reducible refine (channel_Send.calls k1 _ _ c _ _ (rd_L1 l0 x) t1 _ _ ?s1 ?s2 ?s3 ?s4 A5.out).mono ?_); (case s1 => exact zC (Kd.V_reads' HV.out).2.2); (case s2 => exact (Kd.V_reads' HV.out).2.1); (case s3 => exact zC (Kd.C_below HR1.out HB.out)); (case s4 => exact HC1.out); rintro e w5 ⟨v5, rfl, hS, hb⟩; refine ⟨_, rfl, ?_⟩; have n0_ := am (below_step (zL HB.out) hb); have n1_ := am (Kd.V_below HV.out hb); have n2_ := am (Kd.N_below HN.out hb); have n3_ := am (Kd.S_lower (Kd.S_new' hS (Kd.N_lt HN.out)) (below_size (zL HB.out))); clear HB HV HN hb hS; have HB := n0_; have HV := n1_; have HN := n2_; have HS := n3_; clear n0_ n1_ n2_ n3_))
       go_roundg k1
       case measure => have := HK1.out; omega
       case rel => exact ⟨c, s, wrap64 (x + 1), rfl, H', ⟨by have := HK1.out; omega⟩, HV, HN, ⟨zL HB.out⟩⟩
     ·rw [if_neg c4] at H; cases H
    ·rw [if_neg c3] at H
     have c3b0 : decide (x < (l0.length : Int)) = false := decide_eq_false c3
     clear c3
     have H' := Aside0.mk H
     clear H
     obtain ⟨As, cs, es⟩ := Kd.N_slice HN.out
     subst es
     go_wp2
     go_loopg [3, 45] k1 (fun kq v3 v45 w' => ∃ (c : List (List Int)) (x : Int), v45 = .int .i64 x ∧ Aside0 (clusterlockslaw23_ChannelOrder.l1 kq s c x = some r) ∧ Aside0 (kq ≤ k1) ∧ Aside0 (Kd.V (Kd.slice 5 (Kd.int .u8)) 25 w' w.heap.size (fun _ => True) v3 c) ∧ Aside0 (Kd.N (Kd.slice 5 (Kd.int .u8)) 25 w' w.heap.size (fun _ => True) (.slice As s.length cs) s) ∧ Aside0 (Below w.heap.size w w'))
     case atStart => exact ⟨c, 0, rfl, H', ⟨Nat.le_refl _⟩, HV, HN, ⟨zL HB.out⟩⟩
     case round =>
      clear H' HB HV HN
      obtain ⟨c, x, rfl, HA, HK2, HV, HN, HB⟩ := hrel
      cases gk with
      | zero => exact absurd HA.out (by simp [clusterlockslaw23_ChannelOrder.l1])
      | succ k2 =>
       have H := HA.out
       clear HA
       simp only [clusterlockslaw23_ChannelOrder.l1] at H
       by_cases c3 : x < (s.length : Int)
       ·rw [if_pos c3] at H
        have d3b0 : decide (x < (s.length : Int)) = true := decide_eq_true c3
        by_cases c4 : 0 ≤ x
        ·rw [if_pos c4] at H
         have d4b0 : decide (0 ≤ x) = true := decide_eq_true c4
         replace H := Option.bind_eq_some_iff.mp H
         obtain ⟨⟨t1, t2, t3⟩, hs, H⟩ := H
         have A5 := Aside0.mk hs
         clear hs
         by_cases c5 : t3 = 0
         ·subst c5
          rw [if_pos rfl] at H
          by_cases c6 : (strOfNums t1).toList = (strOfNums (rd_L1 s x)).toList
          ·rw [if_pos c6] at H
           have c6b0 : ((strOfNums t1).toList == (strOfNums (rd_L1 s x)).toList) = true := beq_iff_eq.mpr c6
           have c6b1 : ((strOfNums t1).toList != (strOfNums (rd_L1 s x)).toList) = false := bne_eq_false_iff_eq.mpr c6
           clear c6
           have H' := Aside0.mk H
           clear H
           obtain ⟨ad, A113, c113, e1, hx1, hl1, hi1⟩ := at_L1 (Kd.N_reads' HN.out).2.2 x c4 c3
           cases e1
           have HR1 := Aside0.mk hi1
           have HC1 := Aside0.mk hl1
           clear hi1 hl1
           have p1 := eq_true c4
           have q1 := eq_true c3
           clear c3 c4
           obtain ⟨Ac, cc, ec⟩ := Kd.V_slice HV.out
           subst ec
           go_wp2_with (first | ((with_reducible refine gate_callee (f := 10) rfl ?_); refine goesL_ (some 51) rfl rfl Try.func10 (by kernel_rfl) rfl #[.slice Ac c.length cc, .int .i64 0] rfl (by (try simp only [List.map_toArray, List.map_cons, List.map_nil]); first | done | rfl) ?_; (with_reducible refine (channel_Deliver.calls k2 _ _ c 0 t1 t2 _ _ ?s1 ?s2 A5.out).mono ?_); (case s1 => exact zC (Kd.V_reads' HV.out).2.2); (case s2 => exact (Kd.V_reads' HV.out).2.1); rintro e w5 ⟨v5, v6, rfl, hR, hV, hb⟩; refine ⟨_, rfl, ?_⟩; have n0_ := am (below_step (zL HB.out) hb); have n1_ := am (Kd.R_lower hR (below_size (zL HB.out))); have n2_ := am (Kd.N_below HN.out hb); have n3_ := am (Kd.C_below HR1.out hb); have n4_ := am hV; clear HB HV HN HR1 hb hR hV; have HB := n0_; have HG := n1_; have HN := n2_; have HR1 := n3_; have HV2 := n4_; clear n0_ n1_ n2_ n3_ n4_; have hcv1 := own_string (P := Try.prog) Try.underlying25 Try.underlying5 Try.underlying9 (Kd.own_of_R HG.out); have hcv2 := Kd.C_string (P := Try.prog) (A := A113) (c := c113) Try.underlying25 Try.underlying5 Try.underlying9 HR1.out; obtain ⟨Ag, cg, eg⟩ := Kd.R_slice HG.out; subst eg))
           go_roundg k2
           case measure => have := HK2.out; omega
           case rel => exact ⟨t2, wrap64 (x + 1), rfl, H', ⟨by have := HK2.out; omega⟩, ⟨Kd.V_mono HV2.out (fun _ _ => trivial)⟩, HN, ⟨zL HB.out⟩⟩
          ·rw [if_neg c6] at H; cases H
         ·rw [if_neg c5] at H; cases H
        ·rw [if_neg c4] at H; cases H
       ·rw [if_neg c3] at H
        have d3b0 : decide (x < (s.length : Int)) = false := decide_eq_false c3
        clear c3
        replace H := Option.bind_eq_some_iff.mp H
        obtain ⟨t, ht, H⟩ := H
        have A6 := Aside0.mk ht
        clear ht
        cases t with
        | false => rw [if_neg (by decide)] at H; cases H
        | true =>
         rw [if_pos rfl] at H
         by_cases c7 : (c.length : Int) = 0
         ·rw [if_pos c7] at H
          injection H with H
          subst H
          have c7b0 : ((c.length : Int) == 0) = true := beq_iff_eq.mpr c7
          clear c7
          obtain ⟨Ac, cc, ec⟩ := Kd.V_slice HV.out
          subst ec
          go_wp2_with (first | ((with_reducible refine gate_callee (f := 8) rfl ?_); refine goesL_ (some 66) rfl rfl Try.func8 (by kernel_rfl) rfl #[] rfl (by (try simp only [List.map_toArray, List.map_cons, List.map_nil]); first | done | rfl) ?_; (with_reducible refine (clusterlockslaw23_awake.calls k2 _ _ A6.out).mono ?_); rintro e w5 ⟨rfl, hb⟩; refine ⟨_, rfl, ?_⟩; have n0_ := am (below_step (zL HB.out) hb); clear HB hb; have HB := n0_; clear n0_))
          go_ret
          exact ⟨by first | rfl | (rw [c7b0]), zL HB.out⟩
         ·rw [if_neg c7] at H; cases H


end Go.Proofs.Ytnhdppfmdhdmdaa.Y
