/- Expressions made over a catalog can be claimed there, and not in an empty one. Conditions: those of the statement. -/
import Derived.Test.YtefbcebpokoinaaPw
import Derived.Test.YtefbcebpokoinaaPm
import Derived.Test.YtefbcebpokoinaaPq
import Derived.Test.YtefbcebpokoinaaY29
namespace Go.Proofs.Ytefbcebpokoinaa.Pure
open Go.RowKit Go.Proofs.Ytefbcebpokoinaa.Y Go.Proofs.Ytefbcebpokoinaa.Pa Go.Proofs.Ytefbcebpokoinaa.Ps Go.Proofs.Ytefbcebpokoinaa.Pv Go.Proofs.Ytefbcebpokoinaa.Pg Go.Proofs.Ytefbcebpokoinaa.Pr Go.Proofs.Ytefbcebpokoinaa.Ph Go.Proofs.Ytefbcebpokoinaa.Pm Go.Proofs.Ytefbcebpokoinaa.Pq Go.Proofs.YtefbcebpokoinaaW.PrintWords Go.Proofs.YtefbcebpokoinaaW.PrintLast Go.Proofs.YtefbcebpokoinaaW.PrintMore
set_option linter.unusedVariables false
theorem six {c : List S59} (h : c.map (·.f0) = names) : ∃ x1 x2 x3 x4 x5 x6 : S59, c = [x1, x2, x3, x4, x5, x6] ∧ x1.f0 = ⟨#[97]⟩ ∧ x2.f0 = ⟨#[98]⟩ ∧ x3.f0 = ⟨#[99]⟩ ∧ x4.f0 = ⟨#[100]⟩ ∧ x5.f0 = ⟨#[112]⟩ ∧ x6.f0 = ⟨#[113]⟩ := by
  have hl := congrArg List.length h
  rw [List.length_map] at hl
  match c, h, hl with
  | [x1, x2, x3, x4, x5, x6], h, _ =>
    simp only [names, List.map_cons, List.map_nil, List.cons.injEq, and_true] at h
    exact ⟨x1, x2, x3, x4, x5, x6, rfl, h.1, h.2.1, h.2.2.1, h.2.2.2.1, h.2.2.2.2.1, h.2.2.2.2.2⟩
theorem okR_vres {x : S59} (h : okR x) : vres x = true := by
  obtain ⟨h1, h2, h3, h4⟩ := h
  unfold vres shp
  rw [h1, decide_eq_true (show x.f3 ≥ 0 from h3), decide_eq_true (show x.f3 < 4 by omega)]
  rcases h2 with ⟨a, b⟩ | ⟨a, b, c⟩
  · simp [a, b]
  · simp [a, b, c]
theorem cat_valid {c : List S59} (hc : okC c) : vcat c = true := by
  obtain ⟨x1, x2, x3, x4, x5, x6, rfl, h1, h2, h3, h4, h5, h6⟩ := six hc.1
  have r := hc.2
  unfold vcat
  simp only [vcl, above, h1, h2, h3, h4, h5, h6, okR_vres (r x1 (by simp)), okR_vres (r x2 (by simp)), okR_vres (r x3 (by simp)), okR_vres (r x4 (by simp)), okR_vres (r x5 (by simp)), okR_vres (r x6 (by simp)), Bool.true_and]
  have e : (Op.bytesLess (⟨#[97]⟩ : ByteArray).toList (⟨#[98]⟩ : ByteArray).toList && (Op.bytesLess (⟨#[98]⟩ : ByteArray).toList (⟨#[99]⟩ : ByteArray).toList && (Op.bytesLess (⟨#[99]⟩ : ByteArray).toList (⟨#[100]⟩ : ByteArray).toList && (Op.bytesLess (⟨#[100]⟩ : ByteArray).toList (⟨#[112]⟩ : ByteArray).toList && (Op.bytesLess (⟨#[112]⟩ : ByteArray).toList (⟨#[113]⟩ : ByteArray).toList && true))))) = true := by decide +kernel
  rw [e]
  rfl
theorem cat_names {c : List S59} (hc : okC c) : c.Pairwise (fun x y => decide (x.f0.toList = y.f0.toList) = false) := by
  have h : (c.map (·.f0)).Pairwise (fun n m : ByteArray => decide (n.toList = m.toList) = false) := by
    rw [hc.1]
    decide +kernel
  exact (List.pairwise_map (f := fun a : S59 => a.f0) (R := fun n m : ByteArray => decide (n.toList = m.toList) = false)).1 h
theorem find_it : ∀ {c : List S59}, c.Pairwise (fun x y => decide (x.f0.toList = y.f0.toList) = false) → ∀ {x : S59} {n : ByteArray}, x ∈ c → x.f0 = n → c.find? (named n) = some x
  | [], _, _, _, h, _ => by cases h
  | y :: r, hp, x, n, hx, hn => by
    rw [List.pairwise_cons] at hp
    rcases List.mem_cons.1 hx with rfl | hx
    · exact List.find?_cons_of_pos (p := named n) (by rw [← hn]; exact decide_eq_true rfl)
    · have h1 := hp.1 x hx
      rw [List.find?_cons_of_neg (p := named n) (by unfold named; rw [← hn, h1]; decide)]
      exact find_it hp.2 hx hn
theorem fit_ok {x : S59} {a : S25} (hx : okR x) (h : fitA x a) : fits x a.f1.f0 a.f1.f1 = true := by
  obtain ⟨h1, h2, h3, h4⟩ := hx
  obtain ⟨f0, f1, f2⟩ := h
  unfold fits shp
  rcases h2 with ⟨a1, b1⟩ | ⟨a1, b1, c1⟩
  · obtain ⟨g1, g2, g3⟩ := f1 a1
    simp [a1, b1, g1, g2, g3]
  · obtain ⟨g1, g2, g3⟩ := f2 a1
    simp [a1, b1, c1, g1, g2, g3]
theorem rsl_ok {c : List S59} (hc : okC c) : ∀ l : List S25, (∀ a ∈ l, ∃ x ∈ c, fitA x a) → rsl c l = 0
  | [], _ => rfl
  | a :: r, h => by
    obtain ⟨x, hx, hf⟩ := h a List.mem_cons_self
    have h0 : rsv1 c a = 0 := by
      unfold rsv1
      rw [if_pos (cat_valid hc), find_it (cat_names hc) hx hf.1.symm]
      show (if fits x a.f1.f0 a.f1.f1 = true then (0 : Int) else 12) = 0
      rw [if_pos (fit_ok (hc.2 x hx) hf)]
    simp only [rsl]
    rw [if_pos h0]
    exact rsl_ok hc r (fun b hb => h b (List.mem_cons_of_mem _ hb))
theorem rsl_none : ∀ l : List S25, l ≠ [] → rsl [] l = 10
  | [], h => absurd rfl h
  | a :: r, _ => by
    have h0 : rsv1 [] a = 10 := by
      unfold rsv1
      rw [if_pos (by decide)]
      rfl
    simp only [rsl]
    rw [h0, if_neg (by decide)]
theorem FormulaCatalogs : clusterlockslaw08_FormulaCatalogs.Pure := by
  intro l _ _ _
  have hlight : clusterlocksmill_Light.f l = some (decide ((l.length : Int) ≤ 300)) := rfl
  refine Al.ex (r := true) ?_
  by_cases h : (l.length : Int) ≤ 300
  · obtain ⟨c, p, hC, hc, hp⟩ := catalog_f l (by omega)
    obtain ⟨A, e, p2, hE, hA, hs, hq⟩ := expr_f l c hc p hp
    obtain ⟨hv, hm⟩ := sub_valid hc hA hs
    have hpos := ats_pos hv
    have r1 : rs c e = 0 := by
      unfold rs
      rw [if_pos hv]
      exact rsl_ok hc _ (fun a ha => (hA.2 a (hm a ha)).2)
    have r2 : rs [] e = 10 := by
      unfold rs
      rw [if_pos hv]
      exact rsl_none _ (ats_valid hv).1
    have n1 : Al (fun k => (formula_Resolve.f k ([] : List S59) e.f0 e.f1.f0 e.f1.f1.f0 e.f1.f1.f1 e.f2).bind fun t601 => (some (t601 == 10))) true := Al.eq (Al.bind (f := fun _ t => some (t == 10)) (resolve1 [] e) (Al.val (r := (rs [] e == 10)) fun k => rfl)) (by rw [r2]; rfl)
    have n2 : Al (fun k => (formula_Resolve.f k c e.f0 e.f1.f0 e.f1.f1.f0 e.f1.f1.f1 e.f2).bind fun t600 => (if t600 = 0 then ((formula_Resolve.f k ([] : List S59) e.f0 e.f1.f0 e.f1.f1.f0 e.f1.f1.f1 e.f2).bind fun t601 => (some (t601 == 10))) else (none))) true :=
      Al.bind (f := fun k t600 => (if t600 = 0 then ((formula_Resolve.f k ([] : List S59) e.f0 e.f1.f0 e.f1.f1.f0 e.f1.f1.f1 e.f2).bind fun t601 => (some (t601 == 10))) else (none))) (resolve1 c e) (Al.congr n1 fun k => by rw [if_pos r1])
    refine Al.congr (g := fun k => (clusterlocksmill_Catalog.f k l 0).bind fun bt583 => ((clusterlocksmill_Expr.f k l bt583.2 bt583.1).bind fun bt587 => ((formula_Atoms.f k bt587.1 bt587.2.1 bt587.2.2.1 bt587.2.2.2.1 bt587.2.2.2.2.1).bind fun t596 => ((clusterlockslaw08_awake.f k).bind fun t599 => (if t599 = true then (if (t596.length : Int) > 0 then ((formula_Resolve.f k bt583.1 bt587.1 bt587.2.1 bt587.2.2.1 bt587.2.2.2.1 bt587.2.2.2.2.1).bind fun t600 => (if t600 = 0 then ((formula_Resolve.f k ([] : List (S59)) bt587.1 bt587.2.1 bt587.2.2.1 bt587.2.2.2.1 bt587.2.2.2.2.1).bind fun t601 => (some (t601 == 10))) else (none))) else (none)) else (none)))))) (Al.bind hC (Al.bind hE (Al.bind (atoms1 e) (Al.bind Pw.awake_al (Al.congr n2 fun k => ?_))))) (fun k => ?_)
    · rw [if_pos rfl, if_pos (by omega)]
      rfl
    · unfold clusterlockslaw08_FormulaCatalogs.f
      rw [hlight, decide_eq_true h]
      rfl
  · refine Al.congr (g := fun k => (clusterlockslaw08_awake.f k).bind fun t388 => (some t388)) (Al.bind Pw.awake_al (Al.val fun k => rfl)) (fun k => ?_)
    unfold clusterlockslaw08_FormulaCatalogs.f
    rw [hlight, decide_eq_false h]
    rfl
end Go.Proofs.Ytefbcebpokoinaa.Pure
