import Derived.Test.YtefbcebpokoinaaPh
import Derived.Test.YtefbcebpokoinaaY25
namespace Go.Proofs.Ytefbcebpokoinaa.Pq
open Go.RowKit Go.Proofs.Ytefbcebpokoinaa.Y Go.Proofs.Ytefbcebpokoinaa.Pa Go.Proofs.Ytefbcebpokoinaa.Ps Go.Proofs.Ytefbcebpokoinaa.Pv Go.Proofs.Ytefbcebpokoinaa.Pg Go.Proofs.Ytefbcebpokoinaa.Pr Go.Proofs.Ytefbcebpokoinaa.Ph Go.Proofs.YtefbcebpokoinaaW.PrintWords Go.Proofs.YtefbcebpokoinaaW.PrintLast Go.Proofs.YtefbcebpokoinaaW.PrintMore
set_option linter.unusedVariables false
set_option linter.unusedSimpArgs false
/-! Which atoms can be claimed in a catalog: the program and the reference answer alike. -/
def shp (k u : Int) : Bool := (decide (k = 1) && decide (u = 1)) || (decide (k = 2) && decide (u ≥ 1) && decide (u ≤ 8))
theorem shp1 (n : ByteArray) (k u h : Int) : amount_Shaped.f n k u h = some (shp k u) := by
  unfold amount_Shaped.f shp
  by_cases h1 : k = 1 <;> by_cases h2 : k = 2 <;> by_cases h3 : u = 1 <;> by_cases h4 : u ≥ 1 <;> by_cases h5 : u ≤ 8 <;> first | omega | simp [h1, h2, h3, h4, h5]
def vres (x : S59) : Bool := vname x.f0 && shp x.f1 x.f2 && (decide (x.f3 ≥ 0) && decide (x.f3 < 4))
theorem vres1 (x : S59) : Al (fun k => catalog_ValidResource.f k x.f0 x.f1 x.f2 x.f3) (vres x) := by
  refine Al.bindE (fun k => rfl) (vn1 x.f0) (Al.val fun k => ?_)
  rw [shp1]
  unfold vres
  cases vname x.f0 <;> cases shp x.f1 x.f2 <;> by_cases h : x.f3 ≥ 0 <;> simp [h]
def above (p : Option S59) (x : S59) : Bool := match p with
  | none => true
  | some q => Op.bytesLess q.f0.toList x.f0.toList
def vcl : Option S59 → List S59 → Bool
  | _, [] => true
  | p, x :: r => vres x && (above p x && vcl (some x) r)
def vcat (l : List S59) : Bool := decide (l.length ≤ 8) && vcl none l
theorem rd59q {xs : List S59} {i : Nat} {e : S59} (h : xs[i]? = some e) : rd_T59 xs (i : Int) = e := by
  show xs.getD _ z59 = e
  rw [Int.toNat_natCast, List.getD_eq_getElem?_getD, h]
  rfl
def prev (l : List S59) : Nat → Option S59
  | 0 => none
  | i + 1 => l[i]?
theorem vl1 (l : List S59) (hl : l.length ≤ 8) : ∀ (rest : List S59) (i : Nat), l.drop i = rest → Al (fun k => catalog_Valid.l0 k l l (l.length : Int) (i : Int)) (vcl (prev l i) rest)
  | [], i, h => Al.succV fun k => by
    have := drop_nil_le h
    simp only [catalog_Valid.l0]
    rw [if_neg (by omega)]
    rfl
  | x :: r, i, h => by
    obtain ⟨hlt, hat, hdr⟩ := drop_at h
    have ih := vl1 l hl r (i + 1) hdr
    have hp : prev l (i + 1) = some x := hat
    rw [hp] at ih
    refine Al.succB (g := fun k => catalog_ValidResource.f k x.f0 x.f1 x.f2 x.f3) (f := fun k t => if t = true then (if above (prev l i) x = true then catalog_Valid.l0 k l l (l.length : Int) (i + 1 : Nat) else some false) else some false) (fun k => ?_) (vres1 x) ?_
    · simp only [catalog_Valid.l0]
      rw [if_pos (by omega), if_pos (by omega), if_pos (by omega), rd59q hat, w64_id (n := (i : Int) + 1) (by omega) (by omega)]
      congr 1
      funext t
      congr 1
      match i, h, hlt, hat with
      | 0, _, _, _ =>
        rw [if_neg (by decide)]
        rfl
      | j + 1, _, hlt, _ =>
        have hj : l[j]? = some l[j] := List.getElem?_eq_getElem (by omega)
        rw [if_pos (by omega), w64_id (n := ((j + 1 : Nat) : Int) - 1) (by omega) (by omega), show ((j + 1 : Nat) : Int) - 1 = (j : Int) by omega, if_pos (by omega), if_pos (by omega), rd59q hj]
        show _ = if above (l[j]?) x = true then _ else _
        rw [hj]
        rfl
    · simp only [vcl]
      cases vres x
      · exact Al.val fun k => by simp
      · by_cases ha : above (prev l i) x = true
        · rw [ha, Bool.true_and, Bool.true_and]
          exact Al.congr ih fun k => by rw [if_pos rfl, if_pos rfl]
        · rw [Bool.eq_false_iff.mpr ha, Bool.false_and, Bool.and_false]
          exact Al.val fun k => by simp
theorem vcat1 (l : List S59) : Al (fun k => catalog_Valid.f k l) (vcat l) := by
  unfold vcat
  by_cases h : (l.length : Int) > 8
  · rw [decide_eq_false (by omega)]
    exact Al.val fun k => by unfold catalog_Valid.f; rw [if_pos h]; rfl
  · rw [decide_eq_true (by omega), Bool.true_and]
    exact Al.congr (vl1 l (by omega) l 0 rfl) fun k => by unfold catalog_Valid.f; rw [if_neg h]; rfl
def named (n : ByteArray) (x : S59) : Bool := decide (x.f0.toList = n.toList)
def ftup : Option S59 → ByteArray × Int × Int × Int × Bool
  | some x => (x.f0, x.f1, x.f2, x.f3, true)
  | none => (⟨#[]⟩, 0, 0, 0, false)
theorem fl1 (l : List S59) (n : ByteArray) (hl : l.length ≤ 8) : ∀ (rest : List S59) (i : Nat), l.drop i = rest → Al (fun k => catalog_Find.l0 k n l (l.length : Int) (i : Int)) (ftup (rest.find? (named n)))
  | [], i, h => Al.succV fun k => by
    have := drop_nil_le h
    simp only [catalog_Find.l0]
    rw [if_neg (by omega)]
    rfl
  | x :: r, i, h => by
    obtain ⟨hlt, hat, hdr⟩ := drop_at h
    have ih := fl1 l n hl r (i + 1) hdr
    have e : ∀ k, catalog_Find.l0 (k + 1) n l (l.length : Int) (i : Int) = if x.f0.toList = n.toList then some (x.f0, x.f1, x.f2, x.f3, true) else catalog_Find.l0 k n l (l.length : Int) (i + 1 : Nat) := fun k => by
      simp only [catalog_Find.l0]
      rw [if_pos (by omega), if_pos (by omega), if_pos (by omega), rd59q hat, w64_id (n := (i : Int) + 1) (by omega) (by omega)]
      rfl
    by_cases hx : x.f0.toList = n.toList
    · rw [List.find?_cons_of_pos (p := named n) (decide_eq_true hx)]
      exact Al.succV fun k => by rw [e, if_pos hx]; rfl
    · rw [List.find?_cons_of_neg (p := named n) (by rw [show named n x = false from decide_eq_false hx]; decide)]
      exact Al.succ ih fun k => by rw [e, if_neg hx]
def fits (x : S59) (m u : Int) : Bool := shp x.f1 x.f2 && (if x.f1 = 1 then decide (m ≥ 1) && decide (m ≤ 5) && decide (u = 0) else decide (m = 0) && decide (u ≥ 1) && decide (u ≤ x.f2))
theorem ff1 (x : S59) (m u : Int) : amount_Fits.f x.f0 x.f1 x.f2 x.f3 m u = some (fits x m u) := by
  unfold amount_Fits.f fits
  rw [shp1, vm]
  simp only [Option.bind_some]
  cases shp x.f1 x.f2
  · simp
  · by_cases h1 : x.f1 = 1
    · by_cases h2 : m ≥ 1 <;> by_cases h3 : m ≤ 5 <;> by_cases h4 : u = 0 <;> simp [h1, h2, h3, h4]
    · by_cases h2 : m = 0 <;> by_cases h3 : u ≥ 1 <;> simp [h1, h2, h3]
/-- What an atom's claim answers. -/
def rsv1 (l : List S59) (a : S25) : Int := if vcat l = true then (match l.find? (named a.f0) with
  | some x => if fits x a.f1.f0 a.f1.f1 = true then 0 else 12
  | none => 10) else 2
theorem vcat_len {l : List S59} (h : vcat l = true) : l.length ≤ 8 := by
  unfold vcat at h
  rw [Bool.and_eq_true] at h
  exact of_decide_eq_true h.1
theorem res1 (l : List S59) (a : S25) : Al (fun k => catalog_Resolve.f k l a.f0 a.f1.f0 a.f1.f1) (rsv1 l a) := by
  refine Al.bindE (fun k => rfl) (vcat1 l) ?_
  unfold rsv1
  by_cases h : vcat l = true
  · rw [if_pos h]
    refine Al.congr (g := fun k => (catalog_Find.f k l a.f0).bind fun bt531 => (if bt531.2.2.2.2 = true then ((amount_Fits.f bt531.1 bt531.2.1 bt531.2.2.1 bt531.2.2.2.1 a.f1.f0 a.f1.f1).bind fun t537 => (if t537 = true then (some 0) else (some 12))) else (some 10))) (Al.bind (r := ftup (l.find? (named a.f0))) (Al.congr (fl1 l a.f0 (vcat_len h) l 0 rfl) fun k => rfl) (Al.val fun k => ?_)) (fun k => by rw [if_pos h])
    cases l.find? (named a.f0) with
    | none => rfl
    | some x =>
      simp only [ftup]
      rw [if_pos trivial, ff1]
      simp only [Option.bind_some]
      split <;> rfl
  · rw [if_neg h]
    exact Al.val fun k => by rw [if_neg h]
def rsl (l : List S59) : List S25 → Int
  | [] => 0
  | a :: r => if rsv1 l a = 0 then rsl l r else rsv1 l a
theorem rl1 (l : List S59) (x : List S25) (hx : x.length ≤ 8) : ∀ (rest : List S25) (i : Nat), x.drop i = rest → Al (fun k => formula_Resolve.l0 k l x (x.length : Int) (i : Int)) (rsl l rest)
  | [], i, h => Al.succV fun k => by
    have := drop_nil_le h
    simp only [formula_Resolve.l0]
    rw [if_neg (by omega)]
    rfl
  | a :: r, i, h => by
    obtain ⟨hlt, hat, hdr⟩ := drop_at h
    have ih := rl1 l x hx r (i + 1) hdr
    refine Al.succB (g := fun k => catalog_Resolve.f k l a.f0 a.f1.f0 a.f1.f1) (f := fun k t => if t = 0 then formula_Resolve.l0 k l x (x.length : Int) (i + 1 : Nat) else some t) (fun k => ?_) (res1 l a) ?_
    · simp only [formula_Resolve.l0]
      rw [if_pos (by omega), if_pos (by omega), if_pos (by omega), rd25 hat, w64_id (n := (i : Int) + 1) (by omega) (by omega)]
      rfl
    · by_cases h0 : rsv1 l a = 0
      · have e : rsl l (a :: r) = rsl l r := by simp only [rsl]; rw [if_pos h0]
        rw [e]
        exact Al.congr ih fun k => by rw [if_pos h0]
      · have e : rsl l (a :: r) = rsv1 l a := by simp only [rsl]; rw [if_neg h0]
        rw [e]
        exact Al.val fun k => by rw [if_neg h0]
/-- Resolve. -/
def rs (l : List S59) (e : S28) : Int := if valid e then rsl l (ats e) else 1
theorem resolve1 (l : List S59) (e : S28) : Al (fun k => formula_Resolve.f k l e.f0 e.f1.f0 e.f1.f1.f0 e.f1.f1.f1 e.f2) (rs l e) := by
  refine Al.bindE (fun k => rfl) (atoms1 e) ?_
  unfold rs
  by_cases h : valid e
  · have := ats_pos h
    rw [if_pos h]
    exact Al.congr (rl1 l (ats e) (ats_len e) (ats e) 0 rfl) fun k => by rw [if_neg (by omega)]; rfl
  · rw [if_neg h]
    exact Al.val fun k => by rw [if_pos (by rw [ats_invalid h]; simp)]
end Go.Proofs.Ytefbcebpokoinaa.Pq
