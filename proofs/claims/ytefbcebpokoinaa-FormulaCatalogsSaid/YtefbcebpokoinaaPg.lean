import Derived.Test.YtefbcebpokoinaaPs
import Derived.Test.YtefbcebpokoinaaPv
import Derived.Test.YtefbcebpokoinaaY5
import Derived.Test.YtefbcebpokoinaaY8
namespace Go.Proofs.Ytefbcebpokoinaa.Pg
open Go.RowKit Go.Proofs.Ytefbcebpokoinaa.Y Go.Proofs.Ytefbcebpokoinaa.Pa Go.Proofs.Ytefbcebpokoinaa.Ps Go.Proofs.Ytefbcebpokoinaa.Pv Go.Proofs.YtefbcebpokoinaaW.PrintWords Go.Proofs.YtefbcebpokoinaaW.PrintLast Go.Proofs.YtefbcebpokoinaaW.PrintMore
set_option linter.unusedVariables false
set_option linter.unusedSimpArgs false
/-! The atoms of an expression: what the program gathers and collects, and what the reference adds. -/
def sameN (a b : S25) : Bool := a.f0.toList == b.f0.toList
def eqA (a b : S25) : Bool := a.f0.toList == b.f0.toList && (a.f1.f0 == b.f1.f0 && a.f1.f1 == b.f1.f1)
theorem eqA_same {a b : S25} (h : eqA a b = true) : sameN a b = true := by
  unfold eqA at h
  simp only [Bool.and_eq_true] at h
  exact h.1
theorem same_trans {a b c : S25} (h : sameN a c = true) (h2 : sameN b c = true) : sameN a b = true := by
  unfold sameN at *
  simp only [beq_iff_eq] at *
  rw [h, h2]
def odd (a : S25) : Bool := !(a.f0.toList == ([] : List UInt8)) || (!(a.f1.f0 == 0) || !(a.f1.f1 == 0))
def leaf (a : S25) : Bool := vname a.f0 && VU a.f1.f0 a.f1.f1
mutual
def gth : S28 → List S25 → Bool × List S25
  | ⟨k, a, l⟩, x => if k = 0 then (if 0 < l.length then (false, x) else if leaf a = true then (match x.find? (fun b => sameN b a) with | some b => (eqA b a, x) | none => (decide (x.length + 1 ≤ 8), x ++ [a])) else (false, x))
    else if k < 1 ∨ k > (l.length : Int) ∨ odd a = true then (false, x) else gthL l x
def gthL : List S28 → List S25 → Bool × List S25
  | [], x => (true, x)
  | e :: r, x => if (gth e x).1 = true then gthL r (gth e x).2 else (false, (gth e x).2)
end
mutual
def add : S28 → List S25 → List S25 × Bool
  | ⟨k, a, l⟩, x => if l.length = 0 then (if k = 0 ∧ leaf a = true then (if x.any (fun b => eqA b a) = true then (x, true) else (x ++ [a], true)) else (x, false))
    else if k < 1 ∨ k > (l.length : Int) ∨ odd a = true then (x, false) else addL l x
def addL : List S28 → List S25 → List S25 × Bool
  | [], x => (x, true)
  | e :: r, x => if (add e x).2 = true then addL r (add e x).1 else ([], false)
end
mutual
def col : S28 → List S25 → List S25
  | ⟨k, a, l⟩, x => if k = 0 then (if x.any (fun b => eqA b a) = true then x else x ++ [a]) else colL l x
def colL : List S28 → List S25 → List S25
  | [], x => x
  | e :: r, x => colL r (col e x)
end
theorem rd25 {xs : List S25} {i : Nat} {e : S25} (h : xs[i]? = some e) : rd_T25 xs (i : Int) = e := by
  show xs.getD _ z25 = e
  rw [Int.toNat_natCast, List.getD_eq_getElem?_getD, h]
  rfl
theorem len_lt {xs : List S28} (h : nodesL xs ≤ 24) : xs.length ≤ 24 := Nat.le_trans (len_nodes xs) h
/-! gather -/
theorem g0 (x : List S25) (a : S25) (hx : x.length ≤ 8) : ∀ (rest : List S25) (i : Nat), x.drop i = rest → Al (fun k => request_gather.l0 k x (i : Int) a.f0 a.f1.f0 a.f1.f1) (match rest.find? (fun b => sameN b a) with | some b => (eqA b a, x) | none => (decide (x.length + 1 ≤ 8), x ++ [a]))
  | [], i, h => Al.succV fun k => by
    have := drop_nil_le h
    simp only [request_gather.l0]
    rw [if_neg (by omega), if_pos (by omega)]
    have e : decide (((x ++ [(⟨a.f0, (⟨a.f1.f0, a.f1.f1⟩ : S23)⟩ : S25)]).length : Int) ≤ 8) = decide (x.length + 1 ≤ 8) := by
      rw [decide_eq_decide, List.length_append, List.length_singleton]
      omega
    rw [e]
    rfl
  | b :: r, i, h => by
    obtain ⟨hlt, hat, hdr⟩ := drop_at h
    have ih := g0 x a hx r (i + 1) hdr
    have e : ∀ k, request_gather.l0 (k + 1) x (i : Int) a.f0 a.f1.f0 a.f1.f1 = if sameN b a = true then some (eqA b a, x) else request_gather.l0 k x (i + 1 : Nat) a.f0 a.f1.f0 a.f1.f1 := fun k => by
      simp only [request_gather.l0]
      rw [if_pos (by omega), if_pos (by omega), rd25 hat, w64_id (by omega) (by omega)]
      rfl
    by_cases hs : sameN b a = true
    · exact Al.succV fun k => by rw [e, if_pos hs, List.find?_cons_of_pos (p := fun b => sameN b a) hs]
    · exact Al.succ (Al.eq ih (by rw [List.find?_cons_of_neg (p := fun b => sameN b a) hs])) (fun k => by rw [e, if_neg hs])
def gf (k : Nat) (x : List S25) (e : S28) : Option (Bool × List S25) := request_gather.f k x e.f0 e.f1.f0 e.f1.f1.f0 e.f1.f1.f1 e.f2
def GP (e : S28) : Prop := ∀ x : List S25, nodes e ≤ 24 → x.length ≤ 8 → Al (fun k => gf k x e) (gth e x) ∧ ((gth e x).1 = true → (gth e x).2.length ≤ 8)
def GQ (l : List S28) : Prop := ∀ (x : List S25) (xs : List S28) (i : Nat), xs.drop i = l → xs.length ≤ 24 → nodesL l ≤ 24 → x.length ≤ 8 → Al (fun k => request_gather.l1 k x xs (i : Int)) (gthL l x) ∧ ((gthL l x).1 = true → (gthL l x).2.length ≤ 8)
theorem gather_all : (∀ e, GP e) ∧ (∀ l, GQ l) := by
  refine ind ?_ ?_ ?_
  · intro k0 a l hl x hn hx
    have hn2 : nodesL l ≤ 24 := by simp only [nodes] at hn; omega
    by_cases h0 : k0 = 0
    · subst h0
      by_cases hk : 0 < l.length
      · have e : gth ⟨0, a, l⟩ x = (false, x) := by simp [gth, hk]
        rw [e]
        exact ⟨Al.succV fun k => by simp only [gf, request_gather.f]; rw [if_pos trivial, if_pos (by omega)], fun h => by cases h⟩
      · by_cases hv : vname a.f0 = true
        · by_cases hu : VU a.f1.f0 a.f1.f1 = true
          · have e : gth ⟨0, a, l⟩ x = (match x.find? (fun b => sameN b a) with | some b => (eqA b a, x) | none => (decide (x.length + 1 ≤ 8), x ++ [a])) := by simp [gth, hk, leaf, hv, hu]
            rw [e]
            refine ⟨Al.succB (f := fun k b1 => if b1 = true then ((request_usable.f a.f1.f0 a.f1.f1).bind fun b2 => if b2 = true then request_gather.l0 k x 0 a.f0 a.f1.f0 a.f1.f1 else some (false, x)) else some (false, x)) (fun k => by simp only [gf, request_gather.f]; rw [if_pos trivial, if_neg (by omega)]) (vn1 a.f0) (Al.congr (g0 x a hx x 0 rfl) fun k => ?_), ?_⟩
            · rw [hv, if_pos rfl, us1, hu]
              rfl
            · cases hq : x.find? (fun b => sameN b a) with
              | some b => exact fun _ => hx
              | none => intro h; have := of_decide_eq_true h; simp; omega
          · have e : gth ⟨0, a, l⟩ x = (false, x) := by simp [gth, hk, leaf, hv, hu]
            rw [e]
            refine ⟨Al.succB (f := fun k b1 => if b1 = true then ((request_usable.f a.f1.f0 a.f1.f1).bind fun b2 => if b2 = true then request_gather.l0 k x 0 a.f0 a.f1.f0 a.f1.f1 else some (false, x)) else some (false, x)) (fun k => by simp only [gf, request_gather.f]; rw [if_pos trivial, if_neg (by omega)]) (vn1 a.f0) (Al.val fun k => ?_), fun h => by cases h⟩
            rw [hv, if_pos rfl, us1, Bool.eq_false_iff.mpr hu]
            rfl
        · have e : gth ⟨0, a, l⟩ x = (false, x) := by simp [gth, hk, leaf, hv]
          rw [e]
          refine ⟨Al.succB (f := fun k b1 => if b1 = true then ((request_usable.f a.f1.f0 a.f1.f1).bind fun b2 => if b2 = true then request_gather.l0 k x 0 a.f0 a.f1.f0 a.f1.f1 else some (false, x)) else some (false, x)) (fun k => by simp only [gf, request_gather.f]; rw [if_pos trivial, if_neg (by omega)]) (vn1 a.f0) (Al.val fun k => ?_), fun h => by cases h⟩
          rw [if_neg hv]
    · by_cases hb : k0 < 1 ∨ k0 > (l.length : Int) ∨ odd a = true
      · have e : gth ⟨k0, a, l⟩ x = (false, x) := by simp only [gth]; rw [if_neg h0, if_pos hb]
        rw [e]
        refine ⟨Al.succV fun k => ?_, fun h => by cases h⟩
        simp only [gf, request_gather.f]
        rw [if_neg h0]
        by_cases h1 : k0 < 1
        · rw [if_pos h1]
        · by_cases h2 : k0 > (l.length : Int)
          · rw [if_neg h1, if_pos h2]
          · rw [if_neg h1, if_neg h2]
            exact if_pos ((hb.resolve_left h1).resolve_left h2)
      · have e : gth ⟨k0, a, l⟩ x = gthL l x := by simp only [gth]; rw [if_neg h0, if_neg hb]
        rw [e]
        obtain ⟨hA, hB⟩ := hl x l 0 rfl (len_lt hn2) hn2 hx
        refine ⟨Al.succ hA fun k => ?_, hB⟩
        simp only [gf, request_gather.f]
        rw [if_neg h0, if_neg (fun h => hb (.inl h)), if_neg (fun h => hb (.inr (.inl h)))]
        exact if_neg (fun h => hb (.inr (.inr h)))
  · intro x xs i hi h24 hn hx
    have := drop_nil_le hi
    refine ⟨Al.succV fun k => ?_, fun _ => hx⟩
    simp only [request_gather.l1, gthL]
    rw [if_neg (by omega)]
  · intro e r he hr x xs i hi h24 hn hx
    obtain ⟨hlt, hat, hdr⟩ := drop_at hi
    simp only [nodesL] at hn
    obtain ⟨hA, hA2⟩ := he x (by omega) hx
    have step : ∀ k, request_gather.l1 (k + 1) x xs (i : Int) = (gf k x e).bind fun t => if t.1 = true then request_gather.l1 k t.2 xs (i + 1 : Nat) else some (false, t.2) := fun k => by
      simp only [request_gather.l1]
      rw [if_pos (by omega), if_pos (by omega), rd28 hat, w64_id (n := (i : Int) + 1) (by omega) (by omega)]
      rfl
    by_cases hg : (gth e x).1 = true
    · obtain ⟨hB, hB2⟩ := hr (gth e x).2 xs (i + 1) hdr h24 (by omega) (hA2 hg)
      have e2 : gthL (e :: r) x = gthL r (gth e x).2 := by simp only [gthL]; rw [if_pos hg]
      rw [e2]
      exact ⟨Al.succB step hA (Al.congr hB fun k => by rw [if_pos hg]), hB2⟩
    · have e2 : gthL (e :: r) x = (false, (gth e x).2) := by simp only [gthL]; rw [if_neg hg]
      rw [e2]
      exact ⟨Al.succB step hA (Al.val fun k => by rw [if_neg hg]), fun h => by cases h⟩
/-! Add -/
theorem a0_ (x : List S25) (a : S25) (hx : x.length ≤ 100) (a0 : Int) (l : List S28) : ∀ (rest : List S25) (i : Nat), x.drop i = rest → Al (fun k => clusterlocksref07_Add.l0 k x (i : Int) a0 a.f0 a.f1.f0 a.f1.f1 l) (if rest.any (fun b => eqA b a) = true then (x, true) else (x ++ [a], true))
  | [], i, h => Al.succV fun k => by
    have := drop_nil_le h
    simp only [clusterlocksref07_Add.l0]
    rw [if_neg (by omega), if_pos (by omega)]
    simp
  | b :: r, i, h => by
    obtain ⟨hlt, hat, hdr⟩ := drop_at h
    have ih := a0_ x a hx a0 l r (i + 1) hdr
    have e : ∀ k, clusterlocksref07_Add.l0 (k + 1) x (i : Int) a0 a.f0 a.f1.f0 a.f1.f1 l = if eqA b a = true then some (x, true) else clusterlocksref07_Add.l0 k x (i + 1 : Nat) a0 a.f0 a.f1.f0 a.f1.f1 l := fun k => by
      simp only [clusterlocksref07_Add.l0]
      rw [if_pos (by omega), if_pos (by omega), rd25 hat, w64_id (by omega) (by omega)]
      rfl
    by_cases hs : eqA b a = true
    · exact Al.succV fun k => by rw [e, if_pos hs]; simp [hs]
    · exact Al.succ (Al.eq ih (by simp [hs])) (fun k => by rw [e, if_neg hs])
def af (k : Nat) (x : List S25) (e : S28) : Option (List S25 × Bool) := clusterlocksref07_Add.f k x e.f0 e.f1.f0 e.f1.f1.f0 e.f1.f1.f1 e.f2
def AP (e : S28) : Prop := ∀ x : List S25, nodes e ≤ 24 → x.length + nodes e ≤ 100 → ∃ z, Al (fun k => af k x e) (z, (add e x).2) ∧ ((add e x).2 = true → z = (add e x).1 ∧ z.length ≤ x.length + nodes e)
def AQ (l : List S28) : Prop := ∀ (x : List S25) (xs : List S28) (i : Nat), xs.drop i = l → xs.length ≤ 24 → nodesL l ≤ 24 → x.length + nodesL l ≤ 100 → ∀ (a0 : Int) (a1 : ByteArray) (a2 a3 : Int), ∃ z, Al (fun k => clusterlocksref07_Add.l1 k x (i : Int) a0 a1 a2 a3 xs) (z, (addL l x).2) ∧ ((addL l x).2 = true → z = (addL l x).1 ∧ z.length ≤ x.length + nodesL l)
theorem add_all : (∀ e, AP e) ∧ (∀ l, AQ l) := by
  refine ind ?_ ?_ ?_
  · intro k0 a l hl x hn hx
    have hn2 : nodesL l ≤ 24 := by simp only [nodes] at hn; omega
    have hx2 : x.length + nodesL l ≤ 99 := by simp only [nodes] at hx; omega
    have jt : Al (fun k => clusterlocksref07_Add.j0 k x true k0 a.f0 a.f1.f0 a.f1.f1 l) (x, false) := Al.succV fun k => by simp [clusterlocksref07_Add.j0]
    have jt2 : Al (fun k => clusterlocksref07_Add.j2 k x true k0 a.f0 a.f1.f0 a.f1.f1 l) (x, false) := Al.succV fun k => by simp [clusterlocksref07_Add.j2]
    by_cases hk : l.length = 0
    · have hk2 : (l.length : Int) = 0 := by omega
      by_cases h0 : k0 = 0
      · subst h0
        have e1 : ∀ k, af (k + 1) x ⟨0, a, l⟩ = (clusterlocksref05_ValidName.f k a.f0).bind fun t => if t = true then ((clusterlocksref07_Usable.f a.f1.f0 a.f1.f1).bind fun t2 => clusterlocksref07_Add.j0 k x (!t2) 0 a.f0 a.f1.f0 a.f1.f1 l) else clusterlocksref07_Add.j0 k x true 0 a.f0 a.f1.f0 a.f1.f1 l := fun k => by
          simp only [af, clusterlocksref07_Add.f]
          rw [if_pos hk2, if_pos trivial]
        by_cases hv : vname a.f0 = true
        · by_cases hu : VU a.f1.f0 a.f1.f1 = true
          · have e : add ⟨0, a, l⟩ x = (if x.any (fun b => eqA b a) = true then (x, true) else (x ++ [a], true)) := by simp [add, hk, leaf, hv, hu]
            refine ⟨(add ⟨0, a, l⟩ x).1, ?_, fun _ => ⟨rfl, ?_⟩⟩
            · refine Al.succB e1 (vn2 a.f0) (Al.congr (Al.succ (G := fun k => clusterlocksref07_Add.j0 k x false 0 a.f0 a.f1.f0 a.f1.f1 l) (Al.eq (a0_ x a (by omega) 0 l x 0 rfl) e.symm) fun k => ?_) fun k => ?_)
              · simp only [clusterlocksref07_Add.j0]
                rw [if_neg (by decide)]
                rfl
              · rw [hv, if_pos rfl, us2, hu]
                rfl
            · rw [e]
              simp only [nodes]
              split
              · dsimp only; omega
              · simp
          · have e : add ⟨0, a, l⟩ x = (x, false) := by simp [add, hk, leaf, hv, hu]
            rw [e]
            refine ⟨x, Al.succB e1 (vn2 a.f0) (Al.congr jt fun k => ?_), fun h => by cases h⟩
            rw [hv, if_pos rfl, us2, Bool.eq_false_iff.mpr hu]
            rfl
        · have e : add ⟨0, a, l⟩ x = (x, false) := by simp [add, hk, leaf, hv]
          rw [e]
          exact ⟨x, Al.succB e1 (vn2 a.f0) (Al.congr jt fun k => by rw [if_neg hv]), fun h => by cases h⟩
      · have e : add ⟨k0, a, l⟩ x = (x, false) := by simp [add, hk, h0]
        rw [e]
        exact ⟨x, Al.succ jt fun k => by simp only [af, clusterlocksref07_Add.f]; rw [if_pos hk2, if_neg h0], fun h => by cases h⟩
    · have hk2 : ¬ (l.length : Int) = 0 := by omega
      by_cases hb : k0 < 1 ∨ k0 > (l.length : Int) ∨ odd a = true
      · have e : add ⟨k0, a, l⟩ x = (x, false) := by simp only [add]; rw [if_neg hk, if_pos hb]
        rw [e]
        refine ⟨x, Al.succ jt2 fun k => ?_, fun h => by cases h⟩
        simp only [af, clusterlocksref07_Add.f]
        rw [if_neg hk2]
        by_cases h1 : k0 < 1
        · rw [if_pos h1]
        · by_cases h2 : k0 > (l.length : Int)
          · rw [if_neg h1, if_pos h2]
          · have h3 := (hb.resolve_left h1).resolve_left h2
            unfold odd at h3
            rw [if_neg h1, if_neg h2, h3]
      · have e : add ⟨k0, a, l⟩ x = addL l x := by simp only [add]; rw [if_neg hk, if_neg hb]
        rw [e]
        obtain ⟨z, hA, hB⟩ := hl x l 0 rfl (len_lt hn2) hn2 (by omega) k0 a.f0 a.f1.f0 a.f1.f1
        refine ⟨z, Al.succ (Al.succ (G := fun k => clusterlocksref07_Add.j2 k x false k0 a.f0 a.f1.f0 a.f1.f1 l) hA fun k => ?_) fun k => ?_, fun h => ⟨(hB h).1, by have := (hB h).2; simp only [nodes]; omega⟩⟩
        · simp only [clusterlocksref07_Add.j2]
          rw [if_neg (by decide)]
          rfl
        · have h3 : odd a = false := Bool.eq_false_iff.mpr (fun h => hb (.inr (.inr h)))
          unfold odd at h3
          simp only [af, clusterlocksref07_Add.f]
          rw [if_neg hk2, if_neg (fun h => hb (.inl h)), if_neg (fun h => hb (.inr (.inl h))), h3]
  · intro x xs i hi h24 hn hx a0 a1 a2 a3
    have := drop_nil_le hi
    refine ⟨x, Al.succV fun k => ?_, fun _ => ⟨rfl, Nat.le_add_right _ _⟩⟩
    simp only [clusterlocksref07_Add.l1, addL]
    rw [if_neg (by omega)]
  · intro e r he hr x xs i hi h24 hn hx a0 a1 a2 a3
    obtain ⟨hlt, hat, hdr⟩ := drop_at hi
    simp only [nodesL] at hn hx
    obtain ⟨z, hA, hA2⟩ := he x (by omega) (by omega)
    have step : ∀ k, clusterlocksref07_Add.l1 (k + 1) x (i : Int) a0 a1 a2 a3 xs = (af k x e).bind fun t => if t.2 = true then clusterlocksref07_Add.l1 k t.1 (i + 1 : Nat) a0 a1 a2 a3 xs else some ([], false) := fun k => by
      simp only [clusterlocksref07_Add.l1]
      rw [if_pos (by omega), if_pos (by omega), rd28 hat, w64_id (n := (i : Int) + 1) (by omega) (by omega)]
      rfl
    by_cases hg : (add e x).2 = true
    · obtain ⟨hz, hzl⟩ := hA2 hg
      obtain ⟨z2, hB, hB2⟩ := hr z xs (i + 1) hdr h24 (by omega) (by omega) a0 a1 a2 a3
      have e2 : addL (e :: r) x = addL r z := by simp only [addL]; rw [if_pos hg, hz]
      rw [e2]
      exact ⟨z2, Al.succB step hA (Al.congr hB fun k => by rw [hg]; rfl), fun h => ⟨(hB2 h).1, by have := (hB2 h).2; simp only [nodesL]; omega⟩⟩
    · have e2 : addL (e :: r) x = ([], false) := by simp only [addL]; rw [if_neg hg]
      rw [e2]
      exact ⟨[], Al.succB step hA (Al.val fun k => by rw [if_neg hg]), fun h => by cases h⟩
/-! collect -/
theorem c0_ (x : List S25) (a : S25) (hx : x.length ≤ 100) (a0 : Int) (l : List S28) : ∀ (rest : List S25) (i : Nat), x.drop i = rest → Al (fun k => formula_collect.l0 k x x (x.length : Int) (i : Int) a0 a.f0 a.f1.f0 a.f1.f1 l) (if rest.any (fun b => eqA b a) = true then x else x ++ [a])
  | [], i, h => Al.succV fun k => by
    have := drop_nil_le h
    simp only [formula_collect.l0]
    rw [if_neg (by omega), if_pos (by omega)]
    simp
  | b :: r, i, h => by
    obtain ⟨hlt, hat, hdr⟩ := drop_at h
    have ih := c0_ x a hx a0 l r (i + 1) hdr
    have e : ∀ k, formula_collect.l0 (k + 1) x x (x.length : Int) (i : Int) a0 a.f0 a.f1.f0 a.f1.f1 l = if eqA b a = true then some x else formula_collect.l0 k x x (x.length : Int) (i + 1 : Nat) a0 a.f0 a.f1.f0 a.f1.f1 l := fun k => by
      simp only [formula_collect.l0]
      rw [if_pos (by omega), if_pos (by omega), if_pos (by omega), rd25 hat, w64_id (by omega) (by omega)]
      rfl
    by_cases hs : eqA b a = true
    · exact Al.succV fun k => by rw [e, if_pos hs]; simp [hs]
    · exact Al.succ (Al.eq ih (by simp [hs])) (fun k => by rw [e, if_neg hs])
def cf (k : Nat) (x : List S25) (e : S28) : Option (List S25) := formula_collect.f k x e.f0 e.f1.f0 e.f1.f1.f0 e.f1.f1.f1 e.f2
def CP (e : S28) : Prop := ∀ x : List S25, nodes e ≤ 24 → x.length + nodes e ≤ 100 → Al (fun k => cf k x e) (col e x) ∧ (col e x).length ≤ x.length + nodes e
def CQ (l : List S28) : Prop := ∀ (x : List S25) (xs : List S28) (i : Nat), xs.drop i = l → xs.length ≤ 24 → nodesL l ≤ 24 → x.length + nodesL l ≤ 100 → Al (fun k => formula_collect.l1 k x xs (xs.length : Int) (i : Int)) (colL l x) ∧ (colL l x).length ≤ x.length + nodesL l
theorem col_all : (∀ e, CP e) ∧ (∀ l, CQ l) := by
  refine ind ?_ ?_ ?_
  · intro k0 a l hl x hn hx
    have hn2 : nodesL l ≤ 24 := by simp only [nodes] at hn; omega
    have hx2 : x.length + nodesL l ≤ 99 := by simp only [nodes] at hx; omega
    by_cases h0 : k0 = 0
    · subst h0
      have e : col ⟨0, a, l⟩ x = (if x.any (fun b => eqA b a) = true then x else x ++ [a]) := by simp [col]
      refine ⟨Al.succ (Al.eq (c0_ x a (by omega) 0 l x 0 rfl) e.symm) fun k => ?_, ?_⟩
      · simp only [cf, formula_collect.f]
        rw [if_pos trivial]
        rfl
      · rw [e]
        simp only [nodes]
        split
        · omega
        · simp
    · have e : col ⟨k0, a, l⟩ x = colL l x := by simp [col, h0]
      rw [e]
      obtain ⟨hA, hB⟩ := hl x l 0 rfl (len_lt hn2) hn2 (by omega)
      refine ⟨Al.succ hA fun k => ?_, by simp only [nodes]; omega⟩
      simp only [cf, formula_collect.f]
      rw [if_neg h0]
      rfl
  · intro x xs i hi h24 hn hx
    have := drop_nil_le hi
    refine ⟨Al.succV fun k => ?_, by simp [colL]⟩
    simp only [formula_collect.l1, colL]
    rw [if_neg (by omega)]
  · intro e r he hr x xs i hi h24 hn hx
    obtain ⟨hlt, hat, hdr⟩ := drop_at hi
    simp only [nodesL] at hn hx
    obtain ⟨hA, hA2⟩ := he x (by omega) (by omega)
    obtain ⟨hB, hB2⟩ := hr (col e x) xs (i + 1) hdr h24 (by omega) (by omega)
    refine ⟨Al.succB (g := fun k => cf k x e) (f := fun k t => formula_collect.l1 k t xs (xs.length : Int) (i + 1 : Nat)) (fun k => ?_) hA hB, by simp only [colL, nodesL]; omega⟩
    simp only [formula_collect.l1]
    rw [if_pos (by omega), if_pos (by omega), if_pos (by omega), rd28 hat, w64_id (n := (i : Int) + 1) (by omega) (by omega)]
    rfl
end Go.Proofs.Ytefbcebpokoinaa.Pg
