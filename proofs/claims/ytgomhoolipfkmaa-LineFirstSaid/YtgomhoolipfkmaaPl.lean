import Derived.Test.YtgomhoolipfkmaaPa
import Derived.Test.YtgomhoolipfkmaaY3
import Derived.Test.YtgomhoolipfkmaaY7
namespace Go.Proofs.Ytgomhoolipfkmaa.Pl
open Go.RowKit Go.Proofs.Ytgomhoolipfkmaa.Y Go.Proofs.Ytgomhoolipfkmaa.Pa Go.Proofs.YtgomhoolipfkmaaW.PrintWords Go.Proofs.YtgomhoolipfkmaaW.PrintLast Go.Proofs.YtgomhoolipfkmaaW.PrintMore
set_option linter.unusedVariables false
set_option linter.unusedSimpArgs false
/-! A waiting claim. -/
def VP (a b c : Int) : Bool := decide (a ≥ 0) && decide (a < 4) && decide (b ≥ 1) && decide (b ≤ 99) && decide (c ≥ 1) && decide (c ≤ 999)
def VU (m u : Int) : Bool := (decide (m ≥ 1) && decide (m ≤ 5) && decide (u = 0)) || (decide (m = 0) && decide (u ≥ 1) && decide (u ≤ 8))
def VR (p q : Int) : Bool := decide (p ≥ 0) && decide (p ≤ 7) && decide (q ≥ 0) && decide (q ≤ 3)
def VW (x : S28) : Bool := VP x.f0.f0 x.f0.f1 x.f0.f2 && VU x.f1.f0 x.f1.f1 && VR x.f2 x.f3
theorem vp1 (a b c : Int) : ident_ValidProc.f a b c = some (VP a b c) := by
  unfold ident_ValidProc.f VP
  split <;> (try split) <;> (try split) <;> (try split) <;> (try split) <;> simp_all <;> (intros; omega)
theorem vm (m : Int) : mode_Valid.f m = some (decide (m ≥ 1) && decide (m ≤ 5)) := by
  unfold mode_Valid.f
  split <;> simp_all <;> (intros; omega)
theorem fits1 (m u : Int) : amount_Fits.f (⟨#[]⟩ : ByteArray) 1 1 0 m u = some (decide (m ≥ 1) && decide (m ≤ 5) && decide (u = 0)) := by
  unfold amount_Fits.f amount_Shaped.f
  rw [if_pos rfl, vm]
  simp only [Option.bind_some]
  by_cases h1 : m ≥ 1 <;> by_cases h2 : m ≤ 5 <;> by_cases h3 : u = 0 <;> simp [h1, h2, h3]
theorem fits2 (m u : Int) : amount_Fits.f (⟨#[]⟩ : ByteArray) 2 8 0 m u = some (decide (m = 0) && decide (u ≥ 1) && decide (u ≤ 8)) := by
  unfold amount_Fits.f amount_Shaped.f
  rw [if_neg (by decide), if_pos rfl, if_pos (by decide)]
  simp only [Option.bind_some]
  rw [if_neg (show ¬ ((2 : Int) = 1) by decide)]
  by_cases h1 : m = 0 <;> by_cases h2 : u ≥ 1 <;> by_cases h3 : u ≤ 8 <;> simp [h1, h2, h3]
theorem vw1 (a b c m u p q : Int) : line_ValidWait.f a b c m u p q = some (VP a b c && VU m u && VR p q) := by
  unfold line_ValidWait.f VR
  rw [fits1, fits2, vp1]
  simp only [Option.bind_some]
  have e : VU m u = ((decide (m ≥ 1) && decide (m ≤ 5) && decide (u = 0)) || (decide (m = 0) && decide (u ≥ 1) && decide (u ≤ 8))) := rfl
  rw [e]
  generalize (decide (m ≥ 1) && decide (m ≤ 5) && decide (u = 0)) = X
  generalize (decide (m = 0) && decide (u ≥ 1) && decide (u ≤ 8)) = Y
  cases VP a b c <;> cases X <;> cases Y <;> by_cases h1 : p ≥ 0 <;> by_cases h2 : p ≤ 7 <;> by_cases h3 : q ≥ 0 <;> simp [h1, h2, h3]
/-! Where a process stands. -/
theorem rd28 (l : List S28) (i : Int) : rd_T28 l i = l.getD i.toNat z28 := rfl
theorem idx_drop {α : Type} (p : α → Bool) (z : α) (l : List α) (n : Nat) (h : n < l.length) : Xw.idx_ p (l.drop n) = if p (l.getD n z) then 0 else if Xw.idx_ p (l.drop (n + 1)) = -1 then -1 else Xw.idx_ p (l.drop (n + 1)) + 1 := by
  rw [List.drop_eq_getElem_cons h, List.getD_eq_getElem?_getD, List.getElem?_eq_getElem h]
  rfl
theorem s24_eta (x : S24) : (⟨x.f0, x.f1, x.f2⟩ : S24) = x := rfl
theorem s28_eta (x : S28) : (⟨(⟨x.f0.f0, x.f0.f1, x.f0.f2⟩ : S24), (⟨x.f1.f0, x.f1.f1⟩ : S26), x.f2, x.f3⟩ : S28) = x := rfl
theorem drop_cons_getD {α : Type} (z : α) (l : List α) (n : Nat) (h : n < l.length) : l.drop n = l.getD n z :: l.drop (n + 1) := by
  rw [List.drop_eq_getElem_cons h, List.getD_eq_getElem?_getD, List.getElem?_eq_getElem h]
  rfl
theorem find_self (x : S28) : line_Find.p x.f0.f0 x.f0.f1 x.f0.f2 x = true := by simp [line_Find.p]
theorem awake_eval : clusterlockslaw11_awake.f 30 = some true := by decide +kernel
theorem awake_al : Al (fun k => clusterlockslaw11_awake.f k) true := Al.of (fun k => clusterlockslaw11_awake.mono k) awake_eval
end Go.Proofs.Ytgomhoolipfkmaa.Pl
