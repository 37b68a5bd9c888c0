import Derived.Test.YtefbcebpokoinaaPa
import Derived.Test.YtefbcebpokoinaaY3
import Derived.Test.YtefbcebpokoinaaY6
namespace Go.Proofs.Ytefbcebpokoinaa.Pv
open Go.RowKit Go.Proofs.Ytefbcebpokoinaa.Y Go.Proofs.Ytefbcebpokoinaa.Pa Go.Proofs.YtefbcebpokoinaaW.PrintWords Go.Proofs.YtefbcebpokoinaaW.PrintLast Go.Proofs.YtefbcebpokoinaaW.PrintMore
set_option linter.unusedVariables false
set_option linter.unusedSimpArgs false
/-! Names and amounts: the program and the reference answer alike. -/
def VU (m u : Int) : Bool := (decide (m ≥ 1) && decide (m ≤ 5) && decide (u = 0)) || (decide (m = 0) && decide (u ≥ 1) && decide (u ≤ 8))
theorem vm (m : Int) : mode_Valid.f m = some (decide (m ≥ 1) && decide (m ≤ 5)) := by
  unfold mode_Valid.f
  split <;> simp_all <;> (intros; omega)
theorem vm3 (m : Int) : clusterlocksref03_Valid.f m = some (decide (m ≥ 1) && decide (m ≤ 5)) := by
  unfold clusterlocksref03_Valid.f
  split <;> simp_all <;> (intros; omega)
theorem fits1 (m u : Int) : amount_Fits.f (⟨#[]⟩ : ByteArray) 1 1 0 m u = some (decide (m ≥ 1) && decide (m ≤ 5) && decide (u = 0)) := by
  unfold amount_Fits.f amount_Shaped.f
  rw [if_pos rfl, vm]
  simp only [Option.bind_some]
  by_cases h1 : m ≥ 1 <;> by_cases h2 : m ≤ 5 <;> by_cases h3 : u = 0 <;> simp [h1, h2, h3]
theorem fits2 (m u : Int) : amount_Fits.f (⟨#[]⟩ : ByteArray) 2 8 0 m u = some (decide (m = 0) && decide (u ≥ 1) && decide (u ≤ 8)) := by
  unfold amount_Fits.f amount_Shaped.f
  rw [if_neg (by decide), if_pos rfl, if_pos (by decide)]
  simp only [Option.bind_some]
  rw [if_neg (show ¬ ((2 : Int) = 1) by decide)]
  by_cases h1 : m = 0 <;> by_cases h2 : u ≥ 1 <;> by_cases h3 : u ≤ 8 <;> simp [h1, h2, h3]
theorem us1 (m u : Int) : request_usable.f m u = some (VU m u) := by
  unfold request_usable.f VU
  rw [fits1, fits2]
  simp only [Option.bind_some]
  by_cases h1 : (decide (m ≥ 1) && decide (m ≤ 5) && decide (u = 0)) = true
  · rw [if_pos h1, h1, Bool.true_or]
  · rw [if_neg h1, Bool.eq_false_iff.mpr h1, Bool.false_or]
theorem us2 (m u : Int) : clusterlocksref07_Usable.f m u = some (VU m u) := by
  unfold clusterlocksref07_Usable.f VU
  rw [vm3]
  simp only [Option.bind_some]
  by_cases h1 : m ≥ 1 <;> by_cases h2 : m ≤ 5 <;> by_cases h3 : u = 0 <;> by_cases h4 : m = 0 <;> by_cases h5 : u ≥ 1 <;> by_cases h6 : u ≤ 8 <;> first | omega | simp [h1, h2, h3, h4, h5, h6]
def okc (b : Int) : Bool := (decide (97 ≤ b) && decide (b ≤ 122)) || (decide (48 ≤ b) && decide (b ≤ 57)) || decide (b = 95) || decide (b = 45)
def allc (a : ByteArray) : Nat → Nat → Bool
  | _, 0 => true
  | i, d + 1 => okc (bt a i) && allc a (i + 1) d
def rsv (a : ByteArray) : Bool := decide (a.toList = ([97, 108, 108] : List UInt8)) || decide (a.toList = ([97, 110, 121] : List UInt8)) || decide (a.toList = ([111, 102] : List UInt8)) || decide (a.toList = ([112, 114, 105, 111] : List UInt8)) || decide (a.toList = ([108, 105, 109, 105, 116] : List UInt8))
def vname (a : ByteArray) : Bool := decide (1 ≤ a.size) && decide (a.size ≤ 12) && (decide (97 ≤ bt a 0) && decide (bt a 0 ≤ 122)) && !rsv a && allc a 0 a.size
theorem rs1 (a : ByteArray) : catalog_Reserved.f a = some (rsv a) := by
  unfold catalog_Reserved.f rsv
  split
  · simp_all
  split
  · simp_all
  split
  · simp_all
  split
  · simp_all
  split <;> simp_all
theorem rs2 (a : ByteArray) : clusterlocksref05_Reserved.f a = some (rsv a) := by
  unfold clusterlocksref05_Reserved.f rsv
  split
  · simp_all
  split
  · simp_all
  split
  · simp_all
  split
  · simp_all
  simp_all
  rw [Bool.eq_iff_iff]
  simp
theorem step1 (a : ByteArray) (i : Int) (k : Nat) (h0 : 0 ≤ i) (h1 : i < (a.size : Int)) : catalog_ValidName.l0 (k + 1) a (a.size : Int) i = if okc (bt a i) = true then catalog_ValidName.l0 k a (a.size : Int) (wrap64 (i + 1)) else some false := by
  simp only [catalog_ValidName.l0]
  rw [if_pos h1, if_pos h0, if_pos h1]
  unfold okc
  generalize bt a i = b
  generalize catalog_ValidName.l0 k a (a.size : Int) (wrap64 (i + 1)) = r
  have e1 : (97 ≤ b) = ¬ b < 97 := by simp
  have e2 : (b ≤ 122) = ¬ b > 122 := by simp
  have e3 : (48 ≤ b) = ¬ b < 48 := by simp
  have e4 : (b ≤ 57) = ¬ b > 57 := by simp
  simp only [e1, e2, e3, e4]
  by_cases h1 : b < 97 <;> by_cases h2 : b < 48 <;> by_cases h3 : b > 57 <;> by_cases h4 : b = 95 <;> by_cases h5 : b = 45 <;> by_cases h6 : b > 122 <;> first | omega | simp [h1, h2, h3, h4, h5, h6]
theorem vl1 (a : ByteArray) (ha : a.size ≤ 12) : ∀ d i, i + d = a.size → Al (fun k => catalog_ValidName.l0 k a (a.size : Int) (i : Int)) (allc a i d)
  | 0, i, h => Al.succV fun k => by
    simp only [catalog_ValidName.l0]
    rw [if_neg (by omega)]
    rfl
  | d + 1, i, h => by
    have ih := vl1 a ha d (i + 1) (by omega)
    by_cases hc : okc (bt a i) = true
    · refine Al.succ (Al.eq ih (by simp [allc, hc])) (fun k => ?_)
      rw [step1 a i k (by omega) (by omega), if_pos hc, w64_id (by omega) (by omega)]
      rfl
    · refine Al.succV (fun k => ?_)
      rw [step1 a i k (by omega) (by omega), if_neg hc]
      simp [allc, hc]
theorem pt (b : Int) : clusterlocksref05_Part.f b = some (okc b) := by
  unfold clusterlocksref05_Part.f clusterlocksref05_Letter.f okc
  have e1 : (b ≥ 97) = (97 ≤ b) := rfl
  have e3 : (b ≥ 48) = (48 ≤ b) := rfl
  simp only [e1, e3]
  by_cases h1 : 97 ≤ b <;> by_cases h2 : b ≤ 122 <;> by_cases h3 : 48 ≤ b <;> by_cases h4 : b ≤ 57 <;> by_cases h5 : b = 95 <;> by_cases h6 : b = 45 <;> first | omega | simp [h1, h2, h3, h4, h5, h6]
theorem vl2 (a : ByteArray) (ha : a.size ≤ 12) : ∀ d i, i + d = a.size → Al (fun k => clusterlocksref05_ValidName.l0 k a (i : Int)) (allc a i d)
  | 0, i, h => Al.succV fun k => by
    simp only [clusterlocksref05_ValidName.l0]
    rw [if_neg (by omega)]
    rfl
  | d + 1, i, h => by
    have ih := vl2 a ha d (i + 1) (by omega)
    have e : ∀ k, clusterlocksref05_ValidName.l0 (k + 1) a (i : Int) = if okc (bt a i) = true then clusterlocksref05_ValidName.l0 k a (i + 1 : Nat) else some false := fun k => by
      simp only [clusterlocksref05_ValidName.l0]
      rw [if_pos (by omega), if_pos (by omega), pt, w64_id (by omega) (by omega)]
      rfl
    by_cases hc : okc (bt a i) = true
    · exact Al.succ (Al.eq ih (by simp [allc, hc])) (fun k => by rw [e, if_pos hc])
    · exact Al.succV (fun k => by rw [e, if_neg hc]; simp [allc, hc])
theorem vn1 (a : ByteArray) : Al (fun k => catalog_ValidName.f k a) (vname a) := by
  have j : Al (fun k => catalog_ValidName.j0 k a true) false := Al.succV fun k => by simp [catalog_ValidName.j0]
  unfold vname
  by_cases h1 : (a.size : Int) = 0
  · exact Al.congr (Al.eq j (by simp [show ¬ 1 ≤ a.size by omega])) (fun k => by unfold catalog_ValidName.f; rw [if_pos h1])
  by_cases h2 : (a.size : Int) > 12
  · exact Al.congr (Al.eq j (by simp [show ¬ a.size ≤ 12 by omega])) (fun k => by unfold catalog_ValidName.f; rw [if_neg h1, if_pos h2])
  by_cases h3 : bt a 0 < 97
  · exact Al.congr (Al.eq j (by simp [show ¬ 97 ≤ bt a 0 by omega])) (fun k => by unfold catalog_ValidName.f; rw [if_neg h1, if_neg h2, if_pos (by omega), if_pos h3])
  by_cases h4 : bt a 0 > 122
  · exact Al.congr (Al.eq j (by simp [show ¬ bt a 0 ≤ 122 by omega])) (fun k => by unfold catalog_ValidName.f; rw [if_neg h1, if_neg h2, if_pos (by omega), if_neg h3, if_pos h4])
  have e : ∀ k, catalog_ValidName.f k a = catalog_ValidName.j0 k a (rsv a) := fun k => by
    unfold catalog_ValidName.f
    rw [if_neg h1, if_neg h2, if_pos (by omega), if_neg h3, if_neg h4, rs1]
    rfl
  rw [decide_eq_true (show 1 ≤ a.size by omega), decide_eq_true (show a.size ≤ 12 by omega), decide_eq_true (show 97 ≤ bt a 0 by omega), decide_eq_true (show bt a 0 ≤ 122 by omega)]
  refine Al.congr ?_ e
  cases rsv a
  · have := vl1 a (by omega) a.size 0 (by omega)
    exact Al.succ (Al.eq this (by simp)) (fun k => by simp [catalog_ValidName.j0])
  · exact Al.eq j (by simp)
theorem vn2 (a : ByteArray) : Al (fun k => clusterlocksref05_ValidName.f k a) (vname a) := by
  have j : Al (fun k => clusterlocksref05_ValidName.j0 k a true) false := Al.succV fun k => by simp [clusterlocksref05_ValidName.j0]
  unfold vname
  by_cases h1 : (a.size : Int) < 1
  · exact Al.congr (Al.eq j (by simp [show ¬ 1 ≤ a.size by omega])) (fun k => by unfold clusterlocksref05_ValidName.f; rw [if_pos h1])
  by_cases h2 : (a.size : Int) > 12
  · exact Al.congr (Al.eq j (by simp [show ¬ a.size ≤ 12 by omega])) (fun k => by unfold clusterlocksref05_ValidName.f; rw [if_neg h1, if_pos h2])
  have eL : clusterlocksref05_Letter.f (bt a 0) = some (decide (97 ≤ bt a 0) && decide (bt a 0 ≤ 122)) := by
    unfold clusterlocksref05_Letter.f
    split <;> simp_all <;> (intros; omega)
  have e : ∀ k, clusterlocksref05_ValidName.f k a = if (decide (97 ≤ bt a 0) && decide (bt a 0 ≤ 122)) = true then clusterlocksref05_ValidName.j0 k a (rsv a) else clusterlocksref05_ValidName.j0 k a true := fun k => by
    unfold clusterlocksref05_ValidName.f
    rw [if_neg h1, if_neg h2, if_pos (by omega), eL, rs2]
    rfl
  rw [decide_eq_true (show 1 ≤ a.size by omega), decide_eq_true (show a.size ≤ 12 by omega)]
  refine Al.congr ?_ e
  cases (decide (97 ≤ bt a 0) && decide (bt a 0 ≤ 122))
  · exact Al.congr (Al.eq j (by simp)) (fun k => by simp)
  · cases rsv a
    · have := vl2 a (by omega) a.size 0 (by omega)
      exact Al.succ (Al.eq this (by simp)) (fun k => by simp [clusterlocksref05_ValidName.j0])
    · exact Al.congr (Al.eq j (by simp)) (fun k => by simp)
end Go.Proofs.Ytefbcebpokoinaa.Pv
