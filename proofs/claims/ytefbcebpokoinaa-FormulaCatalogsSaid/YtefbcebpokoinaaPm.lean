import Derived.Test.YtefbcebpokoinaaPp
import Derived.Test.YtefbcebpokoinaaY15
namespace Go.Proofs.Ytefbcebpokoinaa.Pm
open Go.RowKit Go.Proofs.Ytefbcebpokoinaa.Y Go.Proofs.Ytefbcebpokoinaa.Pa Go.Proofs.Ytefbcebpokoinaa.Ps Go.Proofs.Ytefbcebpokoinaa.Pv Go.Proofs.Ytefbcebpokoinaa.Pg Go.Proofs.Ytefbcebpokoinaa.Pr Go.Proofs.Ytefbcebpokoinaa.Ph Go.Proofs.YtefbcebpokoinaaW.PrintWords Go.Proofs.YtefbcebpokoinaaW.PrintLast Go.Proofs.YtefbcebpokoinaaW.PrintMore
set_option linter.unusedVariables false
set_option linter.unusedSimpArgs false
/-! The catalogs and expressions of the mill. -/
theorem mod_f (a b : Int) (hb : 1 ≤ b) (hb2 : b ≤ 2097152) : ∃ r, clusterlocksmill_Mod.f a b = some r ∧ 0 ≤ r ∧ r < b := by
  have h1 := Int.emod_nonneg a (by omega : b ≠ 0)
  have h2 := Int.emod_lt_of_pos a (by omega : 0 < b)
  have h5 := Int.tmod_eq_emod (a := a) (b := b)
  refine ⟨a % b, ?_, h1, h2⟩
  unfold clusterlocksmill_Mod.f
  rw [if_neg (by omega), if_neg (by omega)]
  split at h5
  · rw [if_neg (by omega)]
    congr 1; omega
  · rw [if_pos (by omega), w64_id (by omega) (by omega)]
    congr 1; omega
/-- A tape's place. -/
def pl (s : List Int) (p : Int) : Prop := s.length ≤ 300 ∧ 0 ≤ p ∧ p ≤ 300
theorem next_f {s : List Int} {p : Int} (h : pl s p) (m : Int) (hm : 1 ≤ m) (hm2 : m ≤ 2097152) : ∃ r p', clusterlocksmill_Tape_Next.f s p m = some (r, p') ∧ 0 ≤ r ∧ r < m ∧ pl s p' := by
  obtain ⟨h1, h2, h3⟩ := h
  unfold clusterlocksmill_Tape_Next.f
  by_cases hp : p ≥ (s.length : Int)
  · exact ⟨0, p, by rw [if_pos hp], by omega, by omega, h1, h2, h3⟩
  · obtain ⟨r, hr, hr1, hr2⟩ := mod_f (rd s p) m hm hm2
    refine ⟨r, p + 1, ?_, hr1, hr2, h1, by omega, by omega⟩
    rw [if_neg hp, w64_id (n := p + 1) (by omega) (by omega), show p + 1 - 1 = p by omega, w64_id (by omega) (by omega), if_pos h2, if_pos (by omega), hr]
    rfl
theorem mode_f (a : Int) : ∃ m, clusterlocksmill_Mode.f a = some m ∧ 1 ≤ m ∧ m ≤ 5 := by
  obtain ⟨r, hr, h1, h2⟩ := mod_f a 8 (by omega) (by omega)
  unfold clusterlocksmill_Mode.f
  simp only [Option.bind_some]
  rw [show ((([5, 5, 3, 4, 2, 1, 3, 5] : List Int).length : Nat) : Int) = 8 from rfl, hr]
  simp only [Option.bind_some]
  rw [if_pos h1, if_pos h2]
  refine ⟨_, rfl, ?_⟩
  obtain ⟨n, rfl⟩ := Int.eq_ofNat_of_zero_le h1
  have : n < 8 := by omega
  match n, this with
  | 0, _ => decide
  | 1, _ => decide
  | 2, _ => decide
  | 3, _ => decide
  | 4, _ => decide
  | 5, _ => decide
  | 6, _ => decide
  | 7, _ => decide
/-- A resource as the mill makes it. -/
def okR (x : S59) : Prop := vname x.f0 = true ∧ ((x.f1 = 1 ∧ x.f2 = 1) ∨ (x.f1 = 2 ∧ 1 ≤ x.f2 ∧ x.f2 ≤ 8)) ∧ 0 ≤ x.f3 ∧ x.f3 ≤ 3
theorem amount_f (x : S59) (h : okR x) (a : Int) : ∃ m u, clusterlocksmill_Amount.f x.f0 x.f1 x.f2 x.f3 a = some (m, u) ∧ VU m u = true ∧ (x.f1 = 1 → u = 0 ∧ 1 ≤ m ∧ m ≤ 5) ∧ (x.f1 = 2 → m = 0 ∧ 1 ≤ u ∧ u ≤ x.f2) := by
  unfold clusterlocksmill_Amount.f
  rcases h.2.1 with ⟨h1, h2⟩ | ⟨h1, h2, h3⟩
  · obtain ⟨m, hm, m1, m2⟩ := mode_f a
    refine ⟨m, 0, by rw [if_pos h1, hm]; rfl, ?_, fun _ => ⟨rfl, m1, m2⟩, fun h => by omega⟩
    unfold VU
    simp [m1, m2]
  · obtain ⟨r, hr, r1, r2⟩ := mod_f a x.f2 h2 (by omega)
    refine ⟨0, 1 + r, by rw [if_neg (by omega), hr, ← w64_id (n := 1 + r) (by omega) (by omega)]; rfl, ?_, fun h => by omega, fun _ => ⟨rfl, by omega, by omega⟩⟩
    unfold VU
    simp
    omega
def names : List ByteArray := [⟨#[97]⟩, ⟨#[98]⟩, ⟨#[99]⟩, ⟨#[100]⟩, ⟨#[112]⟩, ⟨#[113]⟩]
/-- A catalog as the mill makes it. -/
def okC (c : List S59) : Prop := c.map (·.f0) = names ∧ ∀ x ∈ c, okR x
theorem catalog_f (s : List Int) (hs : s.length ≤ 300) : ∃ c p, Al (fun k => clusterlocksmill_Catalog.f k s 0) (c, p) ∧ okC c ∧ pl s p := by
  have h0 : pl s 0 := ⟨hs, by omega, by omega⟩
  obtain ⟨r1, p1, n1, a1, b1, q1⟩ := next_f h0 4 (by omega) (by omega)
  obtain ⟨r2, p2, n2, a2, b2, q2⟩ := next_f q1 4 (by omega) (by omega)
  obtain ⟨r3, p3, n3, a3, b3, q3⟩ := next_f q2 4 (by omega) (by omega)
  obtain ⟨r4, p4, n4, a4, b4, q4⟩ := next_f q3 4 (by omega) (by omega)
  obtain ⟨r5, p5, n5, a5, b5, q5⟩ := next_f q4 8 (by omega) (by omega)
  obtain ⟨r6, p6, n6, a6, b6, q6⟩ := next_f q5 4 (by omega) (by omega)
  obtain ⟨r7, p7, n7, a7, b7, q7⟩ := next_f q6 3 (by omega) (by omega)
  obtain ⟨r8, p8, n8, a8, b8, q8⟩ := next_f q7 4 (by omega) (by omega)
  refine ⟨[⟨⟨#[97]⟩, 1, 1, r1⟩, ⟨⟨#[98]⟩, 1, 1, r2⟩, ⟨⟨#[99]⟩, 1, 1, r3⟩, ⟨⟨#[100]⟩, 1, 1, r4⟩, ⟨⟨#[112]⟩, 2, 1 + r5, r6⟩, ⟨⟨#[113]⟩, 2, 1 + r7, r8⟩], p8, ?_, ⟨rfl, ?_⟩, q8⟩
  · have t1 : ∀ k, clusterlocksmill_Catalog.l0 (k + 1) ([] : List S59) [(⟨#[97]⟩ : ByteArray), (⟨#[98]⟩ : ByteArray), (⟨#[99]⟩ : ByteArray), (⟨#[100]⟩ : ByteArray)] 0 s 0 = clusterlocksmill_Catalog.l0 k ([⟨⟨#[97]⟩, 1, 1, r1⟩] : List S59) [(⟨#[97]⟩ : ByteArray), (⟨#[98]⟩ : ByteArray), (⟨#[99]⟩ : ByteArray), (⟨#[100]⟩ : ByteArray)] 1 s p1 := fun k => by
      simp only [clusterlocksmill_Catalog.l0]
      rw [if_pos (by decide), if_pos (by decide), n1]
      simp only [Option.bind_some]
      rw [if_pos (by simp), w64_id (by omega) (by omega)]
      rfl
    have t2 : ∀ k, clusterlocksmill_Catalog.l0 (k + 1) ([⟨⟨#[97]⟩, 1, 1, r1⟩] : List S59) [(⟨#[97]⟩ : ByteArray), (⟨#[98]⟩ : ByteArray), (⟨#[99]⟩ : ByteArray), (⟨#[100]⟩ : ByteArray)] 1 s p1 = clusterlocksmill_Catalog.l0 k ([⟨⟨#[97]⟩, 1, 1, r1⟩, ⟨⟨#[98]⟩, 1, 1, r2⟩] : List S59) [(⟨#[97]⟩ : ByteArray), (⟨#[98]⟩ : ByteArray), (⟨#[99]⟩ : ByteArray), (⟨#[100]⟩ : ByteArray)] 2 s p2 := fun k => by
      simp only [clusterlocksmill_Catalog.l0]
      rw [if_pos (by decide), if_pos (by decide), n2]
      simp only [Option.bind_some]
      rw [if_pos (by simp), w64_id (by omega) (by omega)]
      rfl
    have t3 : ∀ k, clusterlocksmill_Catalog.l0 (k + 1) ([⟨⟨#[97]⟩, 1, 1, r1⟩, ⟨⟨#[98]⟩, 1, 1, r2⟩] : List S59) [(⟨#[97]⟩ : ByteArray), (⟨#[98]⟩ : ByteArray), (⟨#[99]⟩ : ByteArray), (⟨#[100]⟩ : ByteArray)] 2 s p2 = clusterlocksmill_Catalog.l0 k ([⟨⟨#[97]⟩, 1, 1, r1⟩, ⟨⟨#[98]⟩, 1, 1, r2⟩, ⟨⟨#[99]⟩, 1, 1, r3⟩] : List S59) [(⟨#[97]⟩ : ByteArray), (⟨#[98]⟩ : ByteArray), (⟨#[99]⟩ : ByteArray), (⟨#[100]⟩ : ByteArray)] 3 s p3 := fun k => by
      simp only [clusterlocksmill_Catalog.l0]
      rw [if_pos (by decide), if_pos (by decide), n3]
      simp only [Option.bind_some]
      rw [if_pos (by simp), w64_id (by omega) (by omega)]
      rfl
    have t4 : ∀ k, clusterlocksmill_Catalog.l0 (k + 1) ([⟨⟨#[97]⟩, 1, 1, r1⟩, ⟨⟨#[98]⟩, 1, 1, r2⟩, ⟨⟨#[99]⟩, 1, 1, r3⟩] : List S59) [(⟨#[97]⟩ : ByteArray), (⟨#[98]⟩ : ByteArray), (⟨#[99]⟩ : ByteArray), (⟨#[100]⟩ : ByteArray)] 3 s p3 = clusterlocksmill_Catalog.l0 k ([⟨⟨#[97]⟩, 1, 1, r1⟩, ⟨⟨#[98]⟩, 1, 1, r2⟩, ⟨⟨#[99]⟩, 1, 1, r3⟩, ⟨⟨#[100]⟩, 1, 1, r4⟩] : List S59) [(⟨#[97]⟩ : ByteArray), (⟨#[98]⟩ : ByteArray), (⟨#[99]⟩ : ByteArray), (⟨#[100]⟩ : ByteArray)] 4 s p4 := fun k => by
      simp only [clusterlocksmill_Catalog.l0]
      rw [if_pos (by decide), if_pos (by decide), n4]
      simp only [Option.bind_some]
      rw [if_pos (by simp), w64_id (by omega) (by omega)]
      rfl
    refine Al.succ (Al.succ (Al.succ (Al.succ (Al.succV fun k => ?_) t4) t3) t2) t1
    show clusterlocksmill_Catalog.l0 (k + 1) ([⟨⟨#[97]⟩, 1, 1, r1⟩, ⟨⟨#[98]⟩, 1, 1, r2⟩, ⟨⟨#[99]⟩, 1, 1, r3⟩, ⟨⟨#[100]⟩, 1, 1, r4⟩] : List S59) [(⟨#[97]⟩ : ByteArray), (⟨#[98]⟩ : ByteArray), (⟨#[99]⟩ : ByteArray), (⟨#[100]⟩ : ByteArray)] 4 s p4 = _
    simp only [clusterlocksmill_Catalog.l0]
    rw [if_neg (by decide), n5]
    simp only [Option.bind_some]
    rw [n6]
    simp only [Option.bind_some]
    rw [if_pos (by simp)]
    rw [n7]
    simp only [Option.bind_some]
    rw [n8]
    simp only [Option.bind_some]
    rw [if_pos (by simp), w64_id (n := 1 + r5) (by omega) (by omega), w64_id (n := 1 + r7) (by omega) (by omega)]
    rfl
  · intro x hx
    simp only [List.mem_cons, List.not_mem_nil, or_false] at hx
    rcases hx with rfl | rfl | rfl | rfl | rfl | rfl
    · exact ⟨(show vname (⟨#[97]⟩ : ByteArray) = true by decide +kernel), .inl ⟨rfl, rfl⟩, a1, by show r1 ≤ 3; omega⟩
    · exact ⟨(show vname (⟨#[98]⟩ : ByteArray) = true by decide +kernel), .inl ⟨rfl, rfl⟩, a2, by show r2 ≤ 3; omega⟩
    · exact ⟨(show vname (⟨#[99]⟩ : ByteArray) = true by decide +kernel), .inl ⟨rfl, rfl⟩, a3, by show r3 ≤ 3; omega⟩
    · exact ⟨(show vname (⟨#[100]⟩ : ByteArray) = true by decide +kernel), .inl ⟨rfl, rfl⟩, a4, by show r4 ≤ 3; omega⟩
    · exact ⟨(show vname (⟨#[112]⟩ : ByteArray) = true by decide +kernel), .inr ⟨rfl, by show 1 ≤ 1 + r5; omega, by show 1 + r5 ≤ 8; omega⟩, a6, by show r6 ≤ 3; omega⟩
    · exact ⟨(show vname (⟨#[113]⟩ : ByteArray) = true by decide +kernel), .inr ⟨rfl, by show 1 ≤ 1 + r7; omega, by show 1 + r7 ≤ 8; omega⟩, a8, by show r8 ≤ 3; omega⟩
/-- An atom that fits a resource. -/
def fitA (x : S59) (a : S25) : Prop := a.f0 = x.f0 ∧ (x.f1 = 1 → a.f1.f1 = 0 ∧ 1 ≤ a.f1.f0 ∧ a.f1.f0 ≤ 5) ∧ (x.f1 = 2 → a.f1.f0 = 0 ∧ 1 ≤ a.f1.f1 ∧ a.f1.f1 ≤ x.f2)
/-- Atoms as the mill makes them over a catalog. -/
def okA (c : List S59) (A : List S25) : Prop := A.map (·.f0) = c.map (·.f0) ∧ ∀ a ∈ A, leaf a = true ∧ ∃ x ∈ c, fitA x a
/-- What the mill makes, d levels deep. -/
def sub (A : List S25) : Nat → S28 → Prop
  | 0, e => e.f0 = 0 ∧ e.f1 ∈ A ∧ e.f2 = []
  | d + 1, e => (e.f0 = 0 ∧ e.f1 ∈ A ∧ e.f2 = []) ∨ (1 ≤ e.f0 ∧ e.f0 ≤ e.f2.length ∧ e.f2.length ≤ 3 ∧ odd e.f1 = false ∧ ∀ x ∈ e.f2, sub A d x)
theorem sub_leaf {A : List S25} {e : S28} (h : e.f0 = 0 ∧ e.f1 ∈ A ∧ e.f2 = []) : ∀ d, sub A d e
  | 0 => h
  | d + 1 => .inl h
def gtup (e : S28) (p : Int) : Int × ByteArray × Int × Int × List S28 × Int := (e.f0, e.f1.f0, e.f1.f1.f0, e.f1.f1.f1, e.f2, p)
theorem pick (s : List Int) (A : List S25) (hA : 1 ≤ A.length) (hA2 : A.length ≤ 100) (d p : Int) (hp : pl s p) : ∃ e p', Al (fun k => clusterlocksmill_group.j0 k A d true s p) (gtup e p') ∧ (e.f0 = 0 ∧ e.f1 ∈ A ∧ e.f2 = []) ∧ pl s p' := by
  obtain ⟨r, p', hn, h1, h2, h3⟩ := next_f hp (A.length : Int) (by omega) (by omega)
  refine ⟨⟨0, rd_T25 A r, []⟩, p', Al.succV fun k => ?_, ⟨rfl, ?_, rfl⟩, h3⟩
  · simp only [clusterlocksmill_group.j0]
    rw [if_pos trivial, hn]
    simp only [Option.bind_some]
    rw [if_pos h1, if_pos h2]
    rfl
  · obtain ⟨n, rfl⟩ := Int.eq_ofNat_of_zero_le h1
    show rd_T25 A (n : Int) ∈ A
    rw [rd25' (by omega)]
    exact List.getElem_mem _
theorem group_all (s : List Int) (A : List S25) (hA : 1 ≤ A.length) (hA2 : A.length ≤ 100) : ∀ d : Nat, d ≤ 2 → ∀ p, pl s p → ∃ e p', Al (fun k => clusterlocksmill_group.f k s p A (d : Int)) (gtup e p') ∧ sub A d e ∧ pl s p'
  | 0, _, p, hp => by
    obtain ⟨e, p', h1, h2, h3⟩ := pick s A hA hA2 0 p hp
    refine ⟨e, p', Al.succ h1 fun k => ?_, h2, h3⟩
    simp only [clusterlocksmill_group.f]
    rw [if_pos (by rfl)]
    rfl
  | d + 1, hd, p, hp => by
    have ih := group_all s A hA hA2 d (by omega)
    obtain ⟨r, p1, hn, r1, r2, q1⟩ := next_f hp 4 (by omega) (by omega)
    have e0 : ∀ k, clusterlocksmill_group.f (k + 1) s p A ((d + 1 : Nat) : Int) = clusterlocksmill_group.j0 k A ((d + 1 : Nat) : Int) (r == 0) s p1 := fun k => by
      simp only [clusterlocksmill_group.f]
      rw [if_neg (by omega), hn]
      rfl
    by_cases hr : r = 0
    · obtain ⟨e, p', h1, h2, h3⟩ := pick s A hA hA2 ((d + 1 : Nat) : Int) p1 q1
      exact ⟨e, p', Al.succ h1 fun k => by rw [e0, hr]; rfl, .inl h2, h3⟩
    · obtain ⟨n, p2, hn2, n1, n2, q2⟩ := next_f q1 3 (by omega) (by omega)
      obtain ⟨K, p3, hn3, k1, k2, q3⟩ := next_f q2 (1 + n) (by omega) (by omega)
      have loop : ∀ (m : Nat) (i : Nat) (kids : List S28) (q : Int), (i : Int) + m = 1 + n → kids.length = i → (∀ x ∈ kids, sub A d x) → pl s q → ∃ kids2 q2, Al (fun k => clusterlocksmill_group.l0 k A ((d + 1 : Nat) : Int) (1 + n) (i : Int) s q (1 + K) (⟨#[]⟩ : ByteArray) 0 0 kids) (1 + K, (⟨#[]⟩ : ByteArray), 0, 0, kids2, q2) ∧ (kids2.length : Int) = 1 + n ∧ (∀ x ∈ kids2, sub A d x) ∧ pl s q2 := by
        intro m
        induction m with
        | zero =>
          intro i kids q hi hk hs hq
          refine ⟨kids, q, Al.succV fun k => ?_, by omega, hs, hq⟩
          simp only [clusterlocksmill_group.l0]
          rw [if_neg (by omega)]
        | succ m im =>
          intro i kids q hi hk hs hq
          obtain ⟨e, q', hA', hse, hq'⟩ := ih q hq
          obtain ⟨kids2, q2, hB, hl2, hs2, hq2⟩ := im (i + 1) (kids ++ [e]) q' (by omega) (by simp [hk]) (fun x hx => by
            rcases List.mem_append.1 hx with h | h
            · exact hs x h
            · rw [List.mem_singleton] at h
              rw [h]
              exact hse) hq'
          refine ⟨kids2, q2, Al.succB (g := fun k => clusterlocksmill_group.f k s q A (d : Int)) (f := fun k bt335 => (if kids.length < 2199023255552 then (clusterlocksmill_group.l0 k A ((d + 1 : Nat) : Int) (1 + n) (i + 1 : Nat) s bt335.2.2.2.2.2 (1 + K) (⟨#[]⟩ : ByteArray) 0 0 (kids ++ [(⟨bt335.1, (⟨bt335.2.1, (⟨bt335.2.2.1, bt335.2.2.2.1⟩ : S23)⟩ : S25), bt335.2.2.2.2.1⟩ : S28)])) else (none))) (fun k => ?_) hA' (Al.congr hB fun k => ?_), hl2, hs2, hq2⟩
          · simp only [clusterlocksmill_group.l0]
            rw [if_pos (by omega), w64_id (n := ((d + 1 : Nat) : Int) - 1) (by omega) (by omega), w64_id (n := (i : Int) + 1) (by omega) (by omega), show ((d + 1 : Nat) : Int) - 1 = (d : Int) by omega]
            rfl
          · rw [if_pos (by omega)]
            obtain ⟨k0, ⟨nm0, ⟨m0, u0⟩⟩, ks0⟩ := e
            rfl
      obtain ⟨kids, p4, hL, hl, hs, q4⟩ := loop (1 + n).toNat 0 [] p3 (by omega) rfl (fun x hx => by cases hx) q3
      refine ⟨⟨1 + K, ⟨⟨#[]⟩, ⟨0, 0⟩⟩, kids⟩, p4, Al.succ (Al.succ (G := fun k => clusterlocksmill_group.j0 k A ((d + 1 : Nat) : Int) false s p1) hL fun k => ?_) fun k => ?_, .inr ⟨by show 1 ≤ 1 + K; omega, by show 1 + K ≤ (kids.length : Int); omega, by show kids.length ≤ 3; omega, (show odd (⟨⟨#[]⟩, ⟨0, 0⟩⟩ : S25) = false by decide +kernel), hs⟩, q4⟩
      · simp only [clusterlocksmill_group.j0]
        rw [if_neg (by decide), hn2]
        simp only [Option.bind_some]
        rw [w64_id (n := 1 + n) (by omega) (by omega), hn3]
        simp only [Option.bind_some]
        rw [w64_id (n := 1 + K) (by omega) (by omega)]
        rfl
      · rw [e0, beq_false_of_ne hr]
theorem u64_nn (n : Int) : 0 ≤ IntKind.u64.wrap n := by
  simp [IntKind.wrap, IntKind.bits, IntKind.signed]
  omega
theorem rd59 {xs : List S59} {i : Nat} {e : S59} (h : xs[i]? = some e) : rd_T59 xs (i : Int) = e := by
  show xs.getD _ z59 = e
  rw [Int.toNat_natCast, List.getD_eq_getElem?_getD, h]
  rfl
theorem expr_loop (s : List Int) (c : List S59) (hc : ∀ x ∈ c, okR x) (hc6 : c.length = 6) (v p : Int) (hp : pl s p) : ∀ (rest : List S59) (i : Nat) (acc : List S25), c.drop i = rest → acc.map (·.f0) = (c.take i).map (·.f0) → (∀ a ∈ acc, leaf a = true ∧ ∃ x ∈ c, fitA x a) → ∃ A e p', Al (fun k => clusterlocksmill_Expr.l0 k c v acc (i : Int) s p) (gtup e p') ∧ okA c A ∧ sub A 2 e ∧ pl s p'
  | [], i, acc, hi, hn, ha => by
    have hle := drop_nil_le hi
    have hl : acc.length = 6 := by
      have := congrArg List.length hn
      rw [List.length_map, List.length_map, List.length_take] at this
      omega
    obtain ⟨e, p', hA, hs, hq⟩ := group_all s acc (by omega) (by omega) 2 (Nat.le_refl _) p hp
    refine ⟨acc, e, p', Al.succB (g := fun k => clusterlocksmill_group.f k s p acc 2) (f := fun k bt356 => (some (bt356.1, bt356.2.1, bt356.2.2.1, bt356.2.2.2.1, bt356.2.2.2.2.1, bt356.2.2.2.2.2))) (fun k => ?_) hA (Al.val fun k => rfl), ⟨by rw [hn, List.take_of_length_le hle], ha⟩, hs, hq⟩
    simp only [clusterlocksmill_Expr.l0]
    rw [if_neg (by omega)]
  | x :: r, i, acc, hi, hn, ha => by
    obtain ⟨hlt, hat, hdr⟩ := drop_at hi
    have hx : x ∈ c := List.mem_of_getElem? hat
    obtain ⟨m, u, hm, hvu, f1, f2⟩ := amount_f x (hc x hx) (shr .i64 v (IntKind.u64.wrap (wrap64 (3 * (i : Int)))))
    have hal : acc.length ≤ 6 := by
      have := congrArg List.length hn
      rw [List.length_map, List.length_map, List.length_take] at this
      omega
    obtain ⟨A, e, p', hA, hok, hs, hq⟩ := expr_loop s c hc hc6 v p hp r (i + 1) (acc ++ [⟨x.f0, ⟨m, u⟩⟩]) hdr (by rw [List.map_append, hn, List.take_add_one, hat, List.map_append]; rfl) (fun a h => by
      rcases List.mem_append.1 h with h | h
      · exact ha a h
      · rw [List.mem_singleton] at h
        subst h
        refine ⟨?_, x, hx, rfl, f1, f2⟩
        show (vname x.f0 && VU m u) = true
        rw [(hc x hx).1, hvu]
        rfl)
    refine ⟨A, e, p', Al.succ hA fun k => ?_, hok, hs, hq⟩
    simp only [clusterlocksmill_Expr.l0]
    rw [if_pos (by omega), if_pos (by omega), if_pos (u64_nn _), rd59 hat, hm]
    simp only [Option.bind_some]
    rw [if_pos (by omega), w64_id (by omega) (by omega)]
    rfl
theorem expr_f (s : List Int) (c : List S59) (hc : okC c) (p : Int) (hp : pl s p) : ∃ A e p', Al (fun k => clusterlocksmill_Expr.f k s p c) (gtup e p') ∧ okA c A ∧ sub A 2 e ∧ pl s p' := by
  obtain ⟨v, p1, hn, _, _, q1⟩ := next_f hp 1048576 (by omega) (by omega)
  have h6 : c.length = 6 := by
    have := congrArg List.length hc.1
    rwa [List.length_map] at this
  obtain ⟨A, e, p', hA, h1, h2, h3⟩ := expr_loop s c hc.2 h6 v p1 q1 c 0 [] rfl rfl (fun a h => by cases h)
  refine ⟨A, e, p', Al.congr hA fun k => ?_, h1, h2, h3⟩
  unfold clusterlocksmill_Expr.f
  rw [hn]
  rfl
/-! Such expressions are valid. -/
def bnd : Nat → Nat
  | 0 => 1
  | d + 1 => 3 * bnd d + 1
theorem bnd_pos : ∀ d, 1 ≤ bnd d
  | 0 => Nat.le_refl _
  | d + 1 => Nat.le_add_left _ _
theorem sub_size (A : List S25) : ∀ (d : Nat) (e : S28), sub A d e → dep e ≤ d + 1 ∧ nodes e ≤ bnd d
  | 0, ⟨k, a, l⟩, h => by
    obtain ⟨_, _, hl⟩ := h
    have hl : l = [] := hl
    subst hl
    exact ⟨by simp [dep, depL], by simp [nodes, nodesL, bnd]⟩
  | d + 1, ⟨k, a, l⟩, h => by
    rcases h with ⟨_, _, hl⟩ | ⟨_, _, h3, _, hs⟩
    · have hl : l = [] := hl
      subst hl
      exact ⟨by simp [dep, depL], by have := bnd_pos (d + 1); simpa [nodes, nodesL] using this⟩
    · have h3 : l.length ≤ 3 := h3
      have hs : ∀ x ∈ l, sub A d x := hs
      have key : ∀ l : List S28, (∀ x ∈ l, sub A d x) → depL l ≤ d + 1 ∧ nodesL l ≤ l.length * bnd d := by
        intro l
        induction l with
        | nil => exact fun _ => ⟨by simp [depL], by simp [nodesL]⟩
        | cons x r ih =>
          intro h
          obtain ⟨i1, i2⟩ := ih (fun y hy => h y (List.mem_cons_of_mem _ hy))
          obtain ⟨j1, j2⟩ := sub_size A d x (h x List.mem_cons_self)
          refine ⟨by simp only [depL]; omega, ?_⟩
          simp only [nodesL, List.length_cons, Nat.add_mul, Nat.one_mul]
          omega
      obtain ⟨k1, k2⟩ := key l hs
      refine ⟨by simp only [dep]; omega, ?_⟩
      have k3 : nodesL l ≤ 3 * bnd d := Nat.le_trans k2 (Nat.mul_le_mul_right _ h3)
      simp only [nodes, bnd]
      omega
theorem names_apart {c : List S59} {A : List S25} (hc : okC c) (hA : okA c A) : A.Pairwise apart := by
  have h : (A.map (·.f0)).Pairwise (fun n m => (n.toList == m.toList) = false) := by
    rw [hA.1, hc.1]
    decide +kernel
  exact (List.pairwise_map (f := fun a : S25 => a.f0) (R := fun n m : ByteArray => (n.toList == m.toList) = false)).1 h
theorem same_mem : ∀ {A : List S25}, A.Pairwise apart → ∀ {a b : S25}, a ∈ A → b ∈ A → sameN b a = true → b = a
  | [], _, _, _, ha, _, _ => by cases ha
  | c :: r, h, a, b, ha, hb, hs => by
    rw [List.pairwise_cons] at h
    rcases List.mem_cons.1 ha with ha2 | ha2
    · rcases List.mem_cons.1 hb with hb2 | hb2
      · rw [ha2, hb2]
      · have := apart_symm (h.1 b hb2)
        unfold apart at this
        rw [← ha2, hs] at this
        cases this
    · rcases List.mem_cons.1 hb with hb2 | hb2
      · have := h.1 a ha2
        unfold apart at this
        rw [← hb2, hs] at this
        cases this
      · exact same_mem h.2 ha2 hb2 hs
theorem one_same {y : List S25} {a : S25} (h : y.Pairwise apart) : (y.filter (fun b => sameN b a)).length ≤ 1 := by
  induction y with
  | nil => simp
  | cons b r ih =>
    rw [List.pairwise_cons] at h
    rw [List.filter_cons]
    split
    · rename_i hb
      have : r.filter (fun b => sameN b a) = [] := by
        rw [List.filter_eq_nil_iff]
        intro c hc hs
        have := h.1 c hc
        unfold apart at this
        rw [same_trans hb hs] at this
        cases this
      rw [this]
      simp
    · exact ih h.2
theorem pig : ∀ (A y : List S25), y.Pairwise apart → (∀ b ∈ y, b ∈ A) → y.length ≤ A.length
  | [], y, _, h => by
    cases y with
    | nil => exact Nat.le_refl _
    | cons b r => exact absurd (h b List.mem_cons_self) (by simp)
  | a :: A, y, hp, h => by
    have h1 := one_same (a := a) hp
    have h2 := pig A (y.filter (fun b => !sameN b a)) (List.Pairwise.filter _ hp) (fun b hb => by
      rw [List.mem_filter] at hb
      rcases List.mem_cons.1 (h b hb.1) with rfl | hm
      · have := hb.2
        simp [sameN] at this
      · exact hm)
    have h3 : y.length = (y.filter (fun b => sameN b a)).length + (y.filter (fun b => !sameN b a)).length := by
      clear h1 h2 hp h
      induction y with
      | nil => rfl
      | cons b r ih =>
        rw [List.filter_cons, List.filter_cons]
        cases sameN b a
        · simp only [Bool.not_false, if_true, Bool.false_eq_true, if_false, List.length_cons]
          omega
        · simp only [Bool.not_true, if_true, Bool.false_eq_true, if_false, List.length_cons]
          omega
    rw [List.length_cons]
    omega
theorem sub_gth (A : List S25) (hA : A.Pairwise apart) (hl : ∀ a ∈ A, leaf a = true) (h8 : A.length ≤ 8) : ∀ (d : Nat) (e : S28), sub A d e → ∀ y : List S25, y.Pairwise apart → (∀ b ∈ y, b ∈ A) → (gth e y).1 = true ∧ (gth e y).2.Pairwise apart ∧ (∀ b ∈ (gth e y).2, b ∈ A) := by
  have hleaf : ∀ e : S28, (e.f0 = 0 ∧ e.f1 ∈ A ∧ e.f2 = []) → ∀ y : List S25, y.Pairwise apart → (∀ b ∈ y, b ∈ A) → (gth e y).1 = true ∧ (gth e y).2.Pairwise apart ∧ (∀ b ∈ (gth e y).2, b ∈ A) := by
    intro ⟨k, a, l⟩ ⟨hk, ha, hl0⟩ y hy hs
    have hk : k = 0 := hk
    have hl0 : l = [] := hl0
    have ha : a ∈ A := ha
    subst hk; subst hl0
    have e1 : gth ⟨0, a, []⟩ y = (match y.find? (fun b => sameN b a) with | some b => (eqA b a, y) | none => (decide (y.length + 1 ≤ 8), y ++ [a])) := by
      simp only [gth]
      rw [if_pos trivial, if_neg (by simp), if_pos (hl a ha)]
      cases y.find? (fun b => sameN b a) <;> rfl
    rw [e1]
    cases hq : y.find? (fun b => sameN b a) with
    | some b =>
      have hb : sameN b a = true := List.find?_some (p := fun b => sameN b a) hq
      have e2 := same_mem hA ha (hs b (List.mem_of_find?_eq_some hq)) hb
      subst e2
      exact ⟨by simp [eqA], hy, hs⟩
    | none =>
      have hp : (y ++ [a]).Pairwise apart := by
        refine List.pairwise_append.2 ⟨hy, List.pairwise_singleton _ _, fun b hb c hc => ?_⟩
        rw [List.mem_singleton] at hc
        subst hc
        rw [List.find?_eq_none] at hq
        exact Bool.eq_false_iff.mpr (hq b hb)
      have hm : ∀ b ∈ y ++ [a], b ∈ A := fun b hb => by
        rcases List.mem_append.1 hb with h | h
        · exact hs b h
        · rw [List.mem_singleton] at h
          rw [h]
          exact ha
      have := pig A _ hp hm
      rw [List.length_append, List.length_singleton] at this
      exact ⟨decide_eq_true (by omega), hp, hm⟩
  intro d
  induction d with
  | zero => exact fun e h => hleaf e h
  | succ d ih =>
    intro e h
    rcases h with h | ⟨h1, h2, h3, h4, hs⟩
    · exact hleaf e h
    · obtain ⟨k, a, l⟩ := e
      intro y hy hm
      have h1 : 1 ≤ k := h1
      have h2 : k ≤ (l.length : Int) := h2
      have h4 : odd a = false := h4
      have hs : ∀ x ∈ l, sub A d x := hs
      have e1 : gth ⟨k, a, l⟩ y = gthL l y := by
        simp only [gth]
        rw [if_neg (by omega), if_neg (fun q => by rcases q with q | q | q; omega; omega; rw [h4] at q; cases q)]
      rw [e1]
      have key : ∀ l : List S28, (∀ x ∈ l, sub A d x) → ∀ y : List S25, y.Pairwise apart → (∀ b ∈ y, b ∈ A) → (gthL l y).1 = true ∧ (gthL l y).2.Pairwise apart ∧ (∀ b ∈ (gthL l y).2, b ∈ A) := by
        intro l
        induction l with
        | nil => exact fun _ y hy hm => ⟨rfl, hy, hm⟩
        | cons x r ihr =>
          intro hs y hy hm
          obtain ⟨g1, g2, g3⟩ := ih x (hs x List.mem_cons_self) y hy hm
          have e2 : gthL (x :: r) y = gthL r (gth x y).2 := by simp only [gthL]; rw [if_pos g1]
          rw [e2]
          exact ihr (fun z hz => hs z (List.mem_cons_of_mem _ hz)) _ g2 g3
      exact key l hs y hy hm
theorem sub_valid {c : List S59} {A : List S25} {e : S28} (hc : okC c) (hA : okA c A) (h : sub A 2 e) : valid e ∧ (∀ b ∈ ats e, b ∈ A) := by
  have h6 : A.length = 6 := by
    have := congrArg List.length hA.1
    rw [List.length_map, List.length_map] at this
    have h2 := congrArg List.length hc.1
    rw [List.length_map] at h2
    exact this.trans h2
  obtain ⟨g1, g2, g3⟩ := sub_gth A (names_apart hc hA) (fun a ha => (hA.2 a ha).1) (by omega) 2 e h [] List.Pairwise.nil (fun b hb => by cases hb)
  obtain ⟨s1, s2⟩ := sub_size A 2 e h
  have hv : valid e := ⟨⟨by omega, by have : bnd 2 = 13 := rfl; omega⟩, g1⟩
  refine ⟨hv, ?_⟩
  unfold ats
  rw [if_pos hv]
  exact g3
/-! It holds for all its atoms, and for none at all it doesn't. -/
theorem lk_all : ∀ (x : List S25) (a : S25), x.any (fun b => eqA b a) = true → lk x (List.replicate x.length true) a = true
  | [], a, h => by cases h
  | b :: r, a, h => by
    simp only [lk]
    split
    · rfl
    · rename_i hb
      rw [List.any_cons, Bool.eq_false_iff.mpr hb, Bool.false_or] at h
      exact lk_all r a h
theorem lk_nil : ∀ (x : List S25) (a : S25), lk x [] a = false
  | [], a => rfl
  | b :: r, a => by
    simp only [lk]
    split
    · rfl
    · exact lk_nil r a
def TP (e : S28) : Prop := ∀ y, (gth e y).1 = true → (∃ t, (gth e y).2 = y ++ t) ∧ (∀ t, hv e ((gth e y).2 ++ t) (List.replicate ((gth e y).2 ++ t).length true) = true) ∧ (∀ x, hv e x [] = false)
def TQ (l : List S28) : Prop := ∀ y, (gthL l y).1 = true → (∃ t, (gthL l y).2 = y ++ t) ∧ (∀ t, hvL l ((gthL l y).2 ++ t) (List.replicate ((gthL l y).2 ++ t).length true) = l.length) ∧ (∀ x, hvL l x [] = 0)
theorem all_all : (∀ e, TP e) ∧ (∀ l, TQ l) := by
  refine ind ?_ ?_ ?_
  · intro k a l hl y h
    by_cases h0 : k = 0
    · subst h0
      have hn : ∀ x, hv ⟨0, a, l⟩ x [] = false := fun x => by simp [hv, lk_nil]
      have ha : ∀ x s, hv ⟨0, a, l⟩ x s = lk x s a := fun x s => by simp [hv]
      simp only [gth, if_pos trivial] at h ⊢
      split at h
      · cases h
      · rename_i h1
        rw [if_neg h1]
        split at h
        · rename_i h2
          rw [if_pos h2]
          cases hq : y.find? (fun b => sameN b a) with
          | some b =>
            rw [hq] at h
            refine ⟨⟨[], by simp⟩, fun t => ?_, hn⟩
            rw [ha]
            refine lk_all _ a ?_
            dsimp only
            rw [List.any_append, List.any_eq_true.2 ⟨b, List.mem_of_find?_eq_some hq, h⟩, Bool.true_or]
          | none =>
            refine ⟨⟨[a], rfl⟩, fun t => ?_, hn⟩
            rw [ha]
            refine lk_all _ a ?_
            dsimp only
            rw [List.any_append, List.any_append]
            simp [eqA]
        · cases h
    · by_cases hb : k < 1 ∨ k > (l.length : Int) ∨ odd a = true
      · have e1 : gth ⟨k, a, l⟩ y = (false, y) := by simp only [gth]; rw [if_neg h0, if_pos hb]
        rw [e1] at h
        cases h
      · have e1 : gth ⟨k, a, l⟩ y = gthL l y := by simp only [gth]; rw [if_neg h0, if_neg hb]
        rw [e1] at h ⊢
        obtain ⟨t1, t2, t3⟩ := hl y h
        refine ⟨t1, fun t => ?_, fun x => ?_⟩
        · simp only [hv]
          rw [if_neg h0, t2]
          exact decide_eq_true (by
            have : ¬ k > (l.length : Int) := fun q => hb (.inr (.inl q))
            omega)
        · simp only [hv]
          rw [if_neg h0, t3]
          exact decide_eq_false (by
            have : ¬ k < 1 := fun q => hb (.inl q)
            omega)
  · intro y _
    exact ⟨⟨[], by simp [gthL]⟩, fun t => by simp [hvL], fun x => by simp [hvL]⟩
  · intro e r he hr y h
    by_cases hg : (gth e y).1 = true
    · have e2 : gthL (e :: r) y = gthL r (gth e y).2 := by simp only [gthL]; rw [if_pos hg]
      rw [e2] at h ⊢
      obtain ⟨⟨t1, e1⟩, a1, n1⟩ := he y hg
      obtain ⟨⟨t2, e3⟩, a2, n2⟩ := hr _ h
      refine ⟨⟨t1 ++ t2, by rw [e3, e1, List.append_assoc]⟩, fun t => ?_, fun x => ?_⟩
      · simp only [hvL]
        rw [a2 t]
        have := a1 (t2 ++ t)
        rw [← List.append_assoc, ← e3] at this
        rw [if_pos this, List.length_cons]
        omega
      · simp only [hvL]
        rw [n1 x, n2 x]
        rfl
    · have e2 : gthL (e :: r) y = (false, (gth e y).2) := by simp only [gthL]; rw [if_neg hg]
      rw [e2] at h
      cases h
theorem holds_ends {e : S28} (h : valid e) : hd e (List.replicate (ats e).length true) = true ∧ hd e [] = false := by
  obtain ⟨_, t2, t3⟩ := all_all.1 e [] h.2
  have e0 : ats e = (gth e []).2 := by unfold ats; rw [if_pos h]
  have := t2 []
  rw [List.append_nil, ← e0] at this
  unfold hd
  rw [decide_eq_true h, this, t3]
  exact ⟨rfl, rfl⟩
end Go.Proofs.Ytefbcebpokoinaa.Pm
