import Derived.Test.YtefbcebpokoinaaPa
import Derived.Test.YtefbcebpokoinaaY2
import Derived.Test.YtefbcebpokoinaaY5
namespace Go.Proofs.Ytefbcebpokoinaa.Ps
open Go.RowKit Go.Proofs.Ytefbcebpokoinaa.Y Go.Proofs.Ytefbcebpokoinaa.Pa Go.Proofs.YtefbcebpokoinaaW.PrintWords Go.Proofs.YtefbcebpokoinaaW.PrintLast Go.Proofs.YtefbcebpokoinaaW.PrintMore
set_option linter.unusedVariables false
set_option linter.unusedSimpArgs false
/-! The nodes of an expression: the program and the reference count alike. -/
theorem ind {P : S28 → Prop} {Q : List S28 → Prop} (h1 : ∀ k a l, Q l → P ⟨k, a, l⟩) (h2 : Q []) (h3 : ∀ e r, P e → Q r → Q (e :: r)) : (∀ e, P e) ∧ (∀ l, Q l) := by
  have hP : ∀ e, P e := fun e => S28.rec (motive_1 := P) (motive_2 := Q) (fun k a l hl => h1 k a l hl) h2 (fun e r he hr => h3 e r he hr) e
  refine ⟨hP, fun l => ?_⟩
  induction l with
  | nil => exact h2
  | cons e r ih => exact h3 e r (hP e) ih
mutual
def nodes : S28 → Nat
  | ⟨_, _, l⟩ => nodesL l + 1
def nodesL : List S28 → Nat
  | [] => 0
  | e :: r => nodes e + nodesL r
end
mutual
def dep : S28 → Nat
  | ⟨_, _, l⟩ => depL l + 1
def depL : List S28 → Nat
  | [] => 0
  | e :: r => max (dep e) (depL r)
end
theorem nodes_pos (e : S28) : 1 ≤ nodes e := by cases e; simp [nodes]
theorem nodes_eq (e : S28) : nodes e = nodesL e.f2 + 1 := by cases e; simp [nodes]
theorem len_nodes : ∀ l : List S28, l.length ≤ nodesL l
  | [] => by simp [nodesL]
  | e :: r => by
    have := nodes_pos e
    have := len_nodes r
    simp only [nodesL, List.length_cons]
    omega
theorem dep_pos (e : S28) : 1 ≤ dep e := by cases e; simp [dep]
theorem drop_at {α : Type} {xs : List α} {i : Nat} {e : α} {r : List α} (h : xs.drop i = e :: r) : i < xs.length ∧ xs[i]? = some e ∧ xs.drop (i + 1) = r := by
  have hl : i < xs.length := by
    by_cases hl : i < xs.length
    · exact hl
    · rw [List.drop_eq_nil_of_le (by omega)] at h
      cases h
  rw [List.drop_eq_getElem_cons hl] at h
  injection h with h1 h2
  exact ⟨hl, by rw [List.getElem?_eq_getElem hl, h1], h2⟩
theorem rd28 {xs : List S28} {i : Nat} {e : S28} (h : xs[i]? = some e) : rd_T28 xs (i : Int) = e := by
  show xs.getD _ z28 = e
  rw [Int.toNat_natCast, List.getD_eq_getElem?_getD, h]
  rfl
theorem drop_nil_le {α : Type} {xs : List α} {i : Nat} (h : xs.drop i = []) : xs.length ≤ i := List.drop_eq_nil_iff.mp h
def sf (k : Nat) (e : S28) (d s : Int) : Option (Int × Bool × Int) := request_size.f k e.f0 e.f1.f0 e.f1.f1.f0 e.f1.f1.f1 e.f2 d s
def SP (e : S28) : Prop := ∀ d s : Int, 1 ≤ d → d ≤ 5 → 0 ≤ s → s ≤ 24 → ∃ m s', Al (fun k => sf k e d s) (m, decide (d + dep e ≤ 5 ∧ s + nodes e ≤ 24), s') ∧ (d + dep e ≤ 5 ∧ s + nodes e ≤ 24 → s' = s + nodes e)
def SQ (l : List S28) : Prop := ∀ (xs : List S28) (i : Nat), xs.drop i = l → ∀ d m s : Int, 1 ≤ d → d ≤ 4 → (i : Int) ≤ s → s ≤ 24 → ∃ m' s', Al (fun k => request_size.l0 k d m xs (xs.length : Int) (i : Int) s) (m', decide (d + 1 + depL l ≤ 5 ∧ s + nodesL l ≤ 24), s') ∧ (d + 1 + depL l ≤ 5 ∧ s + nodesL l ≤ 24 → s' = s + nodesL l)
theorem size_all : (∀ e, SP e) ∧ (∀ l, SQ l) := by
  refine ind ?_ ?_ ?_
  · intro a0 at0 l hl d s h1 h5 h0 h24
    by_cases hd : d > 4
    · refine ⟨0, wrap64 (s + 1), ?_, fun h => absurd h.1 (by have := dep_pos ⟨a0, at0, l⟩; omega)⟩
      refine Al.succ (Al.succV (G := fun k => request_size.j0 k d true (wrap64 (s + 1)) a0 at0.f0 at0.f1.f0 at0.f1.f1 l) fun k => ?_) (fun k => ?_)
      · simp only [request_size.j0]
        rw [if_pos trivial, decide_eq_false (by have := dep_pos ⟨a0, at0, l⟩; omega)]
      · simp only [sf, request_size.f]
        rw [if_pos hd]
    · by_cases hs : s + 1 > 24
      · refine ⟨0, wrap64 (s + 1), ?_, fun h => absurd h.2 (by have := nodes_pos ⟨a0, at0, l⟩; omega)⟩
        refine Al.succ (Al.succV (G := fun k => request_size.j0 k d true (wrap64 (s + 1)) a0 at0.f0 at0.f1.f0 at0.f1.f1 l) fun k => ?_) (fun k => ?_)
        · simp only [request_size.j0]
          rw [if_pos trivial, decide_eq_false (by have := nodes_pos ⟨a0, at0, l⟩; omega)]
        · simp only [sf, request_size.f]
          rw [if_neg hd, w64_id (by omega) (by omega), decide_eq_true hs]
      · obtain ⟨m, s', hA, hs'⟩ := hl l 0 rfl d 0 (s + 1) h1 (by omega) (by omega) (by omega)
        have hf : (d + dep ⟨a0, at0, l⟩ ≤ 5 ∧ s + nodes ⟨a0, at0, l⟩ ≤ 24) ↔ (d + 1 + depL l ≤ 5 ∧ s + 1 + nodesL l ≤ 24) := by
          simp only [dep, nodes]
          constructor <;> rintro ⟨_, _⟩ <;> constructor <;> omega
        refine ⟨m, s', ?_, fun h => ?_⟩
        · refine Al.succ (Al.succ (G := fun k => request_size.j0 k d false (wrap64 (s + 1)) a0 at0.f0 at0.f1.f0 at0.f1.f1 l) (Al.eq hA (by rw [decide_eq_decide.mpr hf])) fun k => ?_) (fun k => ?_)
          · simp only [request_size.j0]
            rw [if_neg (by decide), w64_id (by omega) (by omega)]
            rfl
          · simp only [sf, request_size.f]
            rw [if_neg hd, w64_id (by omega) (by omega), decide_eq_false hs]
        · rw [hs' (hf.mp h)]
          simp only [nodes]
          omega
  · intro xs i hi d m s h1 h4 his h24
    have := drop_nil_le hi
    refine ⟨wrap64 (m + 1), s, Al.succV fun k => ?_, fun _ => by simp [nodesL]⟩
    simp only [request_size.l0]
    rw [if_neg (by omega), decide_eq_true (by simp only [depL, nodesL]; omega)]
  · intro e r he hr xs i hi d m s h1 h4 his h24
    obtain ⟨hlt, hat, hdr⟩ := drop_at hi
    obtain ⟨dd, s1, hA, hs1⟩ := he (d + 1) s (by omega) (by omega) (by omega) h24
    have step : ∀ k, request_size.l0 (k + 1) d m xs (xs.length : Int) (i : Int) s = (sf k e (d + 1) s).bind fun t => if t.2.1 = true then request_size.l0 k d (mx m t.1) xs (xs.length : Int) (i + 1 : Nat) t.2.2 else some (0, false, t.2.2) := fun k => by
      simp only [request_size.l0]
      rw [if_pos (by omega), if_pos (by omega), if_pos (by omega), rd28 hat, w64_id (n := d + 1) (by omega) (by omega), w64_id (n := (i : Int) + 1) (by omega) (by omega)]
      rfl
    by_cases hf : d + 1 + dep e ≤ 5 ∧ s + nodes e ≤ 24
    · have e1 := hs1 hf
      have := nodes_pos e
      obtain ⟨m', s', hB, hs'⟩ := hr xs (i + 1) hdr d (mx m dd) s1 h1 h4 (by omega) (by omega)
      have hg : (d + 1 + depL (e :: r) ≤ 5 ∧ s + nodesL (e :: r) ≤ 24) ↔ (d + 1 + depL r ≤ 5 ∧ s1 + nodesL r ≤ 24) := by
        simp only [depL, nodesL]
        constructor <;> rintro ⟨_, _⟩ <;> constructor <;> omega
      refine ⟨m', s', Al.succB step hA ?_, fun h => ?_⟩
      · rw [decide_eq_true hf]
        exact Al.congr (Al.eq hB (by rw [decide_eq_decide.mpr hg])) (fun k => by simp)
      · rw [hs' (hg.mp h), e1]
        simp only [nodesL]
        omega
    · refine ⟨0, s1, Al.succB step hA ?_, fun h => absurd ⟨by have := h.1; simp only [depL] at this; omega, by have := h.2; simp only [nodesL] at this; omega⟩ hf⟩
      rw [decide_eq_false hf, decide_eq_false (p := d + 1 + depL (e :: r) ≤ 5 ∧ s + nodesL (e :: r) ≤ 24) (fun h => hf ⟨by have := h.1; simp only [depL] at this; omega, by have := h.2; simp only [nodesL] at this; omega⟩)]
      exact Al.val fun k => by simp
/-- What may be told at all: at most 24 nodes, at most 4 deep. -/
def fit (e : S28) : Prop := dep e ≤ 4 ∧ nodes e ≤ 24
instance (e : S28) : Decidable (fit e) := by unfold fit; infer_instance
def cnt (e : S28) : Int := if fit e then (nodes e : Int) else 0
theorem nodes1 (e : S28) : Al (fun k => request_Nodes.f k e.f0 e.f1.f0 e.f1.f1.f0 e.f1.f1.f1 e.f2) (cnt e) := by
  obtain ⟨m, s', hA, hs⟩ := size_all.1 e 1 0 (by omega) (by omega) (by omega) (by omega)
  have hf : (1 + (dep e : Int) ≤ 5 ∧ 0 + (nodes e : Int) ≤ 24) ↔ fit e := by unfold fit; omega
  refine Al.bindE (fun k => rfl) hA ?_
  unfold cnt
  by_cases h : fit e
  · rw [if_pos h]
    exact Al.val fun k => by
      dsimp only
      rw [decide_eq_true (hf.mpr h), if_pos rfl, hs (hf.mpr h)]
      simp
  · rw [if_neg h]
    exact Al.val fun k => by
      dsimp only
      rw [decide_eq_false (fun q => h (hf.mp q)), if_neg (by decide)]
def zf (k : Nat) (e : S28) (d : Int) : Option (Int × Int) := clusterlocksref07_Size.f k e.f0 e.f1.f0 e.f1.f1.f0 e.f1.f1.f1 e.f2 d
def ZP (e : S28) : Prop := ∀ d : Int, 1 ≤ d → d ≤ 5 → ∃ n m, Al (fun k => zf k e d) (n, m) ∧ (d + dep e ≤ 5 ∧ nodes e ≤ 24 → n = nodes e) ∧ (¬ (d + dep e ≤ 5 ∧ nodes e ≤ 24) → n = 25)
def ZQ (l : List S28) : Prop := ∀ (xs : List S28) (i : Nat), xs.drop i = l → ∀ (a0 : Int) (a1 : ByteArray) (a2 a3 d n m : Int), 1 ≤ d → d ≤ 4 → (i : Int) < n → n ≤ 24 → ∃ n' m', Al (fun k => clusterlocksref07_Size.l0 k d n m (i : Int) a0 a1 a2 a3 xs) (n', m') ∧ (d + 1 + depL l ≤ 5 ∧ n + nodesL l ≤ 24 → n' = n + nodesL l) ∧ (¬ (d + 1 + depL l ≤ 5 ∧ n + nodesL l ≤ 24) → n' = 25)
theorem rsize_all : (∀ e, ZP e) ∧ (∀ l, ZQ l) := by
  refine ind ?_ ?_ ?_
  · intro a0 at0 l hl d h1 h5
    by_cases hd : d > 4 ∨ (l.length : Int) > 24
    · have hn : ¬ (d + (dep ⟨a0, at0, l⟩ : Int) ≤ 5 ∧ (nodes ⟨a0, at0, l⟩ : Int) ≤ 24) := by
        have := dep_pos ⟨a0, at0, l⟩
        have := len_nodes l
        have e1 : nodes ⟨a0, at0, l⟩ = nodesL l + 1 := rfl
        omega
      have hn' : ¬ (d + (dep ⟨a0, at0, l⟩ : Int) ≤ 5 ∧ nodes ⟨a0, at0, l⟩ ≤ 24) := fun h => hn ⟨h.1, by have := h.2; omega⟩
      refine ⟨25, 0, ?_, fun h => absurd h hn', fun _ => rfl⟩
      refine Al.succ (Al.succV (G := fun k => clusterlocksref07_Size.j0 k d true a0 at0.f0 at0.f1.f0 at0.f1.f1 l) fun k => ?_) (fun k => ?_)
      · simp only [clusterlocksref07_Size.j0]
        rw [if_pos trivial]
      · simp only [zf, clusterlocksref07_Size.f]
        by_cases h4 : d > 4
        · rw [if_pos h4]
        · rw [if_neg h4, decide_eq_true (hd.resolve_left h4)]
    · have hd1 : ¬ d > 4 := fun h => hd (.inl h)
      have hd2 : ¬ (l.length : Int) > 24 := fun h => hd (.inr h)
      obtain ⟨n, m, hA, hn1, hn2⟩ := hl l 0 rfl a0 at0.f0 at0.f1.f0 at0.f1.f1 d 1 0 h1 (by omega) (by omega) (by omega)
      have hf : (d + dep ⟨a0, at0, l⟩ ≤ 5 ∧ nodes ⟨a0, at0, l⟩ ≤ 24) ↔ (d + 1 + depL l ≤ 5 ∧ 1 + (nodesL l : Int) ≤ 24) := by
        simp only [dep, nodes]
        constructor <;> rintro ⟨_, _⟩ <;> constructor <;> omega
      refine ⟨n, m, ?_, fun h => ?_, fun h => hn2 (fun q => h (hf.mpr q))⟩
      · refine Al.succ (Al.succ (G := fun k => clusterlocksref07_Size.j0 k d false a0 at0.f0 at0.f1.f0 at0.f1.f1 l) hA fun k => ?_) (fun k => ?_)
        · simp only [clusterlocksref07_Size.j0]
          rw [if_neg (by decide)]
          rfl
        · simp only [zf, clusterlocksref07_Size.f]
          rw [if_neg hd1, decide_eq_false hd2]
      · rw [hn1 (hf.mp h)]
        simp only [nodes]
        omega
  · intro xs i hi a0 a1 a2 a3 d n m h1 h4 hin h24
    have := drop_nil_le hi
    refine ⟨n, wrap64 (m + 1), Al.succV fun k => ?_, fun _ => by simp [nodesL], fun h => absurd (by simp only [depL, nodesL]; omega) h⟩
    simp only [clusterlocksref07_Size.l0]
    rw [if_neg (by omega)]
  · intro e r he hr xs i hi a0 a1 a2 a3 d n m h1 h4 hin h24
    obtain ⟨hlt, hat, hdr⟩ := drop_at hi
    obtain ⟨kn, km, hA, hk1, hk2⟩ := he (d + 1) (by omega) (by omega)
    have := nodes_pos e
    have hkn : 1 ≤ kn ∧ kn ≤ 25 := by
      by_cases hf : d + 1 + dep e ≤ 5 ∧ nodes e ≤ 24
      · have := hk1 hf
        omega
      · have := hk2 hf
        omega
    have step : ∀ k, clusterlocksref07_Size.l0 (k + 1) d n m (i : Int) a0 a1 a2 a3 xs = (zf k e (d + 1)).bind fun t => if t.2 > m then (if wrap64 (n + t.1) > 24 then some (25, 0) else clusterlocksref07_Size.l0 k d (wrap64 (n + t.1)) t.2 (i + 1 : Nat) a0 a1 a2 a3 xs) else (if wrap64 (n + t.1) > 24 then some (25, 0) else clusterlocksref07_Size.l0 k d (wrap64 (n + t.1)) m (i + 1 : Nat) a0 a1 a2 a3 xs) := fun k => by
      simp only [clusterlocksref07_Size.l0]
      rw [if_pos (by omega), if_pos (by omega), rd28 hat, w64_id (n := d + 1) (by omega) (by omega), w64_id (n := (i : Int) + 1) (by omega) (by omega)]
      rfl
    by_cases hb : n + kn > 24
    · have hn : ¬ (d + 1 + (depL (e :: r) : Int) ≤ 5 ∧ n + (nodesL (e :: r) : Int) ≤ 24) := fun h => by
        have h3 := h.1
        have h4' := h.2
        simp only [depL, nodesL] at h3 h4'
        have := hk1 ⟨by omega, by omega⟩
        omega
      refine ⟨25, 0, Al.succB step hA (Al.val fun k => ?_), fun h => absurd h hn, fun _ => rfl⟩
      dsimp only
      rw [w64_id (n := n + kn) (by omega) (by omega), if_pos hb]
      split <;> rfl
    · have hfe : d + 1 + dep e ≤ 5 ∧ nodes e ≤ 24 := by
        by_cases hf : d + 1 + dep e ≤ 5 ∧ nodes e ≤ 24
        · exact hf
        · have := hk2 hf
          omega
      have e1 := hk1 hfe
      have hg : (d + 1 + (depL (e :: r) : Int) ≤ 5 ∧ n + (nodesL (e :: r) : Int) ≤ 24) ↔ (d + 1 + (depL r : Int) ≤ 5 ∧ n + kn + (nodesL r : Int) ≤ 24) := by
        simp only [depL, nodesL]
        constructor <;> rintro ⟨_, _⟩ <;> constructor <;> omega
      obtain ⟨n', m', hB, hb1, hb2⟩ := hr xs (i + 1) hdr a0 a1 a2 a3 d (n + kn) (if km > m then km else m) h1 h4 (by omega) (by omega)
      refine ⟨n', m', Al.succB step hA (Al.congr hB fun k => ?_), fun h => ?_, fun h => hb2 (fun q => h (hg.mpr q))⟩
      · dsimp only
        rw [w64_id (n := n + kn) (by omega) (by omega)]
        by_cases hkm : km > m
        · rw [if_pos hkm, if_neg hb, if_pos hkm]
        · rw [if_neg hkm, if_neg hb, if_neg hkm]
      · rw [hb1 (hg.mp h), e1]
        simp only [nodesL]
        omega
theorem nodes2 (e : S28) : Al (fun k => clusterlocksref07_Nodes.f k e.f0 e.f1.f0 e.f1.f1.f0 e.f1.f1.f1 e.f2) (cnt e) := by
  obtain ⟨n, m, hA, h1, h2⟩ := rsize_all.1 e 1 (by omega) (by omega)
  have hf : (1 + (dep e : Int) ≤ 5 ∧ nodes e ≤ 24) ↔ fit e := by unfold fit; omega
  refine Al.bindE (fun k => rfl) hA ?_
  unfold cnt
  by_cases h : fit e
  · rw [if_pos h]
    have := h1 (hf.mpr h)
    exact Al.val fun k => by
      dsimp only
      rw [if_neg (by have := h.2; omega), this]
  · rw [if_neg h]
    have := h2 (fun q => h (hf.mp q))
    exact Al.val fun k => by
      dsimp only
      rw [if_pos (by omega)]
end Go.Proofs.Ytefbcebpokoinaa.Ps
