import Derived.Test.YtefbcebpokoinaaRows
import Derived.Test.YtefbcebpokoinaaXw
import Derived.WalkKit
import Derived.ProofKit
import Derived.OpenShut
import Derived.ShutString
import Derived.ChangeOld
import Derived.Below
import Derived.SizedLaws
import Derived.JoinedCond
/-! What comes in, read: out of the form's own reading of an argument, the lists and records that the walks speak of. -/
namespace Go.Proofs.Ytefbcebpokoinaa.Xr
open Go.RowKit Go.Proofs.YtefbcebpokoinaaW.PrintWords Go.Proofs.YtefbcebpokoinaaW.PrintLast Go.Proofs.YtefbcebpokoinaaW.PrintMore
set_option linter.unusedVariables false
set_option linter.unusedSimpArgs false

/-- Whatever reads as data of type t with this fuel is a value of the kind d, well formed, and of a size that its bulk tells. -/
def OpensAt {α : Type} (P : Program) (t : TypeId) (d : Kd α) (wf : α → Prop) (B : α → Nat) (n : Nat) : Prop :=
  ∀ {H : Type} (enc : TypeId × Value → H) (W : World) (base : Nat) (spare : Nat → Bool) (held : Bool) (cs : List Value) (x : DataW H × List MemPlace),
    DataW.trod enc P W base spare held n t cs = some x → ∃ a, d.K W a cs ∧ wf a ∧ B a + 1 ≤ Rows.uptoBulk x.1
theorem OpensAt.zero {α : Type} {P : Program} {t : TypeId} {d : Kd α} {wf : α → Prop} {B : α → Nat} : OpensAt P t d wf B 0 := by
  intro H enc W base spare held cs x h
  simp [DataW.trod] at h
theorem opens_int {P : Program} {t : TypeId} {k : IntKind} (ht : P.underlying t = some (.int k)) (n : Nat) : OpensAt P t (Kd.int k) (fun x => (Lit.int k x).wf = true) (fun _ => 0) n := by
  cases n with
  | zero => exact OpensAt.zero
  | succ n =>
    intro H enc W base spare held cs x h
    unfold DataW.trod at h
    rw [ht] at h
    split at h <;> try (simp_all; done)
    rename_i k1 k' m e1
    split at h
    · rename_i hk
      obtain ⟨rfl, hw⟩ := hk
      injection h with h
      subst h
      injection e1 with e1
      injection e1 with e1
      subst e1
      exact ⟨m, rfl, hw, by simp [Rows.uptoBulk]⟩
    · cases h
theorem opens_bool {P : Program} {t : TypeId} (ht : P.underlying t = some .bool) (n : Nat) : OpensAt P t Kd.bool (fun _ => True) (fun _ => 0) n := by
  cases n with
  | zero => exact OpensAt.zero
  | succ n =>
    intro H enc W base spare held cs x h
    unfold DataW.trod at h
    rw [ht] at h
    split at h <;> try (simp_all; done)
    rename_i b _
    injection h with h
    subst h
    exact ⟨b, rfl, trivial, by simp [Rows.uptoBulk]⟩
theorem opens_string {P : Program} {t : TypeId} (ht : P.underlying t = some .string) (n : Nat) : OpensAt P t Kd.string (fun s => s.size ≤ maxLen) (fun s => s.size) n := by
  cases n with
  | zero => exact OpensAt.zero
  | succ n =>
    intro H enc W base spare held cs x h
    unfold DataW.trod at h
    rw [ht] at h
    split at h <;> try (simp_all; done)
    rename_i s _
    split at h
    · rename_i hs
      injection h with h
      subst h
      refine ⟨s, rfl, hs, ?_⟩
      simp only [Rows.uptoBulk, Array.length_toList]
      exact Nat.le_refl _
    · cases h
theorem bulk_all {H : Type} : ∀ {β : Type} (l : List β) (f : β → DataW H) (g : β → Nat), (∀ x ∈ l, g x + 1 ≤ Rows.uptoBulk (f x)) → l.length + (l.map g).sum ≤ Rows.uptoBulkAll (l.map f)
  | _, [], _, _, _ => by simp
  | _, x :: r, f, g, h => by
    have h1 := h x List.mem_cons_self
    have h2 := bulk_all r f g (fun y hy => h y (List.mem_cons_of_mem _ hy))
    simp only [List.map_cons, Rows.uptoBulkAll, List.sum_cons, List.length_cons]
    omega
theorem opens_slice {α : Type} {P : Program} {t e : TypeId} {d : Kd α} {wf : α → Prop} {B : α → Nat} (ht : P.underlying t = some (.slice e)) (hc : P.cellsOf e = d.sz) (n : Nat) (he : OpensAt P e d wf B n) :
    OpensAt P t (Kd.slice e d) (fun l => l.length ≤ maxLen ∧ ∀ x ∈ l, wf x) (fun l => l.length + (l.map B).sum) (n + 1) := by
  intro H enc W base spare held cs x h
  unfold DataW.trod at h
  rw [ht] at h
  split at h <;> try (simp_all; done)
  · rename_i e' heq
    injection h with h
    subst h
    exact ⟨[], ⟨none, 0, rfl, Nat.le_refl _, Kd.C_nil _ _⟩, ⟨by simp, fun x hx => by cases hx⟩, by simp [Rows.uptoBulk]⟩
  · rename_i e' a len cap heq
    injection heq with heq
    injection heq with heq
    subst heq
    simp only at h
    split at h
    · rename_i hb
      obtain ⟨hb1, hb2, hb3⟩ := hb
      obtain ⟨es, hes, h⟩ := Option.bind_eq_some_iff.1 h
      obtain ⟨rs, hrs, h⟩ := Option.map_eq_some_iff.1 h
      have hel := mapM_some_length hes
      rw [List.length_range] at hel
      have hget := fun (i : Nat) (hi : i < len) => mapM_some_get hes i i (by simp [hi] : (List.range len)[i]? = some i)
      have hex : ∀ i, i < len → ∃ (y : DataW H × List MemPlace) (v : α) (c : List Value), es[i]? = some y ∧ W.cells? base (a.add (i * P.cellsOf e)) (P.cellsOf e) = some c ∧ d.K W v c ∧ wf v ∧ B v + 1 ≤ Rows.uptoBulk y.1 := by
        intro i hi
        have h1 := hget i hi
        have hi' : i < es.length := by omega
        rw [List.getElem?_eq_getElem hi'] at h1
        obtain ⟨c, hc1, hc2⟩ := Option.bind_eq_some_iff.1 h1
        obtain ⟨v, k1, k2, k3⟩ := he enc W base spare held c _ hc2
        exact ⟨es[i], v, c, List.getElem?_eq_getElem hi', hc1, k1, k2, k3⟩
      have hlist : ∀ m, m ≤ len → ∃ l : List α, l.length = m ∧ ∀ i v, l[i]? = some v → ∃ (y : DataW H × List MemPlace) (c : List Value), es[i]? = some y ∧ W.cells? base (a.add (i * P.cellsOf e)) (P.cellsOf e) = some c ∧ d.K W v c ∧ wf v ∧ B v + 1 ≤ Rows.uptoBulk y.1 := by
        intro m
        induction m with
        | zero => intro _; exact ⟨[], rfl, fun i v hv => by simp at hv⟩
        | succ m ih =>
          intro hm
          obtain ⟨l, hl, hv⟩ := ih (by omega)
          obtain ⟨y, v, c, h1, h2, h3, h4, h5⟩ := hex m (by omega)
          refine ⟨l ++ [v], by simp [hl], fun i u hu => ?_⟩
          rcases Nat.lt_or_ge i l.length with hi | hi
          · rw [List.getElem?_append_left hi] at hu
            exact hv i u hu
          · have him : i = m := by
              have := (List.getElem?_eq_some_iff.1 hu).1
              simp at this
              omega
            subst him
            rw [List.getElem?_append_right hi, hl] at hu
            simp at hu
            subst hu
            exact ⟨y, c, h1, h2, h3, h4, h5⟩
      obtain ⟨l, hl, hv⟩ := hlist len (Nat.le_refl _)
      subst h
      refine ⟨l, ⟨some a, cap, by rw [hl], by omega, ?_⟩, ⟨by omega, fun v hx => ?_⟩, ?_⟩
      · refine ⟨rfl, by rw [hl]; have : cap ≤ maxLen := hb3; unfold maxLen at this; omega, fun hp => ⟨a, rfl, fun j p hj => ?_⟩⟩
        obtain ⟨y, c, h1, h2, h3, h4, h5⟩ := hv j p hj
        refine ⟨c, d.K_len h3, h3, fun i u hu => ?_⟩
        obtain ⟨_, hcl, hcc⟩ := World.cells?_some h2
        have hi : i < P.cellsOf e := by
          have := (List.getElem?_eq_some_iff.1 hu).1
          omega
        have := hcc i hi
        rw [hu, hc] at this
        rw [← this]
        congr 1
        unfold Addr.add
        by_cases h0 : i = 0 <;> by_cases h1 : j * d.sz = 0 <;> simp [h0, h1, Nat.add_assoc]
      · obtain ⟨i, hi, rfl⟩ := List.getElem_of_mem hx
        obtain ⟨y, c, _, _, _, h4, _⟩ := hv i l[i] (List.getElem?_eq_getElem hi)
        exact h4
      · simp only [Rows.uptoBulk]
        have key : l.length + (l.map B).sum ≤ Rows.uptoBulkAll (es.map (·.1)) := by
          have e1 : ∀ (l : List α) (es : List (DataW H × List MemPlace)), l.length = es.length → (∀ (i : Nat) (v : α), l[i]? = some v → ∃ y : DataW H × List MemPlace, es[i]? = some y ∧ B v + 1 ≤ Rows.uptoBulk y.1) → l.length + (l.map B).sum ≤ Rows.uptoBulkAll (es.map (·.1)) := by
            intro l
            induction l with
            | nil => intro es h _; simp
            | cons v r ih =>
              intro es h hh
              cases es with
              | nil => simp at h
              | cons y ys =>
                have h1 := hh 0 v rfl
                obtain ⟨y', hy', hy2⟩ := h1
                simp at hy'
                subst hy'
                have h2 := ih ys (by simpa using h) (fun i u hu => hh (i + 1) u (by simpa using hu))
                simp only [List.map_cons, Rows.uptoBulkAll, List.sum_cons, List.length_cons]
                omega
          refine e1 l es (by omega) (fun i v hi => ?_)
          obtain ⟨y, c, h1, _, _, _, h5⟩ := hv i v hi
          exact ⟨y, h1, h5⟩
        omega
    · cases h
theorem OpensAt.weaken {α : Type} {P : Program} {t : TypeId} {d : Kd α} {wf wf' : α → Prop} {B : α → Nat} {n : Nat} (h : OpensAt P t d wf B n) (hw : ∀ a, wf a → wf' a) : OpensAt P t d wf' B n := by
  intro H enc W base spare held cs x hx
  obtain ⟨a, h1, h2, h3⟩ := h enc W base spare held cs x hx
  exact ⟨a, h1, hw a h2, h3⟩
/-- A record's fields: what each part reads as. -/
theorem opens_fields {H : Type} {enc : TypeId × Value → H} {P : Program} {W : World} {base : Nat} {spare : Nat → Bool} {held : Bool} {n : Nat} {t : TypeId} {fs : Array Field} {cs : List Value} {x : DataW H × List MemPlace}
    (ht : P.underlying t = some (.struct fs)) (h : DataW.trod enc P W base spare held (n + 1) t cs = some x) :
    cs.length = P.cellsOf t ∧ ∃ xs, fs.toList.mapM (fun f => DataW.trod enc P W base spare held n f.type ((cs.drop f.offset).take (P.cellsOf f.type))) = some xs ∧ x.1 = .agg (xs.map (·.1)) := by
  unfold DataW.trod at h
  rw [ht] at h
  simp only at h
  split at h
  · rename_i hl
    obtain ⟨xs, hxs, h⟩ := Option.map_eq_some_iff.1 h
    refine ⟨hl, xs, hxs, ?_⟩
    rw [← h]
  · cases h
theorem mapM_cons_some {α β : Type} {f : α → Option β} {a : α} {l : List α} {r : List β} (h : (a :: l).mapM f = some r) : ∃ y ys, f a = some y ∧ l.mapM f = some ys ∧ r = y :: ys := by
  simp only [List.mapM_cons, Option.bind_eq_bind, Option.bind_eq_some_iff] at h
  obtain ⟨y, hy, ys, hys, h⟩ := h
  exact ⟨y, ys, hy, hys, by simpa using h.symm⟩
theorem mapM_nil_some {α β : Type} {f : α → Option β} {r : List β} (h : ([] : List α).mapM f = some r) : r = [] := by simpa using h.symm
/-- A slice that comes in is no longer than its weight allows. -/
theorem sized_slice' {H : Type} {enc : TypeId × Value → H} {P : Program} {W : World} {base : Nat} {spare : Nat → Bool} {held : Bool} {t e : TypeId} {a : Option Addr} {len cap : Nat} {d : DataW H} {ps : List MemPlace} {ts : List TypeId} {ds : List (DataW H)} {j : Nat}
    (hsz : (DataW.weightsEach P ts ds).all (· ≤ reachBytes) = true) (ht : ts[j]? = some t) (hd : ds[j]? = some d) (hu : P.underlying t = some (.slice e)) {B : Nat} (hB : P.bytesOf e = B)
    (h : DataW.Trod enc P W base spare held t (.slice a len cap) d ps) : len * B ≤ 140737488351232 := by
  obtain ⟨fuel, hf⟩ := h
  cases fuel with
  | zero => simp [DataW.trod] at hf
  | succ n =>
    have hf' : DataW.trod enc P W base spare held (n + 1) t [.slice a len cap] = some (d, ps) := hf
    unfold DataW.trod at hf'
    rw [hu] at hf'
    split at hf' <;> try (simp_all; done)
    rename_i e' a' len' cap' heq
    injection heq with heq _
    injection heq with h1 h2 h3
    subst h1
    subst h2
    subst h3
    simp only at hf'
    split at hf'
    · obtain ⟨es, hes, hf'⟩ := Option.bind_eq_some_iff.1 hf'
      obtain ⟨rs, hrs, hf'⟩ := Option.map_eq_some_iff.1 hf'
      have hel := mapM_some_length hes
      rw [List.length_range] at hel
      have hd1 : d = .slice (es.map (·.1)) (rs.map (·.1)) := by
        have := congrArg Prod.fst hf'
        exact this.symm
      rw [hd1] at hd
      have z := sized_slice hsz ht hd hu
      rw [hB, List.length_map, List.length_map, hel] at z
      exact Nat.le_trans (Nat.mul_le_mul_right _ (Nat.le_add_right _ _)) z
    · cases hf'
theorem bulk_le {H : Type} {l : List (DataW H)} (hk : Rows.uptoSmall H l = true) : Rows.uptoBulkAll l ≤ 1048576 := by
  unfold Rows.uptoSmall at hk
  exact of_decide_eq_true hk
end Go.Proofs.Ytefbcebpokoinaa.Xr
