import Derived.Test.YtgomhoolipfkmaaPl
import Derived.Test.YtgomhoolipfkmaaY10
import Derived.Test.YtgomhoolipfkmaaY13
namespace Go.Proofs.Ytgomhoolipfkmaa.Pl
open Go.RowKit Go.Proofs.Ytgomhoolipfkmaa.Y Go.Proofs.Ytgomhoolipfkmaa.Pa Go.Proofs.YtgomhoolipfkmaaW.PrintWords Go.Proofs.YtgomhoolipfkmaaW.PrintLast Go.Proofs.YtgomhoolipfkmaaW.PrintMore
set_option linter.unusedVariables false
set_option linter.unusedSimpArgs false
theorem s24_eta (x : S24) : (⟨x.f0, x.f1, x.f2⟩ : S24) = x := rfl
theorem s28_eta (x : S28) : (⟨(⟨x.f0.f0, x.f0.f1, x.f0.f2⟩ : S24), (⟨x.f1.f0, x.f1.f1⟩ : S26), x.f2, x.f3⟩ : S28) = x := rfl
/-! Lines that are the same. -/
theorem same_l0 (a : List S28) (hl : a.length ≤ 140737488355328) (d : Nat) : ∀ i : Int, 0 ≤ i → i + d = a.length → Al (fun k => clusterlocksref11_SameWaits.l0 k a a i) true := by
  induction d with
  | zero =>
    intro i h0 h1
    refine Al.succV fun k => ?_
    simp only [clusterlocksref11_SameWaits.l0]
    rw [if_neg (by omega)]
  | succ d ih =>
    intro i h0 h1
    refine Al.succ (ih (i + 1) (by omega) (by omega)) fun k => ?_
    simp only [clusterlocksref11_SameWaits.l0]
    rw [if_pos (by omega), if_pos h0, if_pos (by omega), if_neg (by simp), w64_id (by omega) (by omega)]
theorem same (a : List S28) (hl : a.length ≤ 140737488355328) : Al (fun k => clusterlocksref11_SameWaits.f k a a) true := by
  refine (same_l0 a hl a.length 0 (by omega) (by omega)).congr fun k => ?_
  unfold clusterlocksref11_SameWaits.f
  rw [if_pos rfl]
theorem sameP_l0 (a : List S24) (hl : a.length ≤ 140737488355328) (d : Nat) : ∀ i : Int, 0 ≤ i → i + d = a.length → Al (fun k => clusterlocksref02_SameProcs.l0 k a a i) true := by
  induction d with
  | zero =>
    intro i h0 h1
    refine Al.succV fun k => ?_
    simp only [clusterlocksref02_SameProcs.l0]
    rw [if_neg (by omega)]
  | succ d ih =>
    intro i h0 h1
    refine Al.succ (ih (i + 1) (by omega) (by omega)) fun k => ?_
    simp only [clusterlocksref02_SameProcs.l0]
    rw [if_pos (by omega), if_pos h0, if_pos (by omega), if_neg (by simp), w64_id (by omega) (by omega)]
theorem sameP (a : List S24) (hl : a.length ≤ 140737488355328) : Al (fun k => clusterlocksref02_SameProcs.f k a a) true := by
  refine (sameP_l0 a hl a.length 0 (by omega) (by omega)).congr fun k => ?_
  unfold clusterlocksref02_SameProcs.f
  rw [if_pos rfl]
/-! Who is taken out. -/
def rest (a b c : Int) (l : List S28) : List S28 := l.filter (fun x => !line_Find.p a b c x)
theorem rest_len (a b c : Int) (l : List S28) : (rest a b c l).length ≤ l.length := List.length_filter_le _ _
theorem lremove (l : List S28) (hl : l.length < 2513169434916) (a b c : Int) : line_Remove.f l a b c = some (rest a b c l, decide ((rest a b c l).length < l.length)) := by
  unfold line_Remove.f
  rw [if_pos hl]
  rfl
theorem drop_cons_getD {α : Type} (z : α) (l : List α) (n : Nat) (h : n < l.length) : l.drop n = l.getD n z :: l.drop (n + 1) := by
  rw [List.drop_eq_getElem_cons h, List.getD_eq_getElem?_getD, List.getElem?_eq_getElem h]
  rfl
theorem rremove_l0 (l : List S28) (hl : l.length < 1000000) (a b c : Int) (d : Nat) : ∀ (i : Int) (out : List S28), 0 ≤ i → i + d = l.length → out.length ≤ i → Al (fun k => clusterlocksref11_Remove.l0 k l out i a b c) (out ++ rest a b c (l.drop i.toNat), decide ((out ++ rest a b c (l.drop i.toNat)).length < l.length)) := by
  induction d with
  | zero =>
    intro i out h0 h1 ho
    refine (Al.succV fun k => ?_).eq (r := (out, decide ((out.length : Int) < (l.length : Int)))) ?_
    · simp only [clusterlocksref11_Remove.l0]
      rw [if_neg (by omega)]
    · rw [List.drop_of_length_le (by omega)]
      simp [rest]
  | succ d ih =>
    intro i out h0 h1 ho
    rw [drop_cons_getD z28 l i.toNat (by omega)]
    have hr : rest a b c (l.getD i.toNat z28 :: l.drop (i.toNat + 1)) = if line_Find.p a b c (l.getD i.toNat z28) = true then rest a b c (l.drop (i.toNat + 1)) else l.getD i.toNat z28 :: rest a b c (l.drop (i.toNat + 1)) := by
      unfold rest
      rw [List.filter_cons]
      cases line_Find.p a b c (l.getD i.toNat z28) <;> simp
    rw [hr]
    cases hp : line_Find.p a b c (l.getD i.toNat z28) with
    | true =>
      have hq : ((!((rd_T28 l i).f0.f0 == a) || (!((rd_T28 l i).f0.f1 == b) || (!((rd_T28 l i).f0.f2 == c))))) = false := by
        have : ((rd_T28 l i).f0.f0 == a && ((rd_T28 l i).f0.f1 == b && ((rd_T28 l i).f0.f2 == c))) = true := hp
        simp only [Bool.and_eq_true] at this
        simp [this.1, this.2.1, this.2.2]
      refine (Al.succ (ih (i + 1) out (by omega) (by omega) (by omega)) fun k => ?_).eq ?_
      · simp only [clusterlocksref11_Remove.l0]
        rw [if_pos (by omega), if_pos h0, hq, if_neg (by simp), w64_id (by omega) (by omega)]
      · rw [show (i + 1).toNat = i.toNat + 1 by omega]
        simp
    | false =>
      have hq : ((!((rd_T28 l i).f0.f0 == a) || (!((rd_T28 l i).f0.f1 == b) || (!((rd_T28 l i).f0.f2 == c))))) = true := by
        have : ((rd_T28 l i).f0.f0 == a && ((rd_T28 l i).f0.f1 == b && ((rd_T28 l i).f0.f2 == c))) = false := hp
        rw [← Bool.not_and, ← Bool.not_and, this]
        rfl
      refine (Al.succ (ih (i + 1) (out ++ [rd_T28 l i]) (by omega) (by omega) (by simp; omega)) fun k => ?_).eq ?_
      · simp only [clusterlocksref11_Remove.l0]
        rw [if_pos (by omega), if_pos h0, hq, if_pos rfl, if_pos (by omega), w64_id (by omega) (by omega)]
      · rw [show (i + 1).toNat = i.toNat + 1 by omega]
        simp [rd28]
theorem rremove (l : List S28) (hl : l.length < 1000000) (a b c : Int) : Al (fun k => clusterlocksref11_Remove.f k l a b c) (rest a b c l, decide ((rest a b c l).length < l.length)) :=
  rremove_l0 l hl a b c l.length 0 [] (by omega) (by omega) (by simp)
/-! Who stands ahead. -/
def procs (l : List S28) : List S24 := l.map fun x => x.f0
theorem procs_take (l : List S28) (n : Nat) (h : n < l.length) : procs (l.take (n + 1)) = procs (l.take n) ++ [(l.getD n z28).f0] := by
  rw [Xw.take_succ_getD z28 h]
  simp [procs]
theorem rahead_l0 (l : List S28) (hl : l.length < 1000000) (n : Int) (hn : n ≤ l.length) (d : Nat) : ∀ (i : Int), 0 ≤ i → i + d = n → Al (fun k => clusterlocksref11_Ahead.l0 k l (procs (l.take i.toNat)) n i) (procs (l.take n.toNat)) := by
  induction d with
  | zero =>
    intro i h0 h1
    refine (Al.succV fun k => ?_).eq (r := procs (l.take i.toNat)) ?_
    · simp only [clusterlocksref11_Ahead.l0]
      rw [if_neg (by omega)]
    · rw [show i = n by omega]
  | succ d ih =>
    intro i h0 h1
    refine Al.succ (ih (i + 1) (by omega) (by omega)) fun k => ?_
    have hlen : (procs (l.take i.toNat)).length ≤ l.length := by simp [procs]; omega
    simp only [clusterlocksref11_Ahead.l0]
    rw [if_pos (by omega), if_pos h0, if_pos (by omega), if_pos (by omega), w64_id (by omega) (by omega), show (i + 1).toNat = i.toNat + 1 by omega, procs_take l _ (by omega)]
    rfl
theorem rahead (l : List S28) (hl : l.length < 1000000) (a b c : Int) : Al (fun k => clusterlocksref11_Ahead.f k l a b c) (procs (l.take (Xw.idx_ (line_Find.p a b c) l).toNat)) := by
  have hg := Xw.idx_ge (line_Find.p a b c) l
  refine Al.bindE (fun k => rfl) (rfind l (by omega) a b c) ?_
  by_cases h : Xw.idx_ (line_Find.p a b c) l = -1
  · rw [h]
    refine Al.succV fun k => ?_
    simp only [clusterlocksref11_Ahead.l0]
    rw [if_neg (by omega)]
    rfl
  · exact rahead_l0 l hl _ (by omega) (Xw.idx_ (line_Find.p a b c) l).toNat 0 (by omega) (by omega)
theorem lahead_l0 (l : List S28) (hl : l.length < 1000000) (a b c : Int) (d : Nat) : ∀ (i : Int), 0 ≤ i → i + d = Xw.idx_ (line_Find.p a b c) l → Al (fun k => line_Ahead.l0 k l (procs (l.take i.toNat)) i a b c) (procs (l.take (Xw.idx_ (line_Find.p a b c) l).toNat)) := by
  have hg := Xw.idx_ge (line_Find.p a b c) l
  induction d with
  | zero =>
    intro i h0 h1
    refine (Al.succV fun k => ?_).eq (r := procs (l.take i.toNat)) ?_
    · simp only [line_Ahead.l0, line_Find.f, Option.bind_some]
      rw [if_neg (by omega)]
    · rw [show i = Xw.idx_ (line_Find.p a b c) l by omega]
  | succ d ih =>
    intro i h0 h1
    refine Al.succ (ih (i + 1) (by omega) (by omega)) fun k => ?_
    have hlen : (procs (l.take i.toNat)).length ≤ l.length := by simp [procs]; omega
    simp only [line_Ahead.l0, line_Find.f, Option.bind_some]
    rw [if_pos (by omega), if_pos h0, if_pos (by omega), if_pos (by omega), w64_id (by omega) (by omega), show (i + 1).toNat = i.toNat + 1 by omega, procs_take l _ (by omega)]
    rfl
theorem lahead (l : List S28) (hl : l.length < 1000000) (a b c : Int) : Al (fun k => line_Ahead.f k l a b c) (procs (l.take (Xw.idx_ (line_Find.p a b c) l).toNat)) := by
  have hg := Xw.idx_ge (line_Find.p a b c) l
  by_cases h : Xw.idx_ (line_Find.p a b c) l = -1
  · rw [h]
    refine Al.succV fun k => ?_
    unfold line_Ahead.f
    simp only [line_Ahead.l0, line_Find.f, Option.bind_some]
    rw [if_neg (by omega)]
    rfl
  · exact lahead_l0 l hl a b c (Xw.idx_ (line_Find.p a b c) l).toNat 0 (by omega) (by omega)
end Go.Proofs.Ytgomhoolipfkmaa.Pl
