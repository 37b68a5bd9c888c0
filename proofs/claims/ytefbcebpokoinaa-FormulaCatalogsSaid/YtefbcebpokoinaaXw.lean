import Derived.Test.YtefbcebpokoinaaProg
import Derived.Deep.DeepFit
import Derived.Test.YtefbcebpokoinaaWWords
import Derived.Test.YtefbcebpokoinaaWLast
import Derived.Test.YtefbcebpokoinaaWTab
import Derived.Test.YtefbcebpokoinaaWFour
import Derived.Test.YtefbcebpokoinaaWQPut
import Derived.Test.YtefbcebpokoinaaWApart
import Derived.Test.YtefbcebpokoinaaWArr
import Derived.Test.YtefbcebpokoinaaWZeros
import Derived.Test.YtefbcebpokoinaaWFoot
import Derived.Test.YtefbcebpokoinaaWKept
import Derived.Test.YtefbcebpokoinaaWShare
import Derived.Test.YtefbcebpokoinaaWN
import Derived.Test.YtefbcebpokoinaaWFootNe
import Derived.Test.YtefbcebpokoinaaWAt
import Derived.Test.YtefbcebpokoinaaWEqStruct
import Derived.Test.YtefbcebpokoinaaWRepsOne
import Derived.Test.YtefbcebpokoinaaWInv
import Derived.Test.YtefbcebpokoinaaWInvWords
import Derived.Test.YtefbcebpokoinaaWGuard
import Derived.Test.YtefbcebpokoinaaWNEv
import Derived.Test.YtefbcebpokoinaaWMore
import Derived.ArgAppend
import Derived.Lib.SlBytesConst
import Derived.Lib.LazyBuf
import Derived.LoopN
namespace Go.Proofs.Ytefbcebpokoinaa.Xw
open Go.RowKit Go.Proofs.YtefbcebpokoinaaW.PrintWords Go.Proofs.YtefbcebpokoinaaW.PrintLast Go.Proofs.YtefbcebpokoinaaW.PrintMore
set_option linter.unusedVariables false
set_option linter.unusedSimpArgs false
theorem u32_w (n : Int) : IntKind.u32.wrap n = n % 4294967296 := by simp [IntKind.wrap, IntKind.bits, IntKind.signed]
theorem u8_w (n : Int) : IntKind.u8.wrap n = n % 256 := by simp [IntKind.wrap, IntKind.bits, IntKind.signed]
section
variable {P : Program}
theorem cut_to3 (t e : TypeId) (kh km : IntKind) {i : TypeInfo} (ht : P.underlying t = some (.slice e)) (hi : P.info? e = some i) (A : Option Addr) (n c : Nat) (j : Int) (h0 : 0 ≤ j) (hm : j ≤ n) (hc : n ≤ c) :
    ∀ W : World, (Instr.slice t (.slice A n c) none (some (.int kh j)) (some (.int km j))).run P W = .ok (.slice A j.toNat j.toNat) W := by
  intro W
  have hel : P.elem t = e := by simp [Program.elem, ht]
  have hu : P.underlying t = some (.slice (P.elem t)) := by rw [hel]; exact ht
  have ha : (A.map fun x => x.add 0) = A := by cases A <;> simp [Addr.add]
  rw [run_slice_hm W t A n c hu kh km j j h0 (by omega) (by omega), hel]
  simp [sizeOf, typeInfo, hi, sliced, Result.andThen, ha]
theorem cut_mid3 (t e : TypeId) (kl kh km : IntKind) {i : TypeInfo} (ht : P.underlying t = some (.slice e)) (hi : P.info? e = some i) (size : Nat) (hsz : i.size = size) (A : Option Addr) (n c : Nat) (lo hi' : Int) (h0 : 0 ≤ lo) (h1 : lo ≤ hi') (h2 : hi' ≤ n) (hc : n ≤ c) :
    ∀ W : World, (Instr.slice t (.slice A n c) (some (.int kl lo)) (some (.int kh hi')) (some (.int km hi'))).run P W = .ok (.slice (if hi'.toNat = lo.toNat then A else A.map (·.add (lo.toNat * size))) (hi'.toNat - lo.toNat) (hi'.toNat - lo.toNat)) W := by
  intro W
  have hel : P.elem t = e := by simp [Program.elem, ht]
  have hu : P.underlying t = some (.slice (P.elem t)) := by rw [hel]; exact ht
  rw [run_slice_lhm W t A n c hu kl kh km lo hi' hi' h0 h1 (by omega) (by omega), hel]
  simp [sizeOf, typeInfo, hi, hsz, sliced, Result.andThen]
end
section
variable {α : Type} {k : Kd α} {w : World} {ok : Nat → Prop} {A : Option Addr} {xs : List α} {lo hi : Nat}
theorem C_mid3 (h : k.C w A xs.length xs) (h1 : lo ≤ hi) (h2 : hi ≤ xs.length) : k.C w (if hi = lo then A else A.map (·.add (lo * k.sz))) ((xs.take hi).drop lo).length ((xs.take hi).drop lo) := by
  have hl : (xs.take hi).length = hi := by rw [List.length_take]; omega
  exact Kd.C_drop (Kd.C_take h h2) (by omega) (by omega)
theorem F_mid3 (h : k.F w ok A xs.length xs) (h1 : lo ≤ hi) (h2 : hi ≤ xs.length) : k.F w ok (if hi = lo then A else A.map (·.add (lo * k.sz))) ((xs.take hi).drop lo).length ((xs.take hi).drop lo) :=
  Kd.F_imp h (fun _ hC => C_mid3 hC h1 h2)
end
/-- 'append(b[:len(b):len(b)], ys...)', b a slice of whole numbers that came in, ys not empty: a new row. -/
theorem append_full {P : Program} {ops : Array Oper} {rest : List Oper} {o : Oper} {a : Act} {Q : Exit → Act → World → Prop} {W : World} (hgd : o.guard = none) (s x : Operand) (t e : TypeId) (k : IntKind) (bytes : Nat)
    (ho : o.op = .call { callee := .builtin .append, args := #[s, x], argTypes := #[t, t] })
    (ht : P.underlying t = some (.slice e)) (hinfo : (P.info? e).map (fun i => (i.zero, i.size, i.bytes)) = some (some (.int k 0), 1, bytes)) (hb0 : 0 < bytes)
    (A : Option Addr) (xs : List Int) (A1 : Option Addr) (c1 : Nat) (ys : List Int) (hs : a.eval s = .slice A xs.length xs.length) (hx : a.eval x = .slice A1 ys.length c1)
    (hR : (Kd.int k).C W A xs.length xs) (hR1 : (Kd.int k).C W A1 ys.length ys) (hy : 0 < ys.length) (hl : (xs.length + ys.length) * bytes ≤ 140737488355328)
    (h : ∀ v1 w1, (Kd.int k).R e w1 W.heap.size (fun _ => True) v1 (xs ++ ys) → Below W.heap.size W w1 → wpList P ops Q rest (a.put o.dst v1) w1) :
    wpList P ops Q (o :: rest) a W := by
  obtain ⟨i0, hi, hzz⟩ := Option.map_eq_some_iff.1 hinfo
  simp only [Prod.mk.injEq] at hzz
  obtain ⟨hz0, hz1, hz2⟩ := hzz
  have hlen : xs.length + ys.length ≤ 140737488355328 := Nat.le_trans (Nat.le_mul_of_pos_right _ hb0) hl
  obtain ⟨_, _, hcx⟩ := Kd.reads_of_C (enc := Value.int k) (d := (0 : Int)) (h1 := fun _ => rfl) hR
  obtain ⟨_, _, hcy⟩ := Kd.reads_of_C (enc := Value.int k) (d := (0 : Int)) (h1 := fun _ => rfl) hR1
  obtain ⟨ad1, rfl, hc1⟩ := hcy hy
  have news : ∀ j u, (nums k ys)[j]? = some u → W.cell? (ad1.add j) = some u := fun j u hu => by
    have hj : j < ys.length := by
      rcases Nat.lt_or_ge j ys.length with h | h
      · exact h
      · simp [nums, List.getElem?_eq_none h] at hu
    have := hc1 j hj
    simp [nums, List.getElem?_eq_getElem hj] at hu
    subst hu
    rw [this]
    simp [List.getD_eq_getElem?_getD, List.getElem?_eq_getElem hj]
  have hlz : (nums k xs).length = xs.length * 1 := by simp [nums]
  have hly : (nums k ys).length = ys.length * 1 := by simp [nums]
  have hone : ∀ u ∈ nums k ys, u.oneCell' = true := by
    intro u hu
    simp only [nums, List.mem_map] at hu
    obtain ⟨_, _, rfl⟩ := hu
    rfl
  have holds : ∀ ad, A = some ad → ∀ j u, (nums k xs)[j]? = some u → W.cell? (ad.add j) = some u := by
    intro ad e j u hu
    have hj : j < xs.length := by
      rcases Nat.lt_or_ge j xs.length with h | h
      · exact h
      · simp [nums, List.getElem?_eq_none h] at hu
    obtain ⟨ad', e', hc⟩ := hcx (by omega)
    rw [e] at e'
    injection e' with e'
    subst e'
    have := hc j hj
    simp [nums, List.getElem?_eq_getElem hj] at hu
    subst hu
    rw [this]
    simp [List.getD_eq_getElem?_getD, List.getElem?_eq_getElem hj]
  refine wpList_append_grows W hgd s x t ho e i0 (.int k 0) 1 bytes ht hi hz0 hz1 hz2 rfl (by omega) A xs.length xs.length (nums k xs) hs (fun e => by have : ¬ 0 < xs.length := (fun hp => by obtain ⟨ad, e', _⟩ := hcx hp; rw [e] at e'; cases e'); omega) hlz holds ad1 ys.length c1 (nums k ys) hx hly news hone (by omega) (by simp only [maxLen]; omega) hl ?_
  intro v1 w1 hown hg
  refine h v1 w1 ?_ ((Below.refl _ _).grown hg (Nat.le_refl _) (by simp))
  exact Kd.R_of_own (enc := Value.int k) (h1 := fun _ => rfl) (by rw [List.length_append]; simpa [encs, nums] using hown) (fun _ _ => trivial)

/-- '[]byte("constant")': a literal's row and, behind it, the conversion to its own type, which marks the row: what comes is only read. -/
theorem bytesL_ {P : Program} {ops : Array Oper} {rest : List Oper} {o1 o2 : Oper} {a : Act} {Q : Exit → Act → World → Prop} {W : World} (N1 N2 : Tmp) (T e : TypeId) (hg1 : Region.wanted o1 (yielded ops a.tmps) = true) (hd1 : o1.dst = some N1) (hg2 : ∀ v, Region.wanted o2 (yielded ops (a.put (some N1) v).tmps) = true) (hd2 : o2.dst = some N2)
    (ho2 : o2.op = .convert T T (.tmp N1)) (ht : P.underlying T = some (.slice e)) (he : P.underlying e = some (.int .u8)) (xs : List Int)
    (hrun : (execOp a.eval o1).run P W = .ok (.value (.slice (some ⟨W.heap.size, 0, none⟩) xs.length xs.length)) (W.alloc (.cells (nums .u8 xs).toArray e)))
    (hev : ∀ v, (a.put (some N1) v).eval (.tmp N1) = v) (hm : xs.length ≤ 9223372036854775807)
    (h : ∀ v w1, (Kd.int .u8).V e w1 W.heap.size (fun k_ => W.heap.size ≤ k_) v xs → Below W.heap.size W w1 → wpList P ops Q rest ((a.put (some N1) v).put (some N2) v) w1) :
    wpList P ops Q (o1 :: o2 :: rest) a W := by
  refine gate_guard hg1 ?_
  refine Kd.event_run (o := { o1 with guard := none }) rfl hrun ?_
  have hc := Lib.run_convert_bytes_const (P := P) W T e (nums .u8 xs).toArray xs.length xs.length ht he
  have hrun2 : (execOp (a.put o1.dst (.slice (some ⟨W.heap.size, 0, none⟩) xs.length xs.length)).eval o2).run P (W.alloc (.cells (nums .u8 xs).toArray e)) =
      .ok (.value (.slice (some ⟨W.heap.size, 0, none⟩) xs.length xs.length)) (W.alloc (.cells (nums .u8 xs).toArray e ((nums .u8 xs).toArray.size, (nums .u8 xs).toArray.size + 1))) := by
    unfold execOp
    rw [hd1]
    simp only [ho2]
    simp only [Sem.run_bind, Sem.run_pure, hev, hc, Result.andThen_ok]
  refine gate_guard (by show Region.wanted o2 (yielded ops (a.put o1.dst _).tmps) = true; rw [hd1]; exact hg2 _) ?_
  refine Kd.event_run (o := { o2 with guard := none }) rfl hrun2 ?_
  show wpList P ops Q rest ((a.put o1.dst _).put o2.dst _) _
  rw [hd1, hd2]
  refine h _ _ (Kd.V_mk (Nat.le_refl _) (fun W' hW => ?_)) ((Below.refl _ _).alloc (Nat.le_refl _) _)
  have hb := hW W.heap.size (Nat.le_refl _) (by simp)
  rw [heap_alloc_new] at hb
  refine Kd.C_of_reads (enc := Value.int .u8) (d := (0 : Int)) (h1 := fun _ => rfl) ⟨rfl, hm, fun _ => ⟨_, rfl, fun j hj => ?_⟩⟩
  rw [add_plain]
  unfold World.cell?
  simp only [hb]
  simp [nums, List.getElem?_eq_getElem hj, List.getD_eq_getElem?_getD]
theorem V_string {P : Program} {w : World} {src dst e e' base : TypeId} {ok : Nat → Prop} {v : Value} {xs : List Int} (hs : P.underlying src = some (.slice e)) (he : P.underlying e = some (.int .u8)) (hd : P.underlying dst = some .string)
    (h : (Kd.int .u8).V e' w base ok v xs) : (convert src dst v).run P w = .ok (.string (strOfNums xs)) w := by
  obtain ⟨A, c, rfl, hl, hF⟩ := h
  exact Kd.C_string hs he hd (Kd.F_now hF)
/-- A call through a function value that is known: the literal's number, and what it captured. -/
theorem goesV_ {P : Program} {ops : Array Oper} {rest : List Oper} {oi : Oper} {a : Act} {Q : Exit → Act → World → Prop} {w : World} (N : Option Tmp) (hd : oi.dst = N) (hg : oi.guard = none) {f : FuncId} {fn : Func} {x : Operand} {as_ : Array Operand} {ts : Array TypeId} (hf : P.funcs[f]? = some fn) (hname : (fn.name == "runtime.NumGoroutine") = false) (hb : fn.body.isSome = true) (args cap : Array Value)
    (hop : oi.op = .call { callee := .value x, args := as_, argTypes := ts }) (hx : a.eval x = .func (.func f) #[] cap) (hargs : as_.map a.eval = args)
    (h : Calls P f (args ++ cap) w fun e w' => ∃ v, e = .returned v ∧ wpList P ops Q rest (a.put N v) w') : wpList P ops Q (oi :: rest) a w := by
  refine wpList_plain hg fun K hK => ?_
  have he := enters_ hf hname hb (args ++ cap) w
  have hrun : (execOp a.eval oi).run P w = .ok (.enter f (args ++ cap)) w := by
    unfold execOp
    simp [hop, resolve, Deferred.ofValue, invoke, hx, hargs, he]
  unfold Oper.wp
  rw [hrun, Oper.upon_enter]
  refine h.mono fun e w'' hh => ?_
  obtain ⟨v, rfl, hk⟩ := hh
  subst hd
  exact hK _ _ hk
theorem gate_value {P : Program} {ops : Array Oper} {rest : List Oper} {o : Oper} {a : Act} {Q : Exit → Act → World → Prop} {W : World} {n : Nat} {as_ : Array Operand} {ts : Array TypeId} (_ho : o.op = .call { callee := .value (.tmp n), args := as_, argTypes := ts }) (h : wpList P ops Q (o :: rest) a W) : wpList P ops Q (o :: rest) a W := h
def idx_ {α : Type} (p : α → Bool) : List α → Int
  | [] => -1
  | x :: t => if p x then 0 else if idx_ p t = -1 then -1 else idx_ p t + 1
theorem idx_ge {α : Type} (p : α → Bool) : ∀ l : List α, -1 ≤ idx_ p l ∧ idx_ p l < l.length
  | [] => by simp [idx_]
  | x :: t => by
    have := idx_ge p t
    simp only [idx_, List.length_cons]
    split <;> (try split) <;> omega
theorem idx_hit {α : Type} (p : α → Bool) (d : α) : ∀ (l : List α) (k : Nat), k < l.length → (∀ j, j < k → p (l.getD j d) = false) → p (l.getD k d) = true → idx_ p l = k
  | [], k, hk, _, _ => absurd hk (Nat.not_lt_zero _)
  | x :: t, 0, _, _, h => by simp at h; simp [idx_, h]
  | x :: t, k + 1, hk, hb, h => by
    have h0 := hb 0 (Nat.succ_pos _)
    simp at h0
    have := idx_hit p d t k (by simpa using hk) (fun j hj => by simpa using hb (j + 1) (by omega)) (by simpa using h)
    simp [idx_, h0, this]
    try omega
theorem idx_miss {α : Type} (p : α → Bool) (d : α) : ∀ (l : List α), (∀ j, j < l.length → p (l.getD j d) = false) → idx_ p l = -1
  | [], _ => rfl
  | x :: t, hb => by
    have h0 := hb 0 (by simp)
    simp at h0
    have := idx_miss p d t (fun j hj => by simpa using hb (j + 1) (by simpa using hj))
    simp [idx_, h0, this]
theorem idx_none {α : Type} (p : α → Bool) : ∀ l : List α, idx_ p l = -1 → l.filter (fun x => !p x) = l
  | [], _ => rfl
  | x :: t, h => by
    have hg := idx_ge p t
    simp only [idx_] at h
    cases hx : p x with
    | true => rw [hx] at h; simp at h
    | false =>
      rw [hx] at h
      have ht : idx_ p t = -1 := by
        by_cases e : idx_ p t = -1
        · exact e
        · simp [e] at h; omega
      simp [hx]
      intro a ha
      have := List.filter_eq_self.1 (idx_none p t ht) a ha
      simpa using this
theorem idx_some {α : Type} (p : α → Bool) : ∀ l : List α, idx_ p l ≠ -1 → 0 ≤ idx_ p l ∧ idx_ p l < l.length ∧ l.take (idx_ p l).toNat = (l.take ((idx_ p l).toNat + 1)).filter (fun x => !p x)
  | [], h => absurd rfl h
  | x :: t, h => by
    have hg := idx_ge p t
    cases hx : p x with
    | true => simp [idx_, hx]
    | false =>
      by_cases e : idx_ p t = -1
      · simp [idx_, hx, e] at h
      · obtain ⟨h1, h2, h3⟩ := idx_some p t e
        have hv : idx_ p (x :: t) = idx_ p t + 1 := by simp [idx_, hx, e]
        rw [hv, show (idx_ p t + 1).toNat = (idx_ p t).toNat + 1 by omega]
        refine ⟨by omega, by simp; omega, ?_⟩
        rw [List.take_succ_cons, List.take_succ_cons, List.filter_cons, hx]
        simp [h3]
/-- 'clear(s[i:])' of a row of the call's own: what is ahead of i stays. -/
theorem clear_row {P : Program} {α : Type} (d : Kd α) {W : World} {base e g n cap : Nat} {ok : Nat → Prop} {xs : List α} (t ty : TypeId) (z : Value) (ht : P.underlying t = some (.slice e)) (hv : ∀ w, (zeroValue e).run P w = .ok z w)
    (hz : z.cells.size = d.sz) (h1 : ∀ u ∈ z.cells.toList, u.oneCell' = true) (h0 : 0 < d.sz) (HO : d.R e W base ok (.slice (some ⟨g, 0, none⟩) n cap) xs) (i : Nat) (hi : i < n) (c : Nat) :
    ∃ W', (Builtin.clear_ #[t] ty #[.slice (some ⟨g, i * d.sz, none⟩) (n - i) c]).run P W = .ok (.tuple #[]) W' ∧ d.R e W' base ok (.slice (some ⟨g, 0, none⟩) i cap) (xs.take i) ∧ W.grownBy W' (some g) := by
  obtain ⟨hn, hnc, _⟩ := Kd.R_reads' HO
  have HT := Kd.R_take (m := i) HO (by omega)
  obtain ⟨hok, inner, ho, hr⟩ := HT
  have hlt : (xs.take i).length = i := by rw [List.length_take]; omega
  obtain ⟨hil, ho2⟩ := ho
  rcases ho2 with ⟨h, _⟩ | ⟨g', cap', cur, he, hb, hh, hc1, hc2, hcs, hct⟩
  · cases h
  · injection he with he1 he2 he3
    injection he1 with he1
    injection he1 with he1
    subst he1
    subst he3
    rw [hlt] at hct hil hc1
    have hzl : (Builtin.zeroCells z.cells (n - i)).size = (n - i) * d.sz := by simp [Builtin.zeroCells, hz]
    have hspan : i * d.sz + (n - i) * d.sz ≤ cur.size := by
      rw [hcs, ← Nat.add_mul]
      exact Nat.mul_le_mul_right _ (by omega)
    have hcell : ∀ j, j < (n - i) * d.sz → W.cell? ⟨g, i * d.sz + j, none⟩ = cur[i * d.sz + j]? := fun j hj => by
      unfold World.cell?
      simp only [hh]
      try rfl
    have hst := run_storeCells_cells (P := P) g (i * d.sz) (Builtin.zeroCells z.cells (n - i)).toList 0 W (fun j hj => by
      rw [Array.length_toList, hzl] at hj
      rw [Nat.add_zero, hcell j hj, Array.getElem?_eq_getElem (by omega)]
      rfl) (fun j hj => blk_frozen hh _) (fun u hu => by
      simp only [Builtin.zeroCells, Array.toList_map, List.mem_map] at hu
      obtain ⟨q, hq, rfl⟩ := hu
      have hqq : q % z.cells.size < z.cells.size := Nat.mod_lt _ (by omega)
      rw [getElem!_pos z.cells _ hqq]
      exact h1 _ (Array.getElem_mem_toList hqq))
    simp only [Nat.add_zero] at hst
    obtain ⟨m, hm⟩ : ∃ m, n - i = m + 1 := ⟨n - i - 1, by omega⟩
    refine ⟨W.setCells g (i * d.sz) (Builtin.zeroCells z.cells (n - i)).toList, ?_, ?_, ?_⟩
    · rw [hm] at hst ⊢
      simp [Builtin.clear_, run_underlying ht, hv, hst]
    · obtain ⟨cur', h2, h3, h4⟩ := setCells_row (Builtin.zeroCells z.cells (n - i)).toList (i * d.sz) W cur hh (by rw [Array.length_toList, hzl]; exact hspan)
      refine ⟨hok, inner, ⟨by rw [hlt]; exact hil, .inr ⟨g, cap, cur', by rw [hlt], hb, h2, by rw [hlt]; exact hc1, hc2, by rw [h3]; exact hcs, ?_⟩⟩, hr.imp_ (fun _ _ hp => d.M_move (fun k hk => setCells_far _ _ k (fun e => hk.2 (by rw [e]; rfl))) hp)⟩
      rw [hlt, h4, List.append_assoc, List.take_append_of_le_length (by rw [List.length_take, Array.length_toList]; omega), List.take_take, Nat.min_self]
      exact hct
    · obtain ⟨q1, q2, q3, q4⟩ := setCells_same g (Builtin.zeroCells z.cells (n - i)).toList (i * d.sz) W
      exact ⟨q1, q2, q3, by rw [q4]; exact Nat.le_refl _, fun k _ hk => setCells_far _ _ k (fun e => hk (by rw [e]))⟩
theorem getD_of_drop {α : Type} (z : α) {a b : List α} {j : Nat} (h : a.drop j = b.drop j) : a.getD j z = b.getD j z := by
  have := congrArg (fun l : List α => l.getD 0 z) h
  simpa [List.getD_eq_getElem?_getD, List.getElem?_drop] using this
theorem take_succ_getD {α : Type} (z : α) {l : List α} {j : Nat} (h : j < l.length) : l.take (j + 1) = l.take j ++ [l.getD j z] := by
  rw [List.take_add_one, List.getElem?_eq_getElem h, List.getD_eq_getElem?_getD, List.getElem?_eq_getElem h]
  rfl
theorem drop_succ_of {α : Type} {a b : List α} {j : Nat} (h : a.drop j = b.drop j) : a.drop (j + 1) = b.drop (j + 1) := by
  rw [← List.drop_drop, ← List.drop_drop, h]
theorem df_skip {α : Type} (p : α → Bool) (zs l0 : List α) (z : α) (i j : Int) (hj0 : 0 ≤ j) (hij : i < j) (hj : j < l0.length) (hp : p (zs.getD j.toNat z) = true) (h : zs.length = l0.length ∧ zs.take i.toNat = (l0.take j.toNat).filter (fun x => !p x) ∧ zs.drop j.toNat = l0.drop j.toNat) :
    zs.length = l0.length ∧ zs.take i.toNat = (l0.take (j + 1).toNat).filter (fun x => !p x) ∧ zs.drop (j + 1).toNat = l0.drop (j + 1).toNat := by
  obtain ⟨h1, h2, h3⟩ := h
  rw [getD_of_drop z h3] at hp
  rw [show (j + 1).toNat = j.toNat + 1 by omega]
  refine ⟨h1, ?_, drop_succ_of h3⟩
  rw [take_succ_getD z (by omega), List.filter_append, h2, List.filter_cons, hp]
  simp
theorem df_put {α : Type} (p : α → Bool) (zs l0 : List α) (z : α) (i j : Int) (hi0 : 0 ≤ i) (hj0 : 0 ≤ j) (hij : i < j) (hj : j < l0.length) (hp : p (zs.getD j.toNat z) = false) (h : zs.length = l0.length ∧ zs.take i.toNat = (l0.take j.toNat).filter (fun x => !p x) ∧ zs.drop j.toNat = l0.drop j.toNat) :
    (zs.set i.toNat (zs.getD j.toNat z)).length = l0.length ∧ (zs.set i.toNat (zs.getD j.toNat z)).take (i + 1).toNat = (l0.take (j + 1).toNat).filter (fun x => !p x) ∧ (zs.set i.toNat (zs.getD j.toNat z)).drop (j + 1).toNat = l0.drop (j + 1).toNat := by
  obtain ⟨h1, h2, h3⟩ := h
  rw [show (j + 1).toNat = j.toNat + 1 by omega, show (i + 1).toNat = i.toNat + 1 by omega]
  have hg := getD_of_drop z h3
  rw [hg] at hp
  refine ⟨by simp [h1], ?_, ?_⟩
  · rw [take_succ_getD (l := l0) z (by omega), List.filter_append, ← h2, take_succ_getD z (by simp; omega), List.take_set]
    have e1 : (zs.take i.toNat).set i.toNat (zs.getD j.toNat z) = zs.take i.toNat := List.set_eq_of_length_le (by simp; omega)
    have e2 : (zs.set i.toNat (zs.getD j.toNat z)).getD i.toNat z = zs.getD j.toNat z := by
      rw [List.getD_eq_getElem?_getD, List.getElem?_set_self (by omega)]
      rfl
    rw [e1, e2, hg, List.filter_cons, hp]
    simp
  · rw [List.drop_set_of_lt (by omega)]
    exact drop_succ_of h3
/-- What lay in wA from base on lies in w as it was. -/
def Kp (base : Nat) (wA w : World) : Prop := wA.heap.size ≤ w.heap.size ∧ ∀ k, base ≤ k → k < wA.heap.size → w.heap[k]? = wA.heap[k]?
theorem Kp.refl (base : Nat) (w : World) : Kp base w w := ⟨Nat.le_refl _, fun _ _ _ => rfl⟩
theorem Kp.set {base : Nat} {wA w : World} (h : Kp base wA w) {g j : Nat} (hg : g < base) (u : Value) : Kp base wA (w.setCell ⟨g, j, none⟩ u) :=
  ⟨by simpa [World.setCell] using h.1, fun k h1 h2 => (Below.heap_setCell w ⟨g, j, none⟩ u k (by show k ≠ g; omega)).trans (h.2 k h1 h2)⟩
theorem Kp.below {base : Nat} {wA w w2 : World} (h : Kp base wA w) (hb : Below w.heap.size w w2) : Kp base wA w2 :=
  ⟨Nat.le_trans h.1 hb.size, fun k h1 h2 => (hb.block k (Nat.lt_of_lt_of_le h2 h.1)).trans (h.2 k h1 h2)⟩
theorem Kp.R {α : Type} {d : Kd α} {e base b : Nat} {wA w : World} {v : Value} {xs : List α} (h : Kp base wA w) (hR : d.R e wA b (fun k => base ≤ k) v xs) : d.R e w b (fun k => base ≤ k) v xs := Kd.R_step hR (fun k h1 h2 => h.2 k h1 h2)
/-- A row made since base: by the blocks since then alone. -/
theorem R_from {α : Type} {d : Kd α} {e base : Nat} {w : World} {v : Value} {xs : List α} (h : d.R e w base (fun _ => True) v xs) : d.R e w base (fun k => base ≤ k) v xs := Kd.R_mono (Kd.R_bound h) (fun k hk => hk.2.1)
theorem results_tmp4 {fn : Func} {t u v x : Tmp} (h : fn.results = #[.tmp t, .tmp u, .tmp v, .tmp x]) (tmps : Array Value) (P : Program) (w : World) :
    (results fn tmps).run P w = .ok (.tuple #[tmps.getD t undef, tmps.getD u undef, tmps.getD v undef, tmps.getD x undef]) w := by
  simp [results, h]
end Go.Proofs.Ytefbcebpokoinaa.Xw
namespace Go.Proofs.Ytefbcebpokoinaa
open Go.RowKit Go.Proofs.YtefbcebpokoinaaW.PrintWords Go.Proofs.YtefbcebpokoinaaW.PrintLast Go.Proofs.YtefbcebpokoinaaW.PrintMore
/-! Short names: a claim has at most 1.5 MB. -/
set_option linter.defProp false
def ba := @below_alloc
def bd := @pw_below_drewN
def be := @below_drew1
/-! Facts behind what only draws or lays something new: by instances, so that the texts stay short. -/
instance zi0 (B : Nat) (w : World) : Nonempty (Below B w w) := ⟨Below.refl B w⟩
instance zi1 (w W : World) (o : Obj) [h : Nonempty (Below w.heap.size w W)] : Nonempty (Below w.heap.size w (W.alloc o)) := h.elim fun h => ⟨below_alloc h o⟩
instance zi2 (w W : World) (n : Nat) [h : Nonempty (Below w.heap.size w W)] : Nonempty (Below w.heap.size w (W.drewN n)) := h.elim fun h => ⟨pw_below_drewN h n⟩
instance zi3 (w W : World) [h : Nonempty (Below w.heap.size w W)] : Nonempty (Below w.heap.size w W.drew) := h.elim fun h => ⟨below_drew1 h⟩
theorem zR {α : Type} {d : Kd α} {e base : Nat} {w W : World} {ok : Nat → Prop} {v : Value} {xs : List α} [hw : Nonempty (Below w.heap.size w W)] (h : d.R e w base ok v xs) : d.R e W base ok v xs := hw.elim fun hw => Kd.R_below h hw
theorem zC {α : Type} {d : Kd α} {w W : World} {A : Option Addr} {n : Nat} {xs : List α} [hw : Nonempty (Below w.heap.size w W)] (h : d.C w A n xs) : d.C W A n xs := hw.elim fun hw => Kd.C_below h hw
theorem zB {g : Nat} {o : Obj} {w W : World} [hw : Nonempty (Below w.heap.size w W)] (h : w.heap[g]? = some o) : W.heap[g]? = some o := hw.elim fun hw => blk_below h hw
theorem zL {w0 w W : World} [hw : Nonempty (Below w.heap.size w W)] (h : Below w0.heap.size w0 w) : Below w0.heap.size w0 W := hw.elim fun hw => below_step h hw
theorem zS {w0 w W : World} {g : Nat} [hw : Nonempty (Below w.heap.size w W)] (hg : g = W.heap.size) (h : Below w0.heap.size w0 w) : w0.heap.size ≤ g := hg ▸ below_size (zL h)
theorem zN {w W : World} {a g : Nat} {o : Obj} [hw : Nonempty (Below w.heap.size w W)] (hg : g = W.heap.size) (h : w.heap[a]? = some o) : a ≠ g := hg ▸ Nat.ne_of_lt (blk_lt (zB h))
theorem zM {w W : World} {a g : Nat} {o : Obj} [hw : Nonempty (Below w.heap.size w W)] (hg : g = W.heap.size) (h : w.heap[a]? = some o) : g ≠ a := (zN hg h).symm
theorem am {p : Prop} (h : p) : Aside0 p := ⟨h⟩
/-! A block's cells, all at once. -/
theorem b1 {w : World} {g : Nat} {t : TypeId} {v0 : Value} (h : w.heap[g]? = some (.cells #[v0] t (0, 0))) : w.cell? ⟨g, 0, none⟩ = some v0 ∧ w.frozen? ⟨g, 0, none⟩ = false := ⟨(blk_cell h 0).trans rfl, blk_frozen h 0⟩
theorem b2 {w : World} {g : Nat} {t : TypeId} {v0 v1 : Value} (h : w.heap[g]? = some (.cells #[v0, v1] t (0, 0))) : w.cell? ⟨g, 0, none⟩ = some v0 ∧ w.cell? ⟨g, 1, none⟩ = some v1 ∧ w.frozen? ⟨g, 0, none⟩ = false ∧ w.frozen? ⟨g, 1, none⟩ = false := ⟨(blk_cell h 0).trans rfl, (blk_cell h 1).trans rfl, blk_frozen h 0, blk_frozen h 1⟩
theorem b3 {w : World} {g : Nat} {t : TypeId} {v0 v1 v2 : Value} (h : w.heap[g]? = some (.cells #[v0, v1, v2] t (0, 0))) : w.cell? ⟨g, 0, none⟩ = some v0 ∧ w.cell? ⟨g, 1, none⟩ = some v1 ∧ w.cell? ⟨g, 2, none⟩ = some v2 ∧ w.frozen? ⟨g, 0, none⟩ = false ∧ w.frozen? ⟨g, 1, none⟩ = false ∧ w.frozen? ⟨g, 2, none⟩ = false := ⟨(blk_cell h 0).trans rfl, (blk_cell h 1).trans rfl, (blk_cell h 2).trans rfl, blk_frozen h 0, blk_frozen h 1, blk_frozen h 2⟩
theorem b4 {w : World} {g : Nat} {t : TypeId} {v0 v1 v2 v3 : Value} (h : w.heap[g]? = some (.cells #[v0, v1, v2, v3] t (0, 0))) : w.cell? ⟨g, 0, none⟩ = some v0 ∧ w.cell? ⟨g, 1, none⟩ = some v1 ∧ w.cell? ⟨g, 2, none⟩ = some v2 ∧ w.cell? ⟨g, 3, none⟩ = some v3 ∧ w.frozen? ⟨g, 0, none⟩ = false ∧ w.frozen? ⟨g, 1, none⟩ = false ∧ w.frozen? ⟨g, 2, none⟩ = false ∧ w.frozen? ⟨g, 3, none⟩ = false := ⟨(blk_cell h 0).trans rfl, (blk_cell h 1).trans rfl, (blk_cell h 2).trans rfl, (blk_cell h 3).trans rfl, blk_frozen h 0, blk_frozen h 1, blk_frozen h 2, blk_frozen h 3⟩
theorem b5 {w : World} {g : Nat} {t : TypeId} {v0 v1 v2 v3 v4 : Value} (h : w.heap[g]? = some (.cells #[v0, v1, v2, v3, v4] t (0, 0))) : w.cell? ⟨g, 0, none⟩ = some v0 ∧ w.cell? ⟨g, 1, none⟩ = some v1 ∧ w.cell? ⟨g, 2, none⟩ = some v2 ∧ w.cell? ⟨g, 3, none⟩ = some v3 ∧ w.cell? ⟨g, 4, none⟩ = some v4 ∧ w.frozen? ⟨g, 0, none⟩ = false ∧ w.frozen? ⟨g, 1, none⟩ = false ∧ w.frozen? ⟨g, 2, none⟩ = false ∧ w.frozen? ⟨g, 3, none⟩ = false ∧ w.frozen? ⟨g, 4, none⟩ = false := ⟨(blk_cell h 0).trans rfl, (blk_cell h 1).trans rfl, (blk_cell h 2).trans rfl, (blk_cell h 3).trans rfl, (blk_cell h 4).trans rfl, blk_frozen h 0, blk_frozen h 1, blk_frozen h 2, blk_frozen h 3, blk_frozen h 4⟩
theorem b6 {w : World} {g : Nat} {t : TypeId} {v0 v1 v2 v3 v4 v5 : Value} (h : w.heap[g]? = some (.cells #[v0, v1, v2, v3, v4, v5] t (0, 0))) : w.cell? ⟨g, 0, none⟩ = some v0 ∧ w.cell? ⟨g, 1, none⟩ = some v1 ∧ w.cell? ⟨g, 2, none⟩ = some v2 ∧ w.cell? ⟨g, 3, none⟩ = some v3 ∧ w.cell? ⟨g, 4, none⟩ = some v4 ∧ w.cell? ⟨g, 5, none⟩ = some v5 ∧ w.frozen? ⟨g, 0, none⟩ = false ∧ w.frozen? ⟨g, 1, none⟩ = false ∧ w.frozen? ⟨g, 2, none⟩ = false ∧ w.frozen? ⟨g, 3, none⟩ = false ∧ w.frozen? ⟨g, 4, none⟩ = false ∧ w.frozen? ⟨g, 5, none⟩ = false := ⟨(blk_cell h 0).trans rfl, (blk_cell h 1).trans rfl, (blk_cell h 2).trans rfl, (blk_cell h 3).trans rfl, (blk_cell h 4).trans rfl, (blk_cell h 5).trans rfl, blk_frozen h 0, blk_frozen h 1, blk_frozen h 2, blk_frozen h 3, blk_frozen h 4, blk_frozen h 5⟩
theorem b7 {w : World} {g : Nat} {t : TypeId} {v0 v1 v2 v3 v4 v5 v6 : Value} (h : w.heap[g]? = some (.cells #[v0, v1, v2, v3, v4, v5, v6] t (0, 0))) : w.cell? ⟨g, 0, none⟩ = some v0 ∧ w.cell? ⟨g, 1, none⟩ = some v1 ∧ w.cell? ⟨g, 2, none⟩ = some v2 ∧ w.cell? ⟨g, 3, none⟩ = some v3 ∧ w.cell? ⟨g, 4, none⟩ = some v4 ∧ w.cell? ⟨g, 5, none⟩ = some v5 ∧ w.cell? ⟨g, 6, none⟩ = some v6 ∧ w.frozen? ⟨g, 0, none⟩ = false ∧ w.frozen? ⟨g, 1, none⟩ = false ∧ w.frozen? ⟨g, 2, none⟩ = false ∧ w.frozen? ⟨g, 3, none⟩ = false ∧ w.frozen? ⟨g, 4, none⟩ = false ∧ w.frozen? ⟨g, 5, none⟩ = false ∧ w.frozen? ⟨g, 6, none⟩ = false := ⟨(blk_cell h 0).trans rfl, (blk_cell h 1).trans rfl, (blk_cell h 2).trans rfl, (blk_cell h 3).trans rfl, (blk_cell h 4).trans rfl, (blk_cell h 5).trans rfl, (blk_cell h 6).trans rfl, blk_frozen h 0, blk_frozen h 1, blk_frozen h 2, blk_frozen h 3, blk_frozen h 4, blk_frozen h 5, blk_frozen h 6⟩
theorem b8 {w : World} {g : Nat} {t : TypeId} {v0 v1 v2 v3 v4 v5 v6 v7 : Value} (h : w.heap[g]? = some (.cells #[v0, v1, v2, v3, v4, v5, v6, v7] t (0, 0))) : w.cell? ⟨g, 0, none⟩ = some v0 ∧ w.cell? ⟨g, 1, none⟩ = some v1 ∧ w.cell? ⟨g, 2, none⟩ = some v2 ∧ w.cell? ⟨g, 3, none⟩ = some v3 ∧ w.cell? ⟨g, 4, none⟩ = some v4 ∧ w.cell? ⟨g, 5, none⟩ = some v5 ∧ w.cell? ⟨g, 6, none⟩ = some v6 ∧ w.cell? ⟨g, 7, none⟩ = some v7 ∧ w.frozen? ⟨g, 0, none⟩ = false ∧ w.frozen? ⟨g, 1, none⟩ = false ∧ w.frozen? ⟨g, 2, none⟩ = false ∧ w.frozen? ⟨g, 3, none⟩ = false ∧ w.frozen? ⟨g, 4, none⟩ = false ∧ w.frozen? ⟨g, 5, none⟩ = false ∧ w.frozen? ⟨g, 6, none⟩ = false ∧ w.frozen? ⟨g, 7, none⟩ = false := ⟨(blk_cell h 0).trans rfl, (blk_cell h 1).trans rfl, (blk_cell h 2).trans rfl, (blk_cell h 3).trans rfl, (blk_cell h 4).trans rfl, (blk_cell h 5).trans rfl, (blk_cell h 6).trans rfl, (blk_cell h 7).trans rfl, blk_frozen h 0, blk_frozen h 1, blk_frozen h 2, blk_frozen h 3, blk_frozen h 4, blk_frozen h 5, blk_frozen h 6, blk_frozen h 7⟩
theorem zK {w W W2 : World} {S : Nat → Prop} [hw : Nonempty (Below W.heap.size W W2)] (h : Kept w W S) : Kept w W2 S := hw.elim fun hw => h.below hw
theorem zKB {w W W2 : World} {g : Nat} {r : Option Nat} [hw : Nonempty (Below W.heap.size W W2)] (h : KeepBut w W g r) : KeepBut w W2 g r := hw.elim fun hw => ⟨Nat.le_trans h.1 hw.size, fun i hi h1 h2 => (hw.block i (Nat.lt_of_lt_of_le hi h.1)).trans (h.2 i hi h1 h2)⟩
theorem mp1 {α β : Type} {f : α → β} {x0 : α} : #[x0].map f = #[f x0] := by simp
theorem mp2 {α β : Type} {f : α → β} {x0 x1 : α} : #[x0, x1].map f = #[f x0, f x1] := by simp
theorem mp3 {α β : Type} {f : α → β} {x0 x1 x2 : α} : #[x0, x1, x2].map f = #[f x0, f x1, f x2] := by simp
theorem mp4 {α β : Type} {f : α → β} {x0 x1 x2 x3 : α} : #[x0, x1, x2, x3].map f = #[f x0, f x1, f x2, f x3] := by simp
theorem mp5 {α β : Type} {f : α → β} {x0 x1 x2 x3 x4 : α} : #[x0, x1, x2, x3, x4].map f = #[f x0, f x1, f x2, f x3, f x4] := by simp
theorem mp0 {α β : Type} {f : α → β} : (#[] : Array α).map f = #[] := by simp
end Go.Proofs.Ytefbcebpokoinaa
