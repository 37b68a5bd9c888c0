import Derived.Test.YtmphkdjogglfjaaProg
import Derived.Deep.DeepFit
import Derived.Test.YtmphkdjogglfjaaWWords
import Derived.Test.YtmphkdjogglfjaaWLast
import Derived.Test.YtmphkdjogglfjaaWTab
import Derived.Test.YtmphkdjogglfjaaWFour
import Derived.Test.YtmphkdjogglfjaaWQPut
import Derived.Test.YtmphkdjogglfjaaWApart
import Derived.Test.YtmphkdjogglfjaaWArr
import Derived.Test.YtmphkdjogglfjaaWZeros
import Derived.Test.YtmphkdjogglfjaaWFoot
import Derived.Test.YtmphkdjogglfjaaWKept
import Derived.Test.YtmphkdjogglfjaaWShare
import Derived.Test.YtmphkdjogglfjaaWN
import Derived.Test.YtmphkdjogglfjaaWFootNe
import Derived.Test.YtmphkdjogglfjaaWAt
import Derived.Test.YtmphkdjogglfjaaWEqStruct
import Derived.Test.YtmphkdjogglfjaaWRepsOne
import Derived.Test.YtmphkdjogglfjaaWInv
import Derived.Test.YtmphkdjogglfjaaWInvWords
import Derived.Test.YtmphkdjogglfjaaWGuard
import Derived.Test.YtmphkdjogglfjaaWNEv
import Derived.Test.YtmphkdjogglfjaaWMore
import Derived.ArgAppend
import Derived.Lib.SlBytesConst
namespace Go.Proofs.Ytmphkdjogglfjaa.Xw
open Go.RowKit Go.Proofs.YtmphkdjogglfjaaW.PrintWords Go.Proofs.YtmphkdjogglfjaaW.PrintLast Go.Proofs.YtmphkdjogglfjaaW.PrintMore
set_option linter.unusedVariables false
set_option linter.unusedSimpArgs false
theorem u32_w (n : Int) : IntKind.u32.wrap n = n % 4294967296 := by simp [IntKind.wrap, IntKind.bits, IntKind.signed]
theorem u8_w (n : Int) : IntKind.u8.wrap n = n % 256 := by simp [IntKind.wrap, IntKind.bits, IntKind.signed]
section
variable {P : Program}
theorem cut_to3 (t e : TypeId) (kh km : IntKind) {i : TypeInfo} (ht : P.underlying t = some (.slice e)) (hi : P.info? e = some i) (A : Option Addr) (n c : Nat) (j : Int) (h0 : 0 ≤ j) (hm : j ≤ n) (hc : n ≤ c) :
    ∀ W : World, (Instr.slice t (.slice A n c) none (some (.int kh j)) (some (.int km j))).run P W = .ok (.slice A j.toNat j.toNat) W := by
  intro W
  have hel : P.elem t = e := by simp [Program.elem, ht]
  have hu : P.underlying t = some (.slice (P.elem t)) := by rw [hel]; exact ht
  have ha : (A.map fun x => x.add 0) = A := by cases A <;> simp [Addr.add]
  rw [run_slice_hm W t A n c hu kh km j j h0 (by omega) (by omega), hel]
  simp [sizeOf, typeInfo, hi, sliced, Result.andThen, ha]
theorem cut_mid3 (t e : TypeId) (kl kh km : IntKind) {i : TypeInfo} (ht : P.underlying t = some (.slice e)) (hi : P.info? e = some i) (size : Nat) (hsz : i.size = size) (A : Option Addr) (n c : Nat) (lo hi' : Int) (h0 : 0 ≤ lo) (h1 : lo ≤ hi') (h2 : hi' ≤ n) (hc : n ≤ c) :
    ∀ W : World, (Instr.slice t (.slice A n c) (some (.int kl lo)) (some (.int kh hi')) (some (.int km hi'))).run P W = .ok (.slice (if hi'.toNat = lo.toNat then A else A.map (·.add (lo.toNat * size))) (hi'.toNat - lo.toNat) (hi'.toNat - lo.toNat)) W := by
  intro W
  have hel : P.elem t = e := by simp [Program.elem, ht]
  have hu : P.underlying t = some (.slice (P.elem t)) := by rw [hel]; exact ht
  rw [run_slice_lhm W t A n c hu kl kh km lo hi' hi' h0 h1 (by omega) (by omega), hel]
  simp [sizeOf, typeInfo, hi, hsz, sliced, Result.andThen]
end
section
variable {α : Type} {k : Kd α} {w : World} {ok : Nat → Prop} {A : Option Addr} {xs : List α} {lo hi : Nat}
theorem C_mid3 (h : k.C w A xs.length xs) (h1 : lo ≤ hi) (h2 : hi ≤ xs.length) : k.C w (if hi = lo then A else A.map (·.add (lo * k.sz))) ((xs.take hi).drop lo).length ((xs.take hi).drop lo) := by
  have hl : (xs.take hi).length = hi := by rw [List.length_take]; omega
  exact Kd.C_drop (Kd.C_take h h2) (by omega) (by omega)
theorem F_mid3 (h : k.F w ok A xs.length xs) (h1 : lo ≤ hi) (h2 : hi ≤ xs.length) : k.F w ok (if hi = lo then A else A.map (·.add (lo * k.sz))) ((xs.take hi).drop lo).length ((xs.take hi).drop lo) :=
  Kd.F_imp h (fun _ hC => C_mid3 hC h1 h2)
end
/-- 'append(b[:len(b):len(b)], ys...)', b a slice of whole numbers that came in, ys not empty: a new row. -/
theorem append_full {P : Program} {ops : Array Oper} {rest : List Oper} {o : Oper} {a : Act} {Q : Exit → Act → World → Prop} {W : World} (hgd : o.guard = none) (s x : Operand) (t e : TypeId) (k : IntKind) (bytes : Nat)
    (ho : o.op = .call { callee := .builtin .append, args := #[s, x], argTypes := #[t, t] })
    (ht : P.underlying t = some (.slice e)) (hinfo : (P.info? e).map (fun i => (i.zero, i.size, i.bytes)) = some (some (.int k 0), 1, bytes)) (hb0 : 0 < bytes)
    (A : Option Addr) (xs : List Int) (A1 : Option Addr) (c1 : Nat) (ys : List Int) (hs : a.eval s = .slice A xs.length xs.length) (hx : a.eval x = .slice A1 ys.length c1)
    (hR : (Kd.int k).C W A xs.length xs) (hR1 : (Kd.int k).C W A1 ys.length ys) (hy : 0 < ys.length) (hl : (xs.length + ys.length) * bytes ≤ 140737488355328)
    (h : ∀ v1 w1, (Kd.int k).R e w1 W.heap.size (fun _ => True) v1 (xs ++ ys) → Below W.heap.size W w1 → wpList P ops Q rest (a.put o.dst v1) w1) :
    wpList P ops Q (o :: rest) a W := by
  obtain ⟨i0, hi, hzz⟩ := Option.map_eq_some_iff.1 hinfo
  simp only [Prod.mk.injEq] at hzz
  obtain ⟨hz0, hz1, hz2⟩ := hzz
  have hlen : xs.length + ys.length ≤ 140737488355328 := Nat.le_trans (Nat.le_mul_of_pos_right _ hb0) hl
  obtain ⟨_, _, hcx⟩ := Kd.reads_of_C (enc := Value.int k) (d := (0 : Int)) (h1 := fun _ => rfl) hR
  obtain ⟨_, _, hcy⟩ := Kd.reads_of_C (enc := Value.int k) (d := (0 : Int)) (h1 := fun _ => rfl) hR1
  obtain ⟨ad1, rfl, hc1⟩ := hcy hy
  have news : ∀ j u, (nums k ys)[j]? = some u → W.cell? (ad1.add j) = some u := fun j u hu => by
    have hj : j < ys.length := by
      rcases Nat.lt_or_ge j ys.length with h | h
      · exact h
      · simp [nums, List.getElem?_eq_none h] at hu
    have := hc1 j hj
    simp [nums, List.getElem?_eq_getElem hj] at hu
    subst hu
    rw [this]
    simp [List.getD_eq_getElem?_getD, List.getElem?_eq_getElem hj]
  have hlz : (nums k xs).length = xs.length * 1 := by simp [nums]
  have hly : (nums k ys).length = ys.length * 1 := by simp [nums]
  have hone : ∀ u ∈ nums k ys, u.oneCell' = true := by
    intro u hu
    simp only [nums, List.mem_map] at hu
    obtain ⟨_, _, rfl⟩ := hu
    rfl
  have holds : ∀ ad, A = some ad → ∀ j u, (nums k xs)[j]? = some u → W.cell? (ad.add j) = some u := by
    intro ad e j u hu
    have hj : j < xs.length := by
      rcases Nat.lt_or_ge j xs.length with h | h
      · exact h
      · simp [nums, List.getElem?_eq_none h] at hu
    obtain ⟨ad', e', hc⟩ := hcx (by omega)
    rw [e] at e'
    injection e' with e'
    subst e'
    have := hc j hj
    simp [nums, List.getElem?_eq_getElem hj] at hu
    subst hu
    rw [this]
    simp [List.getD_eq_getElem?_getD, List.getElem?_eq_getElem hj]
  refine wpList_append_grows W hgd s x t ho e i0 (.int k 0) 1 bytes ht hi hz0 hz1 hz2 rfl (by omega) A xs.length xs.length (nums k xs) hs (fun e => by have : ¬ 0 < xs.length := (fun hp => by obtain ⟨ad, e', _⟩ := hcx hp; rw [e] at e'; cases e'); omega) hlz holds ad1 ys.length c1 (nums k ys) hx hly news hone (by omega) (by simp only [maxLen]; omega) hl ?_
  intro v1 w1 hown hg
  refine h v1 w1 ?_ ((Below.refl _ _).grown hg (Nat.le_refl _) (by simp))
  exact Kd.R_of_own (enc := Value.int k) (h1 := fun _ => rfl) (by rw [List.length_append]; simpa [encs, nums] using hown) (fun _ _ => trivial)

/-- '[]byte("constant")': a literal's row and, behind it, the conversion to its own type, which marks the row: what comes is only read. -/
theorem bytesL_ {P : Program} {ops : Array Oper} {rest : List Oper} {o1 o2 : Oper} {a : Act} {Q : Exit → Act → World → Prop} {W : World} (N1 N2 : Tmp) (T e : TypeId) (hg1 : Region.wanted o1 (yielded ops a.tmps) = true) (hd1 : o1.dst = some N1) (hg2 : ∀ v, Region.wanted o2 (yielded ops (a.put (some N1) v).tmps) = true) (hd2 : o2.dst = some N2)
    (ho2 : o2.op = .convert T T (.tmp N1)) (ht : P.underlying T = some (.slice e)) (he : P.underlying e = some (.int .u8)) (xs : List Int)
    (hrun : (execOp a.eval o1).run P W = .ok (.value (.slice (some ⟨W.heap.size, 0, none⟩) xs.length xs.length)) (W.alloc (.cells (nums .u8 xs).toArray e)))
    (hev : ∀ v, (a.put (some N1) v).eval (.tmp N1) = v) (hm : xs.length ≤ 9223372036854775807)
    (h : ∀ v w1, (Kd.int .u8).V e w1 W.heap.size (fun k_ => W.heap.size ≤ k_) v xs → Below W.heap.size W w1 → wpList P ops Q rest ((a.put (some N1) v).put (some N2) v) w1) :
    wpList P ops Q (o1 :: o2 :: rest) a W := by
  refine gate_guard hg1 ?_
  refine Kd.event_run (o := { o1 with guard := none }) rfl hrun ?_
  have hc := Lib.run_convert_bytes_const (P := P) W T e (nums .u8 xs).toArray xs.length xs.length ht he
  have hrun2 : (execOp (a.put o1.dst (.slice (some ⟨W.heap.size, 0, none⟩) xs.length xs.length)).eval o2).run P (W.alloc (.cells (nums .u8 xs).toArray e)) =
      .ok (.value (.slice (some ⟨W.heap.size, 0, none⟩) xs.length xs.length)) (W.alloc (.cells (nums .u8 xs).toArray e ((nums .u8 xs).toArray.size, (nums .u8 xs).toArray.size + 1))) := by
    unfold execOp
    rw [hd1]
    simp only [ho2]
    simp only [Sem.run_bind, Sem.run_pure, hev, hc, Result.andThen_ok]
  refine gate_guard (by show Region.wanted o2 (yielded ops (a.put o1.dst _).tmps) = true; rw [hd1]; exact hg2 _) ?_
  refine Kd.event_run (o := { o2 with guard := none }) rfl hrun2 ?_
  show wpList P ops Q rest ((a.put o1.dst _).put o2.dst _) _
  rw [hd1, hd2]
  refine h _ _ (Kd.V_mk (Nat.le_refl _) (fun W' hW => ?_)) ((Below.refl _ _).alloc (Nat.le_refl _) _)
  have hb := hW W.heap.size (Nat.le_refl _) (by simp)
  rw [heap_alloc_new] at hb
  refine Kd.C_of_reads (enc := Value.int .u8) (d := (0 : Int)) (h1 := fun _ => rfl) ⟨rfl, hm, fun _ => ⟨_, rfl, fun j hj => ?_⟩⟩
  rw [add_plain]
  unfold World.cell?
  simp only [hb]
  simp [nums, List.getElem?_eq_getElem hj, List.getD_eq_getElem?_getD]
theorem V_string {P : Program} {w : World} {src dst e e' base : TypeId} {ok : Nat → Prop} {v : Value} {xs : List Int} (hs : P.underlying src = some (.slice e)) (he : P.underlying e = some (.int .u8)) (hd : P.underlying dst = some .string)
    (h : (Kd.int .u8).V e' w base ok v xs) : (convert src dst v).run P w = .ok (.string (strOfNums xs)) w := by
  obtain ⟨A, c, rfl, hl, hF⟩ := h
  exact Kd.C_string hs he hd (Kd.F_now hF)
end Go.Proofs.Ytmphkdjogglfjaa.Xw
