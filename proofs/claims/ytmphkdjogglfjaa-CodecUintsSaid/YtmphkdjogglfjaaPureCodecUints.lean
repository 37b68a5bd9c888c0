/- For every number and all byte slices codec.PutUint appends what the reference appends (the shortest varint), and codec.Uint reads it back, whatever follows; no condition. -/
import Derived.Test.YtmphkdjogglfjaaPo
import Derived.Test.YtmphkdjogglfjaaY4
namespace Go.Proofs.Ytmphkdjogglfjaa.Pure
open Go.RowKit Go.Proofs.Ytmphkdjogglfjaa.Y Go.Proofs.Ytmphkdjogglfjaa.Pl Go.Proofs.YtmphkdjogglfjaaW.PrintWords
theorem wf_u64 {x : Int} (h : (Lit.int .u64 x).wf = true) : 0 ≤ x ∧ x < 18446744073709551616 := by
  have h1 : IntKind.u64.min ≤ x ∧ x ≤ IntKind.u64.max := by simpa [Lit.wf] using h
  have e1 : IntKind.u64.min = 0 := by decide
  have e2 : IntKind.u64.max = 18446744073709551615 := by decide
  omega
theorem CodecUints : clusterlockslaw01_CodecUints.Pure := by
  intro v l t hv _ hl hwl _ ht hwt
  obtain ⟨v0, v1⟩ := wf_u64 hv
  have bt := by_of_wf hwt
  have hq := enc_len 10 v
  refine Al.ex (r := true) ?_
  refine Al.bindE (fun k => rfl) (putuint l (by omega) v v0 v1) ?_
  refine Al.bindE (fun k => rfl) (rputuint l (by omega) v v0 v1) ?_
  refine Al.bindE (fun k => rfl) awake_al ?_
  have be := enc_by 10 v v0
  refine Al.bindE (r := (v, ((enc 10 v).length : Int), 0)) (g := fun k => codec_Uint.f k (enc 10 v ++ t)) (f := fun k b => if b.2.2 = 0 then (if b.1 = v then (some (b.2.1 == (wrap64 (((l ++ enc 10 v).length : Int) - (l.length : Int))))) else (some false)) else (some false)) (fun k => ?_) ?_ ?_
  · unfold bytes_Equal.f
    simp only [if_true, Option.bind_some, beq_self_eq_true, List.length_nil, Nat.zero_add, List.nil_append, Int.toNat_natCast, List.drop_left]
    rw [if_pos (by omega), if_pos (by rw [List.length_append]; omega), if_pos (by omega), if_pos (by omega)]
  · rw [← uint_enc v v0 v1 t]
    exact codec_uint (be.app bt)
  · refine Al.val fun k => ?_
    simp only [if_true]
    rw [w64_id (by simp; omega) (by simp; omega)]
    simp
    omega
end Go.Proofs.Ytmphkdjogglfjaa.Pure
