/- For every payload and cut: codec.Unframe refuses every proper prefix of the frame of the payload with ErrShort, without payload or length; no condition. -/
import Derived.Test.YtmphkdjogglfjaaPg
namespace Go.Proofs.Ytmphkdjogglfjaa.Pure
open Go.RowKit Go.Proofs.Ytmphkdjogglfjaa.Y Go.Proofs.Ytmphkdjogglfjaa.Pl Go.Proofs.YtmphkdjogglfjaaW.PrintWords
theorem By.take {l : List Int} (h : By l) (n : Nat) : By (l.take n) := fun x hx => h x (List.mem_of_mem_take hx)
theorem CodecPrefixes : clusterlockslaw01_CodecPrefixes.Pure := by
  intro l c _ hn hw hc
  have hl := by_of_wf hw
  refine Al.ex (r := true) ?_
  have hj : ∀ {G : Nat → Option Bool}, Al (fun k => G (k + 1)) true → Al G true := by
    rintro G ⟨K, hK⟩
    refine ⟨K + 1, fun k hk => ?_⟩
    obtain ⟨k, rfl⟩ : ∃ m, k = m + 1 := ⟨k - 1, by omega⟩
    exact hK k (by omega)
  by_cases h : l.length ≤ 4096
  · refine Al.bindE (fun k => rfl) (frame_al h) ?_
    refine Al.bindE (fun k => rfl) awake_al ?_
    simp only [if_true]
    refine hj ?_
    simp only [clusterlockslaw01_CodecPrefixes.j0]
    have e1 : (((0 : Int) == 0) != decide ((l.length : Int) ≤ 4096)) = false := by rw [decide_eq_true (by omega)]; rfl
    rw [e1]
    simp only [if_true, Bool.false_eq_true, if_false]
    by_cases h1 : c < 0
    · exact Al.val fun k => by rw [if_pos h1]
    · by_cases h2 : c ≥ ((fr l).length : Int)
      · exact Al.val fun k => by rw [if_neg h1, if_pos h2]
      · refine Al.bindE (fun k => by rw [if_neg h1, if_neg h2, if_pos (by omega), if_pos (by omega)]) (unframe_al (By.take (fr_by hl) _) ?_) ?_
        · have := fr_len l; have := enc_len 10 (l.length : Int); rw [List.length_take]; omega
        · rw [unf_short h _ (by omega)]
          exact Al.val fun k => rfl
  · refine Al.bindE (fun k => rfl) (frame_long h) ?_
    refine Al.bindE (fun k => rfl) awake_al ?_
    simp only [if_true]
    refine hj ?_
    simp only [clusterlockslaw01_CodecPrefixes.j0]
    have e1 : (((3 : Int) == 0) != decide ((l.length : Int) ≤ 4096)) = false := by rw [decide_eq_false (by omega)]; rfl
    rw [e1]
    exact Al.val fun k => rfl
end Go.Proofs.Ytmphkdjogglfjaa.Pure
