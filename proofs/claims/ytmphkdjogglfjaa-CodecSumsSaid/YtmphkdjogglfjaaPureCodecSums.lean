/- For every byte slice codec.Checksum returns what the reference's bit by bit CRC-32 returns, and the examples of the chapter hold; no condition. -/
import Derived.Test.YtmphkdjogglfjaaPl
namespace Go.Proofs.Ytmphkdjogglfjaa.Pure
open Go.RowKit Go.Proofs.Ytmphkdjogglfjaa.Y Go.Proofs.Ytmphkdjogglfjaa.Pl Go.Proofs.YtmphkdjogglfjaaW.PrintWords
theorem sums_eq (l : List Int) (hl : l.length ≤ 140737488351232) : ∀ k, (∀ (x i : Int), 0 ≤ i → i ≤ l.length → codec_Checksum.l0 k x l (l.length : Int) i = clusterlocksref01_Checksum.l0 k l x i) ∧
    (∀ (x i j : Int), 0 ≤ i → i < l.length → codec_Checksum.l1 k x l (l.length : Int) i j = clusterlocksref01_Checksum.l1 k l x i j)
  | 0 => ⟨fun _ _ _ _ => by simp only [codec_Checksum.l0, clusterlocksref01_Checksum.l0], fun _ _ _ _ _ => by simp only [codec_Checksum.l1, clusterlocksref01_Checksum.l1]⟩
  | k + 1 => by
    obtain ⟨ih0, ih1⟩ := sums_eq l hl k
    refine ⟨fun x i h0 h1 => ?_, fun x i j h0 h1 => ?_⟩
    · simp only [codec_Checksum.l0, clusterlocksref01_Checksum.l0]
      by_cases h : i < (l.length : Int)
      · rw [if_pos h, if_pos h, if_pos h0, if_pos h0, if_pos h]; exact ih1 _ _ _ h0 h
      · rw [if_neg h, if_neg h]
    · simp only [codec_Checksum.l1, clusterlocksref01_Checksum.l1]
      rw [ih1 _ _ _ h0 h1, ih1 _ _ _ h0 h1, w64_id (n := i + 1) (by omega) (by omega), ih0 _ _ (by omega) (by omega)]
theorem CodecSums : clusterlockslaw01_CodecSums.Pure := by
  intro l _ hl hw
  obtain ⟨r, hr⟩ := checksum_ends l (by omega)
  have hr2 : Al (fun k => clusterlocksref01_Checksum.f k l) r := Al.congr hr (fun k => ((sums_eq l (by omega) k).1 _ 0 (by omega) (by omega)).symm)
  refine Al.ex (r := true) ?_
  refine Al.congr (g := fun k => (clusterlockslaw01_awake.f k).bind _) ?_ (fun k => rfl)
  refine Al.bind awake_al ?_
  refine Al.congr (g := fun k => (codec_Checksum.f k l).bind fun a => (clusterlocksref01_Checksum.f k l).bind fun b => some (a == b)) ?_ (fun k => if_pos rfl)
  refine Al.bind hr (Al.bind hr2 ?_)
  refine Al.congr (Al.const true) (fun k => ?_)
  simp
end Go.Proofs.Ytmphkdjogglfjaa.Pure
