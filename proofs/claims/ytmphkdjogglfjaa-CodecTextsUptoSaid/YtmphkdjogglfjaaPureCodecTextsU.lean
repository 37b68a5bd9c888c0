/- For every string and all byte slices codec.PutText appends what the reference appends, codec.Text reads a string of at most MaxText bytes back, whatever follows, and refuses a longer one with ErrTooLong; the arguments hold together at most 1048576 values and letters. -/
import Derived.Test.YtmphkdjogglfjaaPg
import Derived.Test.YtmphkdjogglfjaaYQCodecTextsU
namespace Go.Proofs.Ytmphkdjogglfjaa.Pure
open Go.RowKit Go.Proofs.Ytmphkdjogglfjaa.Y Go.Proofs.Ytmphkdjogglfjaa.Pl Go.Proofs.YtmphkdjogglfjaaW.PrintWords
theorem str_back (s : ByteArray) : strOfNums (bytesOf s) = s := by
  unfold strOfNums bytesOf
  rw [List.map_map, List.map_congr_left (g := id) (fun x _ => by simp), List.map_id]
theorem by_str (s : ByteArray) : By (bytesOf s) := by
  intro x hx
  simp only [bytesOf, List.mem_map] at hx
  obtain ⟨b, _, rfl⟩ := hx
  have := b.toNat_lt
  omega
theorem szd_app (v : Int) (p t : List Int) (h0 : v = p.length) (hv : v < 18446744073709551616) (h1 : v ≤ 1024) : szd (enc 10 v ++ (p ++ t)) 1024 = (p, ((enc 10 v).length : Int) + v, 0) := by
  have hu := uint_enc v (by omega) (by omega) (p ++ t)
  unfold szd
  rw [hu]
  simp only [if_true]
  rw [if_neg (by omega), if_neg (by simp; omega)]
  congr 1
  rw [Int.toNat_natCast, show (((enc 10 v).length : Int) + v).toNat = (enc 10 v).length + p.length by omega]
  rw [List.take_length_add_append, List.take_left, List.drop_left]
theorem CodecTextsU : clusterlockslaw01_CodecTexts.PureXU := by
  intro s l t hs0 hs hw hn hwt ht
  have hl := by_of_wf hw.2
  have hbt := by_of_wf hwt.2
  have hn' : l.length ≤ 1048576 := by omega
  have ht' : t.length ≤ 1048576 := by omega
  clear hn ht hs0
  refine Al.ex (r := true) ?_
  have hj : ∀ {G : Nat → Option Bool}, Al (fun k => G (k + 1)) true → Al G true := by
    rintro G ⟨K, hK⟩
    refine ⟨K + 1, fun k hk => ?_⟩
    obtain ⟨k, rfl⟩ : ∃ m, k = m + 1 := ⟨k - 1, by omega⟩
    exact hK k (by omega)
  have hq := enc_len 10 (s.size : Int)
  have hbl := bytesOf_length s
  have e1 : IntKind.u64.wrap ((s.size : Int)) = s.size := u64w_id (by omega) (by omega)
  have p1 : Al (fun k => codec_PutText.f k l s) (l ++ enc 10 (s.size : Int) ++ bytesOf s) := by
    refine Al.bindE (fun k => by unfold codec_PutText.f; rw [e1]) (putuint l (by omega) (s.size : Int) (by omega) (by omega)) (Al.val fun k => ?_)
    rw [if_pos (by rw [List.length_append]; omega)]
  have p2 : Al (fun k => clusterlocksref01_PutText.f k l s) (l ++ enc 10 (s.size : Int) ++ bytesOf s) := by
    refine Al.bindE (fun k => by unfold clusterlocksref01_PutText.f; rw [e1]) (rputuint l (by omega) (s.size : Int) (by omega) (by omega)) (Al.val fun k => ?_)
    rw [if_pos (by rw [List.length_append]; omega)]
  refine Al.bindE (fun k => rfl) p1 ?_
  refine Al.bindE (fun k => rfl) awake_al ?_
  simp only [if_true]
  refine Al.bindE (fun k => rfl) p2 ?_
  refine Al.bindE (r := true) (g := fun k => bytes_Equal.f (l ++ enc 10 (s.size : Int) ++ bytesOf s) (l ++ enc 10 (s.size : Int) ++ bytesOf s)) (fun k => rfl) (Al.val fun k => by unfold bytes_Equal.f; simp) ?_
  refine hj ?_
  simp only [clusterlockslaw01_CodecTexts.j0]
  have hlen : ((l ++ enc 10 (s.size : Int) ++ bytesOf s).length : Int) = l.length + (enc 10 (s.size : Int)).length + s.size := by simp only [List.length_append, hbl]; omega
  refine Al.bindE (g := fun k => codec_Text.f k (enc 10 (s.size : Int) ++ (bytesOf s ++ t))) (f := fun k b => if (s.size : Int) > 1024 then (if b.2.2 = 3 then (if b.1.toList = ([] : List UInt8) then (some (b.2.1 == 0)) else (some false)) else (some false)) else (if b.2.2 = 0 then (if b.1.toList = s.toList then (some (b.2.1 == (wrap64 (((l ++ enc 10 (s.size : Int) ++ bytesOf s).length : Int) - (l.length : Int))))) else (some false)) else (some false))) (fun k => ?_) (text_al ((enc_by 10 _ (by omega)).app ((by_str s).app hbt)) (by simp only [List.length_append, hbl]; omega)) ?_
  · simp only [Bool.not_true, Bool.false_eq_true, if_false, Option.bind_some, List.nil_append, List.length_nil, Nat.zero_add, Int.toNat_natCast]
    rw [List.append_assoc l, List.drop_left]
    rw [if_pos (by omega), if_pos (by simp only [List.length_append, hbl]; omega), if_pos (by simp only [List.length_append, hbl]; omega), if_pos (by simp only [List.length_append, hbl]; omega), List.append_assoc]
  · rw [hlen, w64_id (by omega) (by omega)]
    by_cases h : s.size ≤ 1024
    · rw [szd_app (s.size : Int) (bytesOf s) t (by omega) (by omega) (by omega)]
      simp only [if_true, str_back]
      refine Al.val fun k => ?_
      rw [if_neg (by omega)]
      simp
      omega
    · have hu := uint_enc (s.size : Int) (by omega) (by omega) (bytesOf s ++ t)
      have hz : szd (enc 10 (s.size : Int) ++ (bytesOf s ++ t)) 1024 = ([], 0, 3) := by
        unfold szd
        rw [hu]
        simp only [if_true]
        rw [if_pos (by omega)]
      rw [hz]
      refine Al.val fun k => ?_
      simp only [show ¬ ((3 : Int) = 0) by decide, if_false, if_true]
      rw [if_pos (by omega)]
      rw [if_pos (show (ByteArray.mk #[]).toList = [] by rw [ByteArray.toList]; unfold ByteArray.toList.loop; rfl)]
      rfl
end Go.Proofs.Ytmphkdjogglfjaa.Pure
