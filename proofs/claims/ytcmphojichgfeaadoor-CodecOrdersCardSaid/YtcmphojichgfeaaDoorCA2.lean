/- The codec seat: what the examples of awake answer. -/
import Derived.Test.YtcmphojichgfeaaDoorCA1
import Derived.Test.YtcmphojichgfeaaDoorCB3
import Derived.Test.YtcmphojichgfeaaDoorCH5
namespace Go.Proofs.YtcmphojichgfeaaDoor.QC
open Go.RowKit
set_option linter.unusedVariables false
set_option maxRecDepth 100000
theorem cnt0 (n : Nat) (h : n < 128) : cnt n = [(n : Int)] := by rw [cnt, dif_pos h]
theorem aM : codec_measure.f 20 3 0 ⟨#[]⟩ l2 = some (1, 8) := by kernel_rfl
theorem aP : codec_possible.f 3 0 ⟨#[]⟩ l2 = some true := by kernel_rfl
theorem aC1 : codec_Check.f 20 3 0 ⟨#[]⟩ l2 = some 0 := by kernel_rfl
theorem aC2 : codec_Check.f 20 0 0 ⟨#[]⟩ [] = some 1 := by kernel_rfl
theorem aW : codec_write.f [] 3 0 ⟨#[]⟩ l2 = some [108, 2, 110, 2, 116, 2, 97, 98] := by
  have e : enc 3 0 ⟨#[]⟩ l2 = [108, 2, 110, 2, 116, 2, 97, 98] := by
    have z : zig 1 = 2 := by decide
    simp only [enc, encV, encL, l2]
    rw [z]
    show 108 :: (cnt 2 ++ (110 :: cnt 2 ++ (116 :: (cnt 2 ++ [97, 98]) ++ []))) = _
    rw [cnt0 2 (by decide)]
    rfl
  unfold codec_write.f
  rw [e]
  rfl
theorem aE : codec_Encode.f 20 3 0 ⟨#[]⟩ l2 = some (⟨#[108, 2, 110, 2, 116, 2, 97, 98]⟩, 0) := by
  unfold codec_Encode.f
  rw [aC1]
  simp only [Option.bind_some, if_true]
  rw [aW]
  kernel_rfl
theorem aD1 : codec_Decode.f ⟨#[108, 2, 110, 2, 116, 2, 97, 98]⟩ = some (3, 0, ⟨#[]⟩, l2, 0) := by kernel_rfl
theorem aF : codec_First.f ⟨#[110, 128, 1, 114, 101, 115, 116]⟩ = some (1, 64, ⟨#[]⟩, [], 3, 0) := by kernel_rfl
theorem aD2 : codec_Decode.f ⟨#[110, 128, 0]⟩ = some (0, 0, ⟨#[]⟩, [], 2) := by kernel_rfl
theorem aQ1 : codec_Equal.f 3 0 ⟨#[]⟩ l2 3 0 ⟨#[]⟩ l2 = some true := by kernel_rfl
theorem aQ2 : codec_Equal.f 3 0 ⟨#[]⟩ l2 1 64 ⟨#[]⟩ [] = some false := by kernel_rfl
theorem aX : codec_Compare.f 1 (-5) ⟨#[]⟩ [] 1 3 ⟨#[]⟩ [] = some (-1) := by kernel_rfl
theorem hex_len : ∀ (k n : Nat), (hex k n).length = k
  | 0, _ => rfl
  | k + 1, n => by rw [hex, List.length_append, hex_len k]; rfl
theorem digB_size (s : ByteArray) : (digB s).size = 16 := by
  show (hex 16 (dfin (dhash s))).toArray.size = 16
  simp [hex_len]
theorem aG : codec_Digest.f ⟨#[]⟩ = some (digB ⟨#[]⟩) := by unfold codec_Digest.f; rw [if_pos (by decide)]
end Go.Proofs.YtcmphojichgfeaaDoor.QC
