/- Texts as lists of bytes: splitting, cutting, hexadecimal digits. -/
import Derived.Test.YtaegeaajhbfkgaaGreatDoorFrD
namespace Go.Proofs.YtaegeaajhbfkgaaGreatDoorA
open Go
set_option linter.unusedVariables false
set_option linter.unusedSimpArgs false
set_option linter.unnecessarySimpa false
def bs (l : List UInt8) : ByteArray := ⟨l.toArray⟩
def bl (s : ByteArray) : List UInt8 := s.data.toList
theorem bs_bl (s : ByteArray) : bs (bl s) = s := rfl
theorem bl_bs (l : List UInt8) : bl (bs l) = l := rfl
theorem bl_len (s : ByteArray) : (bl s).length = s.size := by simp [bl]
theorem bs_size (l : List UInt8) : (bs l).size = l.length := by simp [bs, ByteArray.size]
theorem bl_app (a b : ByteArray) : bl (a ++ b) = bl a ++ bl b := by simp [bl]
theorem bl_inj {a b : ByteArray} (h : bl a = bl b) : a = b := by rw [← bs_bl a, h, bs_bl]
theorem bs_inj {a b : List UInt8} (h : bs a = bs b) : a = b := by rw [← bl_bs a, h, bl_bs]
end Go.Proofs.YtaegeaajhbfkgaaGreatDoorA

