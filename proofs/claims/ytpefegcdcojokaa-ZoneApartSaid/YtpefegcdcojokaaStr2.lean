/- Of all bytes: the strings they make; no program in sight. -/
import Derived.Test.YtpefegcdcojokaaStr
set_option linter.unusedVariables false
set_option linter.unusedSimpArgs false
namespace Go.Proofs.Ytpefegcdcojokaa.Disk
open Go Go.Proofs Go.Proofs.Ytpefegcdcojokaa.V Go.RowKit

def str (l : List UInt8) : ByteArray := ⟨l.toArray⟩
theorem str_size (l : List UInt8) : (str l).size = l.length := by simp [str, ByteArray.size]
theorem str_data (l : List UInt8) : (str l).data.toList = l := by simp [str]
theorem str_of (s : ByteArray) : str s.data.toList = s := str_ext (by simp [str])
theorem str_inj {a b : List UInt8} (h : str a = str b) : a = b := by rw [← str_data a, h, str_data]
theorem str_beq (a b : List UInt8) : ((str a).toList == (str b).toList) = decide (a = b) := by
  rw [str_toList, str_toList, str_data, str_data]
  by_cases h : a = b
  · subst h; simp
  · rw [decide_eq_false h]; simpa using h
theorem str_extract (l : List UInt8) (a b : Nat) : (str l).extract a b = str ((l.take b).drop a) := by
  apply str_ext
  rw [str_data]
  simp only [str, ByteArray.data_extract, Array.toList_extract, List.extract]
  rw [List.drop_take]
theorem str_app (a b : List UInt8) : str a ++ str b = str (a ++ b) := by
  apply str_ext
  rw [str_data]
  simp [str]
end Go.Proofs.Ytpefegcdcojokaa.Disk
