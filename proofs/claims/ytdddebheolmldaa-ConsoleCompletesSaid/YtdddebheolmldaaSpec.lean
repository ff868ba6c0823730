/- What console.Complete computes. -/
import Derived.Test.YtdddebheolmldaaAbs14
import Derived.Test.YtdddebheolmldaaAbs9
namespace Go.Proofs.YtdddebheolmldaaA
open Go
set_option linter.unusedVariables false

structure Verb where
  name : ByteArray
  b1 : Bool
  b2 : Bool
  n1 : Int
  n2 : Int
def Verb.enc (v : Verb) : List D := [.str v.name, .bool v.b1, .bool v.b2, .int .i64 v.n1, .int .i64 v.n2]
def se (s : ByteArray) : List D := [.str s]
def hasP (s p : ByteArray) : Bool := decide ((p.size : Int) ≤ (s.size : Int)) && ((s.extract 0 p.size).toList == p.toList)
def compl (vl : List Verb) (s : ByteArray) (k : Nat) : List ByteArray := ((vl.take k).map (·.name)).filter fun v => hasP v s
theorem compl_succ {vl : List Verb} {s : ByteArray} {k : Nat} {v : Verb} (h : vl[k]? = some v) : compl vl s (k + 1) = if hasP v.name s = true then compl vl s k ++ [v.name] else compl vl s k := by
  unfold compl
  rw [List.take_add_one, h, List.map_append, List.filter_append]
  simp only [Option.toList_some, List.map_cons, List.map_nil]
  split
  · rename_i h2; rw [List.filter_cons_of_pos (p := fun v => hasP v s) h2]; rfl
  · rename_i h2; rw [List.filter_cons_of_neg (p := fun v => hasP v s) h2, List.filter_nil, List.append_nil]
def filt (l : List ByteArray) (s : ByteArray) (k : Nat) : List ByteArray := (l.take k).filter fun v => hasP v s
theorem filt_succ {l : List ByteArray} {s : ByteArray} {k : Nat} {v : ByteArray} (h : l[k]? = some v) : filt l s (k + 1) = if hasP v s = true then filt l s k ++ [v] else filt l s k := by
  unfold filt
  rw [List.take_add_one, h, List.filter_append]
  simp only [Option.toList_some]
  split
  · rename_i h2; rw [List.filter_cons_of_pos (p := fun v => hasP v s) h2]; rfl
  · rename_i h2; rw [List.filter_cons_of_neg (p := fun v => hasP v s) h2, List.filter_nil, List.append_nil]
theorem filt_len (l : List ByteArray) (s : ByteArray) (k : Nat) : (filt l s k).length ≤ l.length := Nat.le_trans (List.length_filter_le _ _) (by rw [List.length_take]; exact Nat.min_le_right _ _)
theorem compl_len (l : List Verb) (s : ByteArray) (k : Nat) : (compl l s k).length ≤ l.length := Nat.le_trans (List.length_filter_le _ _) (by rw [List.length_map, List.length_take]; exact Nat.min_le_right _ _)
end Go.Proofs.YtdddebheolmldaaA
