/- States of keys and values, on plain lists. -/
import Derived.Test.YtodbcbojkfndiaaGreatDoorStr2
import Derived.Test.YtodbcbojkfndiaaGreatDoorFrC
namespace Go.Proofs.YtodbcbojkfndiaaGreatDoorA
open Go
set_option linter.unusedVariables false
set_option linter.unusedSimpArgs false
set_option linter.unnecessarySimpa false

structure SR where
  key : ByteArray
  val : ByteArray
def SR.enc (x : SR) : List D := [.str x.key, .str x.val]
theorem SR.ext2 {x y : SR} (h : x.key = y.key) (k : x.val = y.val) : x = y := by cases x; cases y; cases h; cases k; rfl

def byteAt (s : ByteArray) (k : Nat) : UInt8 := s.data.toList.getD k 0
def allB (p : UInt8 → Bool) (s : ByteArray) : Bool := (List.range s.size).all fun k => p (byteAt s k)
theorem allB_bad {p : UInt8 → Bool} {s : ByteArray} {k : Nat} (hk : k < s.size) (h : p (byteAt s k) = false) : allB p s = false :=
  List.all_eq_false.2 ⟨k, by simpa using hk, by simp [h]⟩
theorem allB_ok {p : UInt8 → Bool} {s : ByteArray} (h : ∀ k, k < s.size → p (byteAt s k) = true) : allB p s = true := List.all_eq_true.2 fun k hk => h k (by simpa using hk)
theorem allB_iff {p : UInt8 → Bool} {s : ByteArray} : allB p s = true ↔ ∀ b ∈ bl s, p b = true := by
  constructor
  · intro h b hb
    obtain ⟨i, hi⟩ := List.getElem?_of_mem hb
    have hlt : i < s.size := by rw [← bl_len]; exact (List.getElem?_eq_some_iff.1 hi).1
    have := List.all_eq_true.1 h i (by simpa using hlt)
    have e : byteAt s i = b := by unfold byteAt; rw [List.getD_eq_getElem?_getD]; show ((bl s)[i]?).getD 0 = b; rw [hi]; rfl
    rwa [e] at this
  · intro h
    refine allB_ok fun k hk => h _ ?_
    have hk' : k < (bl s).length := by rw [bl_len]; exact hk
    have e : byteAt s k = (bl s)[k] := by unfold byteAt; rw [List.getD_eq_getElem?_getD]; show ((bl s)[k]?).getD 0 = _; rw [List.getElem?_eq_getElem hk']; rfl
    rw [e]; exact List.getElem_mem _
def keyB (c : UInt8) : Bool := decide (97 ≤ c.toNat ∧ c.toNat ≤ 122 ∨ 48 ≤ c.toNat ∧ c.toNat ≤ 57 ∨ c.toNat = 46)
def valB (c : UInt8) : Bool := decide (32 ≤ c.toNat ∧ c.toNat ≤ 126)
def keyedS (s : ByteArray) : Bool := allB keyB s && (!seq s ⟨#[]⟩ && decide ((s.size : Int) ≤ 12))
def valuedS (s : ByteArray) : Bool := allB valB s && decide ((s.size : Int) ≤ 40)
theorem keyB_iff (c : UInt8) : keyB c = true ↔ 97 ≤ c.toNat ∧ c.toNat ≤ 122 ∨ 48 ≤ c.toNat ∧ c.toNat ≤ 57 ∨ c.toNat = 46 := by simp [keyB]
theorem valB_iff (c : UInt8) : valB c = true ↔ 32 ≤ c.toNat ∧ c.toNat ≤ 126 := by simp [valB]

def badR (x : SR) : Bool := !keyedS x.key || !valuedS x.val
def leP (p : Option ByteArray) (k : ByteArray) : Bool := match p with | some q => decide (cmpB k q ≤ 0) | none => false
/-- What Check finds in rows, behind one with the key p. -/
def chkR : Option ByteArray → List SR → Int
  | _, [] => 0
  | p, r :: l => if badR r = true then 3 else if leP p r.key = true then 7 else chkR (some r.key) l
def prevK (l : List SR) : Nat → Option ByteArray
  | 0 => none
  | k + 1 => (l[k]?).map (·.key)
def checkL (l : List SR) : Int := if 64 < l.length then 2 else chkR none l

def ltS (x y : SR) : Prop := cmpB x.key y.key < 0
structure okS (l : List SR) : Prop where
  srt : l.Pairwise ltS
  form : ∀ x ∈ l, keyedS x.key = true ∧ valuedS x.val = true
theorem chkR_ok : ∀ {l : List SR} {p : Option ByteArray}, chkR p l = 0 ↔ okS l ∧ ∀ q, p = some q → ∀ x ∈ l.head?, cmpB q x.key < 0
  | [], p => by
    refine ⟨fun _ => ⟨⟨List.Pairwise.nil, by simp⟩, by simp⟩, fun _ => rfl⟩
  | r :: l, p => by
    have ih := chkR_ok (l := l) (p := some r.key)
    unfold chkR
    have hb : badR r = true ↔ ¬ (keyedS r.key = true ∧ valuedS r.val = true) := by unfold badR; cases keyedS r.key <;> cases valuedS r.val <;> simp
    constructor
    · intro h
      split at h
      · omega
      · rename_i h1
        split at h
        · omega
        · rename_i h2
          have h1' : keyedS r.key = true ∧ valuedS r.val = true := Classical.byContradiction fun hn => h1 (hb.2 hn)
          obtain ⟨⟨g1, g2⟩, g3⟩ := ih.1 h
          refine ⟨⟨List.pairwise_cons.2 ⟨fun y hy => ?_, g1⟩, fun x hx => ?_⟩, fun q hq x hx => ?_⟩
          · cases l with
            | nil => cases hy
            | cons z l =>
              have hz : ltS r z := g3 _ rfl z (by simp)
              rcases List.mem_cons.1 hy with rfl | hy
              · exact hz
              · exact cmpB_trans hz ((List.pairwise_cons.1 g1).1 y hy)
          · rcases List.mem_cons.1 hx with rfl | hx
            · exact h1'
            · exact g2 x hx
          · subst hq
            simp at hx; subst hx
            have : ¬ cmpB r.key q ≤ 0 := by simpa [leP] using h2
            rw [cmpB_anti]; omega
    · rintro ⟨⟨g1, g2⟩, g3⟩
      rw [if_neg (fun h => hb.1 h (g2 r (by simp)))]
      have hp : leP p r.key = false := by
        cases p with
        | none => rfl
        | some q =>
          have := g3 q rfl r (by simp)
          rw [cmpB_anti] at this
          simp [leP]; omega
      rw [hp, if_neg (by simp)]
      exact ih.2 ⟨⟨(List.pairwise_cons.1 g1).2, fun x hx => g2 x (List.mem_cons_of_mem _ hx)⟩, fun q hq x hx => by
        obtain rfl := Option.some.inj hq
        cases l with
        | nil => simp at hx
        | cons z l => simp at hx; subst hx; exact (List.pairwise_cons.1 g1).1 _ (by simp)⟩
theorem checkL_zero {l : List SR} : checkL l = 0 ↔ okS l ∧ l.length ≤ 64 := by
  unfold checkL
  split
  · rename_i h; exact ⟨fun h => by omega, fun h => by omega⟩
  · rename_i h
    rw [chkR_ok]
    exact ⟨fun h2 => ⟨h2.1, by omega⟩, fun h2 => ⟨h2.1, by simp⟩⟩
theorem chkR_val (l : List SR) (p : Option ByteArray) : chkR p l = 0 ∨ chkR p l = 3 ∨ chkR p l = 7 := by
  induction l generalizing p with
  | nil => exact .inl rfl
  | cons r l ih =>
    unfold chkR
    split
    · exact .inr (.inl rfl)
    · split
      · exact .inr (.inr rfl)
      · exact ih _
theorem chk_step {l : List SR} {k : Nat} {x : SR} (hx : l[k]? = some x) : chkR (prevK l k) (l.drop k) = if badR x = true then 3 else if leP (prevK l k) x.key = true then 7 else chkR (prevK l (k + 1)) (l.drop (k + 1)) := by
  obtain ⟨hk, rfl⟩ := List.getElem?_eq_some_iff.1 hx
  have e : prevK l (k + 1) = some l[k].key := by simp only [prevK, List.getElem?_eq_getElem hk]; rfl
  rw [List.drop_eq_getElem_cons hk, chkR, e]

/-! ### keys looked for -/
def cS (c : ByteArray) (x : SR) : Int := cmpB x.key c
def atS (l : List SR) (c : ByteArray) : Nat := bsK (cS c) l
def isS (l : List SR) (c : ByteArray) : Bool := bsF (cS c) l
theorem okS.mono {l : List SR} (h : okS l) (c : ByteArray) : ∀ (i j : Nat) (x y : SR), i ≤ j → l[i]? = some x → l[j]? = some y → cS c y < 0 → cS c x < 0 := by
  intro i j x y hij hx hy hc
  rcases Nat.lt_or_ge i j with h1 | h1
  · obtain ⟨hi, rfl⟩ := List.getElem?_eq_some_iff.1 hx
    obtain ⟨hj, rfl⟩ := List.getElem?_eq_some_iff.1 hy
    exact cmpB_trans (List.pairwise_iff_getElem.1 h.srt i j hi hj h1) hc
  · obtain rfl : i = j := by omega
    rw [hx] at hy; obtain rfl := Option.some.inj hy; exact hc
theorem isS_at {l : List SR} {c : ByteArray} (h : isS l c = true) : ∃ x, l[atS l c]? = some x ∧ x.key = c := by
  unfold isS bsF at h
  unfold atS
  split at h
  · rename_i x hx
    exact ⟨x, hx, (cmpB_zero _ _).1 (of_decide_eq_true h)⟩
  · cases h
theorem notS_at {l : List SR} {c : ByteArray} (h : isS l c = false) {x : SR} (hx : l[atS l c]? = some x) : 0 < cmpB x.key c := by
  have h1 := bsK_at (c := cS c) hx
  unfold isS bsF at h
  unfold atS at hx
  rw [hx] at h
  have h2 : ¬ cmpB x.key c = 0 := of_decide_eq_false h
  have h3 : ¬ cmpB x.key c < 0 := h1
  omega
theorem befS_at {l : List SR} {c : ByteArray} {x : SR} {i : Nat} (hi : i < atS l c) (hx : l[i]? = some x) : cmpB x.key c < 0 := bsK_lt (c := cS c) hi hx
theorem atS_le (l : List SR) (c : ByteArray) : atS l c ≤ l.length := bsK_le _ _

/-- The value of a key. -/
def getO (l : List SR) (c : ByteArray) : Option ByteArray := if isS l c = true then (l[atS l c]?).map (·.val) else none
def getE (l : List SR) (c : ByteArray) : Int := if checkL l ≠ 0 then checkL l else if isS l c = false then 8 else 0
def getV (l : List SR) (c : ByteArray) : ByteArray := if checkL l ≠ 0 then ⟨#[]⟩ else (getO l c).getD ⟨#[]⟩
def insS (l : List SR) (k : Nat) (x : SR) : List SR := l.take k ++ x :: l.drop k
def putS (l : List SR) (c v : ByteArray) : List SR := if isS l c = true then l.set (atS l c) ⟨c, v⟩ else insS l (atS l c) ⟨c, v⟩
def delS (l : List SR) (c : ByteArray) : List SR := l.take (atS l c) ++ l.drop (atS l c + 1)
def setE (l : List SR) (c v : ByteArray) : Int := if checkL l ≠ 0 then checkL l else if keyedS c = false ∨ valuedS v = false then 3 else if isS l c = false ∧ l.length = 64 then 9 else 0
def setL (l : List SR) (c v : ByteArray) : List SR := if setE l c v ≠ 0 then [] else putS l c v
def cutE (l : List SR) (c : ByteArray) : Int := getE l c
def cutLs (l : List SR) (c : ByteArray) : List SR := if cutE l c ≠ 0 then [] else delS l c

/-! ### changes -/
structure SC where
  key : ByteArray
  had : Bool
  has : Bool
  old : ByteArray
  new : ByteArray
def SC.enc (x : SC) : List D := [.str x.key, .bool x.had, .bool x.has, .str x.old, .str x.new]
def valAt (l : List SR) (k : Nat) : ByteArray := match l[k]? with | some x => x.val | none => ⟨#[]⟩
def oneE (l : List SR) (c : SC) : Int :=
  if isS l c.key ≠ c.had ∨ isS l c.key = true ∧ valAt l (atS l c.key) ≠ c.old then 11 else if c.has = true ∧ (keyedS c.key = false ∨ valuedS c.new = false) then 3 else 0
def oneL (l : List SR) (c : SC) : List SR :=
  if oneE l c ≠ 0 then [] else if c.has = true then putS l c.key c.new else if isS l c.key = true then delS l c.key else l
def appF : List SR → List SC → Int × List SR
  | l, [] => (0, l)
  | l, c :: cs => if oneE l c ≠ 0 then (oneE l c, []) else appF (oneL l c) cs
def appE (l : List SR) (cs : List SC) : Int :=
  if checkL l ≠ 0 then checkL l else if 256 < cs.length then 2 else if (appF l cs).1 ≠ 0 then (appF l cs).1 else if 64 < (appF l cs).2.length then 9 else 0
def appL (l : List SR) (cs : List SC) : List SR := if appE l cs ≠ 0 then [] else (appF l cs).2

def diffR : List SR → List SR → List SC
  | [], [] => []
  | x :: a, [] => ⟨x.key, true, false, x.val, ⟨#[]⟩⟩ :: diffR a []
  | [], y :: b => ⟨y.key, false, true, ⟨#[]⟩, y.val⟩ :: diffR [] b
  | x :: a, y :: b => if cmpB x.key y.key < 0 then ⟨x.key, true, false, x.val, ⟨#[]⟩⟩ :: diffR a (y :: b)
    else if cmpB y.key x.key < 0 then ⟨y.key, false, true, ⟨#[]⟩, y.val⟩ :: diffR (x :: a) b
    else if seq x.val y.val = false then ⟨x.key, true, true, x.val, y.val⟩ :: diffR a b else diffR a b
termination_by a b => a.length + b.length
decreasing_by all_goals (simp; try omega)
def diffE (a b : List SR) : Int := if checkL a ≠ 0 then checkL a else checkL b
def diffL (a b : List SR) : List SC := if diffE a b ≠ 0 then [] else diffR a b

/-! ### texts -/
def lineB (x : SR) : List UInt8 := bl x.key ++ 61 :: (bl x.val ++ [10])
def linesB (l : List SR) : List UInt8 := (l.map lineB).flatten
def fnvF (h : Nat) (c : UInt8) : Nat := (h ^^^ c.toNat) * 1099511628211 % 18446744073709551616
def fnvL (l : List UInt8) : Nat := l.foldl fnvF 14695981039346656037
def digV (l : List SR) : Nat := if checkL l ≠ 0 then 0 else fnvL (linesB l)
def textV (l : List SR) : ByteArray := if checkL l ≠ 0 then ⟨#[]⟩ else hexS (fnvL (linesB l)) ++ ⟨#[10]⟩ ++ bs (linesB l)

/-! ### equal states -/
def sameR : List SR → List SR → Bool
  | [], [] => true
  | x :: a, y :: b => seq x.key y.key && seq x.val y.val && sameR a b
  | _, _ => false
theorem sameR_iff : ∀ (a b : List SR), sameR a b = true ↔ a = b
  | [], [] => by simp [sameR]
  | [], y :: b => by simp [sameR]
  | x :: a, [] => by simp [sameR]
  | x :: a, y :: b => by
    rw [sameR, Bool.and_eq_true, Bool.and_eq_true, seq_iff, seq_iff, sameR_iff a b]
    constructor
    · rintro ⟨⟨h1, h2⟩, rfl⟩; rw [SR.ext2 h1 h2]
    · rintro h; obtain ⟨rfl, rfl⟩ := List.cons.inj h; exact ⟨⟨rfl, rfl⟩, rfl⟩
instance : DecidableEq SR := fun x y => if h : x.key = y.key ∧ x.val = y.val then .isTrue (SR.ext2 h.1 h.2) else .isFalse fun e => h (by subst e; exact ⟨rfl, rfl⟩)
theorem same_sr (x y : SR) : allD (x.enc.take 2) (y.enc.take 2) = decide (x = y) := by
  show (x.key.toList == y.key.toList && (x.val.toList == y.val.toList && true)) = _
  rw [Bool.and_true, Bool.eq_iff_iff, decide_eq_true_eq, Bool.and_eq_true]
  show seq x.key y.key = true ∧ seq x.val y.val = true ↔ _
  rw [seq_iff, seq_iff]
  exact ⟨fun h => SR.ext2 h.1 h.2, fun h => by subst h; exact ⟨rfl, rfl⟩⟩
end Go.Proofs.YtodbcbojkfndiaaGreatDoorA
