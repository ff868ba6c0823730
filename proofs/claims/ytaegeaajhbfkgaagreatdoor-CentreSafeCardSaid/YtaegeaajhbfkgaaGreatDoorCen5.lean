/- Flights of a centre, in plain words: where they can be, when they land, what clashes. -/
import Derived.Test.YtaegeaajhbfkgaaGreatDoorCen3
import Derived.Test.YtaegeaajhbfkgaaGreatDoorCen4
namespace Go.Proofs.YtaegeaajhbfkgaaGreatDoorA
open Go
set_option linter.unusedVariables false
set_option linter.unusedSimpArgs false
set_option linter.unnecessarySimpa false
def gD (gv : Nat → Int) : List D := [.int .i64 (gv 0), .int .i64 (gv 1), .int .i64 (gv 2), .int .i64 (gv 3), .int .i64 (gv 4), .int .i64 (gv 5), .int .i64 (gv 6), .int .i64 (gv 7),
  .int .i64 (gv 8), .int .i64 (gv 9), .int .i64 (gv 10), .int .i64 (gv 11), .int .i64 (gv 12), .int .i64 (gv 13), .int .i64 (gv 14), .int .i64 (gv 15)]
theorem lt4 {k : Nat} (h : k < 4) : k = 0 ∨ k = 1 ∨ k = 2 ∨ k = 3 := by omega
theorem gD_row (gv : Nat → Int) {k : Nat} (h : k < 4) : ((gD gv).drop (((k : Nat) : Int).toNat * 4)).take 4 = [.int .i64 (gv (4 * k)), .int .i64 (gv (4 * k + 1)), .int .i64 (gv (4 * k + 2)), .int .i64 (gv (4 * k + 3))] := by
  rcases lt4 h with rfl | rfl | rfl | rfl <;> rfl
theorem row_at (gv : Nat → Int) {k j : Nat} (h : j < 4) : ([.int .i64 (gv (4 * k)), .int .i64 (gv (4 * k + 1)), .int .i64 (gv (4 * k + 2)), .int .i64 (gv (4 * k + 3))] : List D)[((j : Nat) : Int).toNat]? = some (.int .i64 (gv (4 * k + j))) := by
  rcases lt4 h with rfl | rfl | rfl | rfl <;> rfl
def gapsOk (gv : Nat → Int) : Prop := ∀ i, i < 16 → 0 ≤ gv i ∧ gv i ≤ 1000
instance (gv : Nat → Int) : Decidable (gapsOk gv) := by unfold gapsOk; exact inferInstance
def gapI (gv : Nat → Int) (a b : Int) : Int := gv (4 * a.toNat + b.toNat)
theorem gap_bd {gv : Nat → Int} (h : gapsOk gv) {a b : Int} (h0 : 0 ≤ a) (h1 : a ≤ 3) (h2 : 0 ≤ b) (h3 : b ≤ 3) : 0 ≤ gapI gv a b ∧ gapI gv a b ≤ 1000 := h _ (by omega)
def apC (gv : Nat → Int) : Int := if gapsOk gv then 0 else 4
structure Su where
  lat : Int
  ver : Int
  gv : Nat → Int
def Su.enc (s : Su) : List D := .int .i64 s.lat :: .int .i64 s.ver :: gD s.gv
def suC (s : Su) : Int := if sepC s.lat s.ver ≠ 0 then sepC s.lat s.ver else apC s.gv
theorem suC_zero {s : Su} (h : suC s = 0) : sepC s.lat s.ver = 0 ∧ gapsOk s.gv := by
  unfold suC at h
  split at h
  · exact absurd h (by assumption)
  · rename_i h1
    unfold apC at h
    split at h
    · exact ⟨Classical.not_not.1 h1, by assumption⟩
    · omega
theorem gap_at (s : Su) (T : List AV) {a b : Int} (h0 : 0 ≤ a) (h1 : a < 4) (h2 : 0 ≤ b) (h3 : b < 4) : (s.enc.map AV.d ++ T)[0 + 0 + 2 + a.toNat * 4 + b.toNat * 1]? = some (.d (.int .i64 (gapI s.gv a b))) := by
  unfold gapI
  obtain ⟨m, rfl⟩ := Int.eq_ofNat_of_zero_le h0
  obtain ⟨n, rfl⟩ := Int.eq_ofNat_of_zero_le h2
  simp only [Int.toNat_natCast]
  rcases lt4 (show m < 4 by omega) with rfl | rfl | rfl | rfl <;> rcases lt4 (show n < 4 by omega) with rfl | rfl | rfl | rfl <;> rfl
structure Fl where
  call : ByteArray
  wake : Int
  slot : Int
  lands : Bool
  legs : List (List Nd)
  next : List Nd
  land : Int
  nland : Int
instance : Inhabited Fl := ⟨⟨emB, 0, 0, false, [], [], 0, 0⟩⟩
def Fl.zero : Fl := ⟨⟨#[]⟩, 0, 0, false, [], [], 0, 0⟩
def lgD (l : List (List Nd)) : D := .sl 1 (l.map tuR)
def Fl.enc (f : Fl) : List D := [.str f.call, .int .i64 f.wake, .int .i64 f.slot, .bool f.lands, lgD f.legs, tuD f.next, .int .i64 f.land, .int .i64 f.nland]
def covT (l : List Nd) (t : Int) : Bool := (decide ((0 : Int) < l.length) && decide (hdT l ≤ t)) && decide (t ≤ laT l)
def legF (legs : List (List Nd)) (t : Int) : Nat → Int
  | 0 => -1
  | n + 1 => if hdT (legs.getD n []) ≤ t then (if covT (legs.getD n []) t = true then (n : Int) else -1) else legF legs t n
def legK (legs : List (List Nd)) (t : Int) : Int := legF legs t legs.length
theorem legF_bd (legs : List (List Nd)) (t : Int) : ∀ n, legF legs t n = -1 ∨ (0 ≤ legF legs t n ∧ legF legs t n < n)
  | 0 => .inl rfl
  | n + 1 => by
    unfold legF
    split
    · split
      · exact .inr ⟨by omega, by omega⟩
      · exact .inl rfl
    · rcases legF_bd legs t n with h | h
      · exact .inl h
      · exact .inr ⟨h.1, by omega⟩
def nodesF (legs : List (List Nd)) (next : List Nd) (t : Int) : List Nd :=
  (if 0 ≤ legK legs t then [AtN (legs.getD (legK legs t).toNat []) t] else []) ++ (if covT next t = true then [AtN next t] else [])
theorem nodesF_len (legs : List (List Nd)) (next : List Nd) (t : Int) : (nodesF legs next t).length ≤ 2 := by
  unfold nodesF
  split <;> split <;> simp
structure FlOk (f : Fl) : Prop where
  wake : 0 ≤ f.wake ∧ f.wake ≤ 3
  slot : 0 ≤ f.slot ∧ f.slot ≤ 200000
  ne : f.legs ≠ []
  legs : ∀ l ∈ f.legs, TuOk l
  next : f.next = [] ∨ TuOk f.next
  land : 0 ≤ f.land ∧ f.land ≤ 200000
  nland : 0 ≤ f.nland ∧ f.nland ≤ 200000
  name : nameS f.call = true
  len : f.legs.length ≤ 6
def clashK (s : Su) (l : List Nd) (f : Fl) (k : Nat) : Bool := (nodesF f.legs f.next (atN l (hdT l + (k : Nat))).t).any fun m => !SepB (atN l (hdT l + (k : Nat))) m s.lat s.ver
def claB (s : Su) (l : List Nd) (f : Fl) : Bool := (List.range (cntT l)).any (clashK s l f)
def clashesB (s : Su) (fl : List Fl) (c : ByteArray) (l : List Nd) : Bool := fl.any fun f => !(f.call.toList == c.toList) && claB s l f
theorem claB_no {s : Su} {l : List Nd} {f : Fl} (h : ∀ i, i < cntT l → clashK s l f i = false) : claB s l f = false := by
  unfold claB
  rw [List.any_eq_false]
  intro k hk
  rw [h k (by simpa using hk)]; simp
theorem claB_yes {s : Su} {l : List Nd} {f : Fl} {k : Nat} (hk : k < cntT l) (h : clashK s l f k = true) : claB s l f = true := by
  unfold claB
  exact List.any_eq_true.2 ⟨k, by simpa using hk, h⟩
theorem any_take {α : Type} {p : α → Bool} {l : List α} {k : Nat} {x : α} (h : l[k]? = some x) : (l.take (k + 1)).any p = ((l.take k).any p || p x) := by
  obtain ⟨h1, h2⟩ := List.getElem?_eq_some_iff.1 h
  rw [List.take_succ_eq_append_getElem h1, h2, List.any_append]; simp
theorem any_yes {α : Type} {p : α → Bool} {l : List α} {k : Nat} {x : α} (h : l[k]? = some x) (hp : p x = true) : l.any p = true := List.any_eq_true.2 ⟨x, List.mem_of_getElem? h, hp⟩
def landL (f : Fl) : List Int := if f.lands = false then [] else if (0 : Int) < f.next.length then [f.land, f.nland] else [f.land]
def freeP (s : Su) (f : Fl) (t : Int) (g : Fl) (u : Int) : Bool :=
  (!(g.call.toList == f.call.toList) && decide (t - u < gapI s.gv g.wake f.wake)) && decide (u - t < gapI s.gv f.wake g.wake)
def fryB (s : Su) (fl : List Fl) (f : Fl) (t : Int) : Bool := !fl.any fun g => (landL g).any (freeP s f t g)
def bestU (s : Su) (fl : List Fl) (f g : Fl) (ready best u : Int) : Int :=
  if (ready ≤ u + gapI s.gv g.wake f.wake ∧ u + gapI s.gv g.wake f.wake < best) ∧ fryB s fl f (u + gapI s.gv g.wake f.wake) = true then u + gapI s.gv g.wake f.wake else best
def bestG (s : Su) (fl : List Fl) (f : Fl) (ready : Int) (best : Int) (g : Fl) : Int := (landL g).foldl (bestU s fl f g ready) best
def best0 (s : Su) (fl : List Fl) (f : Fl) (ready : Int) : Int := if fryB s fl f ready = true then ready else f.slot + 1
def bestV (s : Su) (fl : List Fl) (f : Fl) (l : List Nd) : Int := fl.foldl (bestG s fl f (laT l)) (best0 s fl f (laT l))
def landV (s : Su) (fl : List Fl) (f : Fl) (l : List Nd) : Int := if f.lands = false then 0 else bestV s fl f l
def landB (s : Su) (fl : List Fl) (f : Fl) (l : List Nd) : Bool := if f.lands = false then true else decide (bestV s fl f l ≤ f.slot)
theorem foldl_take {α β : Type} {p : β → α → β} {l : List α} {b : β} {k : Nat} {x : α} (h : l[k]? = some x) : (l.take (k + 1)).foldl p b = p ((l.take k).foldl p b) x := by
  obtain ⟨h1, h2⟩ := List.getElem?_eq_some_iff.1 h
  rw [List.take_succ_eq_append_getElem h1, h2, List.foldl_append]; rfl
theorem landL_bd {f : Fl} (h : FlOk f) : ∀ u ∈ landL f, 0 ≤ u ∧ u ≤ 200000 := by
  intro u hu
  unfold landL at hu
  split at hu
  · cases hu
  · split at hu
    · simp only [List.mem_cons, List.mem_nil_iff, or_false] at hu
      rcases hu with rfl | rfl
      · exact h.land
      · exact h.nland
    · simp only [List.mem_cons, List.mem_nil_iff, or_false] at hu
      rw [hu]; exact h.land
theorem landL_len (f : Fl) : (landL f).length ≤ 2 := by
  unfold landL
  split
  · simp
  · split <;> simp
def longB (l : List Nd) : Bool := decide (3600 < laT l - hdT l)
theorem legs_getD {legs : List (List Nd)} {k : Nat} (h : k < legs.length) : legs[k]? = some (legs.getD k []) := by
  rw [List.getD_eq_getElem?_getD, List.getElem?_eq_getElem h]; rfl
end Go.Proofs.YtaegeaajhbfkgaaGreatDoorA

