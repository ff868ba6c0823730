/- Steps of a centre, in plain words. -/
import Derived.Test.YtaegeaajhbfkgaaGreatDoorCen5
import Derived.Test.YtaegeaajhbfkgaaGreatDoorRec3
namespace Go.Proofs.YtaegeaajhbfkgaaGreatDoorA
open Go
set_option linter.unusedVariables false
set_option linter.unusedSimpArgs false
set_option linter.unnecessarySimpa false
structure CI where
  kind : Int
  time : Int
  call : ByteArray
  by_ : ByteArray
  to_ : ByteArray
  tube : List Nd
  wake : Int
  slot : Int
  lands : Bool
instance : Inhabited CI := ⟨⟨0, 0, emB, emB, emB, [], 0, 0, false⟩⟩
def CI.enc (x : CI) : List D := [.int .i64 x.kind, .int .i64 x.time, .str x.call, .str x.by_, .str x.to_, tuD x.tube, .int .i64 x.wake, .int .i64 x.slot, .bool x.lands]
def ceC (su : Su) (tm : Int) (fl : List Fl) (ow : List OE) (lb : Nat) : List AV := su.enc.map AV.d ++ [.d (.int .i64 tm), .d (.sl 8 (fl.map Fl.enc)), .d (.sl 3 (ow.map OE.enc)), .ptr lb 0]
def newF (x : CI) : Fl := ⟨x.call, x.wake, x.slot, x.lands, [x.tube], [], 0, 0⟩
def newL (su : Su) (fl : List Fl) (x : CI) : Fl := ⟨x.call, x.wake, x.slot, x.lands, [x.tube], [], landV su fl (newF x) x.tube, 0⟩
def rngX (x : CI) : Prop := ((x.wake < 0 ∨ 3 < x.wake) ∨ x.slot < 0) ∨ 200000 < x.slot
instance (x : CI) : Decidable (rngX x) := by unfold rngX; exact inferInstance
def fileE (su : Su) (fl : List Fl) (ow : List OE) (x : CI) : Int :=
  if begE ow x.call x.by_ ≠ 0 then begE ow x.call x.by_ else if tubeC x.tube ≠ 0 then tubeC x.tube else if rngX x then 4 else if hdT x.tube < x.time then 12
  else if longB x.tube = true then 2 else if clashesB su fl x.call x.tube = true then 15 else if landB su fl (newF x) x.tube = false then 18 else 0
def fileF (su : Su) (fl : List Fl) (ow : List OE) (x : CI) : List Fl := if fileE su fl ow x ≠ 0 then fl else insX fl (posK Fl.call fl x.call) (newL su fl x)
def fileO (su : Su) (fl : List Fl) (ow : List OE) (x : CI) : List OE := if fileE su fl ow x ≠ 0 then ow else begL ow x.call x.by_
def posF (fl : List Fl) (c : ByteArray) : Nat := posK Fl.call fl c
def atF (fl : List Fl) (c : ByteArray) : Fl := fl.getD (posF fl c) Fl.zero
theorem atF_get {l : List Fl} {c : ByteArray} (h : hasK Fl.call l c = true) : l[posK Fl.call l c]? = some (atF l c) ∧ (atF l c).call = c := by
  obtain ⟨x, hx, hc⟩ := has_at (key := Fl.call) h
  have : atF l c = x := by unfold atF posF; rw [List.getD_eq_getElem?_getD, hx]; rfl
  rw [this]; exact ⟨hx, hc⟩
def lastL (f : Fl) : List Nd := f.legs.getD (f.legs.length - 1) []
theorem lastL_get {f : Fl} (h : f.legs ≠ []) : f.legs[f.legs.length - 1]? = some (lastL f) := by
  have : 0 < f.legs.length := List.length_pos_iff.2 h
  exact legs_getD (by omega)
def badFrom (f : Fl) (x : CI) : Prop := (hdT x.tube ≤ x.time ∨ hdT x.tube ≤ hdT (lastL f)) ∨ covT (lastL f) (hdT x.tube) = false
instance (f : Fl) (x : CI) : Decidable (badFrom f x) := by unfold badFrom; exact inferInstance
def hereL (f : Fl) (x : CI) : List Nd := CutV (lastL f) (hdT x.tube) (hdT x.tube)
def clrG (su : Su) (fl : List Fl) (f : Fl) (x : CI) (by_ : ByteArray) : Int :=
  if by_ ≠ x.by_ then 16 else if f.next ≠ [] then 11 else if f.legs.length = 6 then 9 else if tubeC x.tube ≠ 0 then tubeC x.tube else if badFrom f x then 12
  else if longB x.tube = true then 2 else if InE (hereL f x) x.tube ≠ 0 ∨ InB (hereL f x) x.tube = false then 19 else if clashesB su fl x.call x.tube = true then 15
  else if landB su fl f x.tube = false then 18 else 0
def clrE (su : Su) (fl : List Fl) (ow : List OE) (x : CI) : Int := if ofE ow x.call ≠ 0 then ofE ow x.call else clrG su fl (atF fl x.call) x (ofV ow x.call)
def clrL (su : Su) (fl : List Fl) (x : CI) : Fl :=
  ⟨(atF fl x.call).call, (atF fl x.call).wake, (atF fl x.call).slot, (atF fl x.call).lands, (atF fl x.call).legs, x.tube, (atF fl x.call).land, landV su fl (atF fl x.call) x.tube⟩
def clrF (su : Su) (fl : List Fl) (ow : List OE) (x : CI) : List Fl := if clrE su fl ow x ≠ 0 then fl else fl.set (posK Fl.call fl x.call) (clrL su fl x)
def redE (fl : List Fl) (x : CI) : Int :=
  if hasK Fl.call fl x.call = false then 8 else if (atF fl x.call).next = [] then 11 else if x.kind = 4 ∧ hdT (atF fl x.call).next ≤ x.time then 12 else 0
def redL (f : Fl) (x : CI) : Fl :=
  if x.kind = 4 then ⟨f.call, f.wake, f.slot, f.lands, f.legs ++ [f.next], [], f.nland, 0⟩ else ⟨f.call, f.wake, f.slot, f.lands, f.legs, [], f.land, 0⟩
def redF (fl : List Fl) (x : CI) : List Fl := if redE fl x ≠ 0 then fl else fl.set (posK Fl.call fl x.call) (redL (atF fl x.call) x)
def finE (fl : List Fl) (ow : List OE) (x : CI) : Int :=
  if endE ow x.call x.by_ ≠ 0 then endE ow x.call x.by_ else if (atF fl x.call).next ≠ [] ∨ x.time ≤ laT (lastL (atF fl x.call)) then 11 else 0
def finF (fl : List Fl) (ow : List OE) (x : CI) : List Fl := if finE fl ow x ≠ 0 then fl else delX fl (posK Fl.call fl x.call)
def finO (fl : List Fl) (ow : List OE) (x : CI) : List OE := if finE fl ow x ≠ 0 then ow else endL ow x.call x.by_
def pasE (ow : List OE) (x : CI) : Int := if x.kind = 1 then offE ow x.call x.by_ x.to_ else accE ow x.call x.by_
def pasL (ow : List OE) (x : CI) : List OE := if x.kind = 1 then offL ow x.call x.by_ x.to_ else accL ow x.call x.by_
def pasO (ow : List OE) (x : CI) : List OE := if pasE ow x = 0 then pasL ow x else ow
structure FwOk (fl : List Fl) (ow : List OE) : Prop where
  owk : OwOk ow
  calls : fl.map Fl.call = ow.map OE.call
  all : ∀ f ∈ fl, FlOk f
  sts : ∀ f ∈ fl, ∀ k, k + 1 < f.legs.length → hdT (f.legs.getD k []) < hdT (f.legs.getD (k + 1) [])
  nxt : ∀ f ∈ fl, f.next ≠ [] → f.legs.length < 6 ∧ hdT (lastL f) < hdT f.next
theorem srt_of {α β : Type} {key : α → ByteArray} {key2 : β → ByteArray} {l : List α} {m : List β} (e : l.map key = m.map key2) (h : SrtK key2 m) : SrtK key l := by
  unfold SrtK at *
  have h1 : (m.map key2).Pairwise (fun x y => cmpB x y < 0) := List.pairwise_map.2 h
  rw [← e] at h1
  exact List.pairwise_map.1 h1
theorem FwOk.pos {fl : List Fl} {ow : List OE} (o : FwOk fl ow) (c : ByteArray) : posK Fl.call fl c = posO ow c := (posK_map (β := Nat) fl c).trans ((by rw [o.calls] : posK id (fl.map Fl.call) c = posK id (ow.map OE.call) c).trans (posK_map (β := Nat) ow c).symm)
theorem FwOk.has {fl : List Fl} {ow : List OE} (o : FwOk fl ow) (c : ByteArray) : hasK Fl.call fl c = hasO ow c := (hasK_map (β := Nat) fl c).trans ((by rw [o.calls] : hasK id (fl.map Fl.call) c = hasK id (ow.map OE.call) c).trans (hasK_map (β := Nat) ow c).symm)
theorem endE_has {ow : List OE} {c b : ByteArray} (h : endE ow c b = 0) : hasO ow c = true := by
  unfold endE at h
  split at h
  · omega
  · rename_i h1; simpa using h1
theorem ofE_has {ow : List OE} {c : ByteArray} (h : ofE ow c = 0) : hasO ow c = true := by
  unfold ofE at h
  split at h
  · omega
  · rename_i h1; simpa using h1
theorem file_no {su : Su} {fl : List Fl} {ow : List OE} {x : CI} (h : fileE su fl ow x ≠ 0) : fileF su fl ow x = fl ∧ fileO su fl ow x = ow := ⟨if_pos h, if_pos h⟩
theorem file_yes {su : Su} {fl : List Fl} {ow : List OE} {x : CI} (h : fileE su fl ow x = 0) : fileF su fl ow x = insX fl (posK Fl.call fl x.call) (newL su fl x) ∧ fileO su fl ow x = begL ow x.call x.by_ := ⟨if_neg (by omega), if_neg (by omega)⟩
theorem fin_no {fl : List Fl} {ow : List OE} {x : CI} (h : finE fl ow x ≠ 0) : finF fl ow x = fl ∧ finO fl ow x = ow := ⟨if_pos h, if_pos h⟩
theorem fin_yes {fl : List Fl} {ow : List OE} {x : CI} (h : finE fl ow x = 0) : finF fl ow x = delX fl (posK Fl.call fl x.call) ∧ finO fl ow x = endL ow x.call x.by_ := ⟨if_neg (by omega), if_neg (by omega)⟩
theorem clr_no {su : Su} {fl : List Fl} {ow : List OE} {x : CI} (h : clrE su fl ow x ≠ 0) : clrF su fl ow x = fl := if_pos h
theorem clr_yes {su : Su} {fl : List Fl} {ow : List OE} {x : CI} (h : clrE su fl ow x = 0) : clrF su fl ow x = fl.set (posK Fl.call fl x.call) (clrL su fl x) := if_neg (by omega)
theorem red_no {fl : List Fl} {x : CI} (h : redE fl x ≠ 0) : redF fl x = fl := if_pos h
theorem red_yes {fl : List Fl} {x : CI} (h : redE fl x = 0) : redF fl x = fl.set (posK Fl.call fl x.call) (redL (atF fl x.call) x) := if_neg (by omega)
theorem FwOk.srt {fl : List Fl} {ow : List OE} (o : FwOk fl ow) : SrtK Fl.call fl := srt_of o.calls o.owk.srt
theorem CutV_len (l : List Nd) (f u : Int) : (CutV l f u).length ≤ l.length + 2 := by
  unfold CutV
  split
  · simp
  · have := List.length_filter_le (inTs f u) l
    simp only [List.length_append, List.length_cons, List.length_nil]
    split <;> simp <;> omega
theorem FwOk.len {fl : List Fl} {ow : List OE} (o : FwOk fl ow) : fl.length ≤ 24 := by
  have h1 := congrArg List.length o.calls
  have h2 := o.owk.len
  simp at h1; omega
end Go.Proofs.YtaegeaajhbfkgaaGreatDoorA

