/- A contract for borrowed arguments, as a contract for one's own things. -/
import Derived.Test.YtldkkoecehdicaaDoorAbs41
namespace Go.Proofs.YtldkkoecehdicaaDoorA
open Go
set_option linter.unusedVariables false
theorem AC.brw {P : Program} {f : FuncId} {xs ys : List AV} {hs : Hp} {R : AV → Hp → Prop} (hb : Brws hs xs ys) (hc : AC P f ys [] R) (hok : ∀ r hs', R r hs' → OkR r ∧ ∀ p ∈ hs', OkH p.2) :
    AC P f xs hs (fun r h => ∃ h', R r h' ∧ h = h' ++ hs) := fun κ vals w h1 h2 h3 => by
  obtain ⟨h0, _⟩ := h1.sublist (List.nil_sublist hs)
  obtain ⟨h5, h6⟩ := hb.get
  refine (hc κ vals w h0 (by omega) (fun i v y hi hy => ?_)).mono ?_
  · have hlt : i < vals.size := (Array.getElem?_eq_some_iff.1 hi).1
    have hx := List.getElem?_eq_getElem (show i < xs.length by omega)
    exact (h6 i _ y hx hy).rep h1 (h3 i v _ hi hx) fun b ⟨_, _, _, hi, _⟩ => by cases hi
  · rintro e w' ⟨κ', hs', v, r, rfl, h5, h6, h7, h8⟩
    obtain ⟨ok1, ok2⟩ := hok r hs' h8
    obtain ⟨g1, g2⟩ := h1.back h5 h6 ok2
    exact ⟨κ', _, v, r, rfl, g1, g2, h7.okR ok1, hs', h8, rfl⟩
/-- .. whose answer is a list that is new, taken as data. -/
theorem AC.brwF {P : Program} {f : FuncId} {xs ys : List AV} {hs : Hp} {sz : Nat} {rows : List (List D)} (hb : Brws hs xs ys) (hc : AC P f ys [] (fun r h => ∃ v, r = .vs v 0 rows.length sz ∧ h = [(v, .lst sz rows)]))
    (hok : ∀ r ∈ rows, ∀ x ∈ r, x.flat = true) : AC P f xs hs (fun r h => r = .d (.sl sz rows) ∧ h = hs) :=
  AC.frz ((AC.brw hb hc (fun r hs' ⟨v, h1, h2⟩ => by subst h1 h2; exact ⟨trivial, fun p hp => by simp at hp; subst hp; exact hok⟩)).mono fun r h ⟨h', ⟨v, h1, h2⟩, h3⟩ => by subst h1 h2 h3; exact ⟨v, rfl, .vs rfl⟩)
end Go.Proofs.YtldkkoecehdicaaDoorA
