/- What a listed table of strings holds, cell for cell. -/
import Derived.Test.YtaegeaajhbfkgaaGreatDoorFrD
import Derived.Lib.LaidTab
namespace Go.Proofs.YtaegeaajhbfkgaaGreatDoorA
open Go
set_option linter.unusedVariables false
set_option linter.unusedSimpArgs false
def tabS {H : Type} (ss : List ByteArray) : DataW H := .agg (ss.map fun s => .lit (.string s.data.toList))
theorem cells_of_tabS {H : Type} {enc : TypeId × Value → H} {P : Program} {w : World} {base : Nat} {sp : Nat → Bool} {held : Bool} {fuel : Nat} {t e : TypeId} {n : Nat} {cs : List Value} {ss : List ByteArray} {p : List MemPlace}
    (ht : P.underlying t = some (.array n e)) (he : P.underlying e = some .string) (hce : P.cellsOf e = 1) (hct : P.cellsOf t = n)
    (h : DataW.trod enc P w base sp held fuel t cs = some (tabS ss, p)) : cs = ss.map Value.string := by
  cases fuel with
  | zero => simp [DataW.trod] at h
  | succ fuel =>
    simp only [DataW.trod, ht, hce, hct, Nat.mul_one] at h
    split at h
    · rename_i hl
      obtain ⟨xs, hm, hx⟩ := Option.map_eq_some_iff.1 h
      have hxs : xs.map (·.1) = ss.map fun z => (DataW.lit (.string z.data.toList) : DataW H) := by
        have := congrArg Prod.fst hx
        simpa [tabS] using this
      have hxl : xs.length = n := by simpa using Lib.mapM_length hm
      have hzl : ss.length = n := by
        have := congrArg List.length hxs
        simp at this
        omega
      apply List.ext_getElem?
      intro i
      by_cases hi : i < n
      · obtain ⟨b, hb, hf⟩ := Lib.mapM_at hm i i (by simp [hi])
        obtain ⟨z, hc, rfl, _⟩ := DataW.trod_string he hf
        have h1 : cs[i]? = some (.string z) := by
          have := congrArg (·[0]?) hc
          simpa [List.getElem?_take, List.getElem?_drop] using this
        have h2 : (xs.map (·.1))[i]? = some (DataW.lit (.string z.data.toList) : DataW H) := by simp [hb]
        rw [hxs] at h2
        obtain ⟨z', hz', he'⟩ := (List.getElem?_map .. ▸ h2 : _ = _) |> Option.map_eq_some_iff.1
        have he2 : z'.data.toList = z.data.toList := by simpa using he'
        have : z' = z := by
          cases z'; cases z
          simp at he2; subst he2; rfl
        subst this
        simp [h1, hz']
      · rw [List.getElem?_eq_none (by omega), List.getElem?_eq_none (by simp; omega)]
    · cases h
theorem laid_tabS {P : Program} {laid : List (String × DataW Unit)} {W : World} {name : String} {ss : List ByteArray} {d : DataW Unit} {g : Nat} {t e : TypeId} {n : Nat} (hp : (laid.all fun x => x.2.handleName?.isNone) = true) (h : laidMetH P laid W)
    (hm : laid.lookup name = some d) (hd : d = tabS ss) (hg : P.globalNamed name = some g) (hty : (P.globals[g]?).map (·.type) = some t) (ht : P.underlying t = some (.array n e)) (he : P.underlying e = some .string) (hce : P.cellsOf e = 1) (hct : P.cellsOf t = n) :
    ∃ T f, W.heap[g]? = some (.cells (ss.map Value.string).toArray T f) := by
  rw [MakeChecks.laidMetH_plain _ _ _ hp] at h
  subst hd
  have hmem : (name, tabS ss) ∈ laid := by
    clear h hp
    induction laid with
    | nil => cases hm
    | cons x l ih =>
      obtain ⟨n', d'⟩ := x
      rw [List.lookup_cons] at hm
      split at hm
      · rename_i he
        obtain rfl : name = n' := by simpa using he
        obtain rfl := Option.some.inj hm
        exact List.mem_cons_self ..
      · exact List.mem_cons_of_mem _ (ih hm)
  obtain ⟨g', t', cs, fuel, p, hg', ht', hvar, hd⟩ := Lib.laidMet.reads h hmem
  obtain rfl := Option.some.inj (hg.symm.trans hg')
  obtain rfl := Option.some.inj (hty.symm.trans ht')
  replace hvar : W.var? P name = some (ss.map Value.string).toArray := by rw [hvar, ← cells_of_tabS ht he hce hct hd]
  unfold World.var? at hvar
  rw [hg] at hvar
  simp only [Option.bind_some] at hvar
  cases ho : W.heap[g]? with
  | none => rw [ho] at hvar; simp at hvar
  | some o =>
    rw [ho] at hvar
    cases o with
    | cells cs T f =>
      have : cs = (ss.map Value.string).toArray := by simpa using hvar
      subst this
      exact ⟨T, f, rfl⟩
    | _ => simp at hvar
end Go.Proofs.YtaegeaajhbfkgaaGreatDoorA

