/- Library functions by the kit's contracts: nothing but new blocks behind them. -/
import Derived.Test.YtldkkoecehdicaaDoorAbs37
import Derived.Lib.LaidTab
import Derived.Lib.ItoaNum
import Derived.Sort.Grow
import Derived.Deep.Draws
namespace Go.Proofs.YtldkkoecehdicaaDoorA
open Go Go.RowKit Go.Sort
set_option linter.unusedVariables false
set_option linter.unusedSimpArgs false

theorem HS.grown {κ : Kap} {w : World} {hs : Hp} (h : HS κ w hs) (k : Nat) (os : Array Obj) : HS κ (grow (w.drewN k) os) hs ∧ Ext κ hs w κ hs (grow (w.drewN k) os) := by
  have hsz : w.heap.size ≤ (grow (w.drewN k) os).heap.size := by simp [grow, World.drewN]
  have hold : ∀ b, b < w.heap.size → (grow (w.drewN k) os).heap[b]? = w.heap[b]? := fun b hb => by
    simp [grow, World.drewN, Array.getElem?_append_left hb]
  exact h.oneMore hsz (by simp [grow, World.drewN]) rfl rfl rfl hold
/-- A table of the package that a contract asks for. -/
theorem glob_tab {P : Program} {κ : Kap} {w : World} {hs : Hp} (h : HS κ w hs) {kk id b : Nat} {k : IntKind} {zs : List Int} {name : String} (hk : hs[kk]? = some (id, .glob b (zs.map (Value.int k)))) (hg : P.globalNamed name = some b) : Lib.TabIs P w name k zs := by
  obtain ⟨⟨ob, cap⟩, hκ, hok⟩ := h.ok id _ (List.mem_of_getElem? hk)
  obtain ⟨h0, hno, T, f, hw⟩ := hok
  unfold Lib.TabIs World.var?
  rw [hg, Option.bind_some, hw]
/-- A call whose result is data of no memory. -/
theorem AC.ofk {P : Program} {f : FuncId} {args : List AV} {hs : Hp} {v : Value} {y : AV} (hv : ∀ κ w O, RepA κ w O v y)
    (h : ∀ κ vals w, HS κ w hs → vals.size = args.length → (∀ (i : Nat) (u : Value) (x : AV), vals[i]? = some u → args[i]? = some x → RepA κ w (Own κ hs) u x) →
      Calls P f vals w fun e w' => e = .returned v ∧ ∃ k os, w' = grow (w.drewN k) os) : AC P f args hs (fun r h => r = y ∧ h = hs) := fun κ vals w h1 h2 h3 => by
  refine (h κ vals w h1 h2 h3).mono ?_
  rintro e w' ⟨rfl, k, os, rfl⟩
  obtain ⟨h4, h5⟩ := h1.grown k os
  exact ⟨κ, hs, v, y, rfl, h4, h5, hv _ _ _, rfl, rfl⟩
end Go.Proofs.YtldkkoecehdicaaDoorA
