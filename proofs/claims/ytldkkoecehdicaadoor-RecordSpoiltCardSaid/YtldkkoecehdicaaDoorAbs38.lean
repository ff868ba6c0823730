/- A law whose row lists package-level tables: the contract begins with these tables in mind. -/
import Derived.Test.YtldkkoecehdicaaDoorAbs9
import Derived.Handed
import Derived.LaidLaws
import Derived.LaidHandle
import Derived.Stop.Joined
import Derived.MakeChecks
import Derived.Lay
import Derived.Lib.LaidU8
namespace Go.Proofs.YtldkkoecehdicaaDoorA
open Go
set_option linter.unusedVariables false
set_option linter.unusedSimpArgs false

/-- The tables, as objects 0, 1, .. -/
def globHp (gs : List (Nat × List Value)) : Hp := gs.zipIdx.map fun p => (p.2, .glob p.1.1 p.1.2)
def globK (gs : List (Nat × List Value)) : Kap := fun i => if i < gs.length then some (Option.none, 0) else Option.none

theorem globHp_mem {gs : List (Nat × List Value)} {id : Nat} {o : HO} (h : (id, o) ∈ globHp gs) : ∃ p, gs[id]? = some p ∧ o = .glob p.1 p.2 := by
  obtain ⟨⟨p, i⟩, hp, he⟩ := List.mem_map.1 h
  obtain ⟨rfl, rfl⟩ := Prod.mk.inj he
  have := List.mem_zipIdx_iff_getElem?.1 hp
  exact ⟨p, by simpa using this, rfl⟩

theorem globK_own (gs : List (Nat × List Value)) (hs : Hp) (b : Nat) : ¬ Own (globK gs) hs b := fun ⟨id, o, c, _, hk⟩ => by
  unfold globK at hk
  split at hk <;> simp at hk

theorem HS.globs {w : World} (gs : List (Nat × List Value)) (h : ∀ p ∈ gs, ∃ T f, w.heap[p.1]? = some (.cells p.2.toArray T f)) : HS (globK gs) w (globHp gs) := by
  refine ⟨?_, fun id o hi => ?_, fun id id' o o' b c c' _ _ hk => ?_, gs.length, fun id hid => ?_⟩
  · have : (globHp gs).map (·.1) = List.range gs.length := by
      unfold globHp
      rw [List.map_map]
      apply List.ext_getElem?
      intro i
      simp only [List.getElem?_map, List.getElem?_zipIdx]
      by_cases hi : i < gs.length
      · simp [hi]
      · simp [hi]
    rw [this]
    exact List.nodup_range
  · obtain ⟨p, hp, rfl⟩ := globHp_mem hi
    have hlt := (List.getElem?_eq_some_iff.1 hp).1
    exact ⟨(Option.none, 0), by simp [globK, hlt], rfl, globK_own gs _ _, h p (List.mem_of_getElem? hp)⟩
  · unfold globK at hk
    split at hk <;> simp at hk
  · simp [globK]; omega

theorem Ext.belowG {gs : List (Nat × List Value)} {κ' : Kap} {hs' : Hp} {w w' : World} (e : Ext (globK gs) (globHp gs) w κ' hs' w') : RowKit.Below w.heap.size w w' :=
  ⟨e.os, e.tape, e.output, e.size, fun b hb => e.same b hb (globK_own gs _ b)⟩

section
variable {H : Type} {enc : TypeId × Value → H}

/-- A law that says 'true, and the arguments read as they did', from a contract, where package-level tables are listed. -/
theorem lawG {C : Checked} {os : Os} {f : FuncId} {fn : Func} {s : ChangeSpec} (laid : List (String × DataW Unit)) (n : Nat) (ss : List Sh) (gs0 : List (Nat × List Value)) (own : ownKnob C.prog.godebug = none) (started : os.Started) (noInit : C.prog.inits.idxOf? f = none) (hfn : C.prog.funcs[f]? = some fn)
    (witness : ∃ (w : World) (tape : Tape) (i : Input), w.os = os ∧ (w.forCall tape i).Shaped C.prog ∧ i.vars = [] ∧ Input.okWide C.prog (w.forCall tape i) .any w.heap.size f i ∧
      ((s.pre enc C.prog fn [] false (w.forCall tape i).memory i.args ∧ laidMetH C.prog laid (w.forCall tape i).memory) ∧ sizedMet enc C.prog fn (OpenSpec.ofChange s) false (w.forCall tape i).memory i.args) ∧ ({} : Assume).holds C.prog (lone (Frame.enter C.prog f i.args .normal) [] (w.forCall tape i)))
    (hG : ∀ W, laidMetH C.prog laid W → ∀ p ∈ gs0, ∃ T f, W.heap[p.1]? = some (.cells p.2.toArray T f))
    (hl : laidOutB C.prog = true) (hts : fn.params.toList.all (fun t => C.prog.readableRec t && decide (t < C.prog.types.size)) = true) (tb : TypeId) (hub : C.prog.underlying tb = some .bool) (hres : fn.resultTypes = #[tb])
    (hvars : s.vars = []) (hs : fn.params.toList.map (shape C.prog n) = ss.map some)
    (hspec : ∀ ds : List (DataW H), ds.length = ss.length → s.fn H ds = { results := [.lit (.bool true)], args := ds })
    (contract : ∀ ls, Tys ss ls → AC C.prog f (argsOf ss ls) (globHp gs0) (fun r _ => r = .d (.bool true))) :
    ReturnsInHanded {} C os f .any (fun w args => (s.pre enc C.prog fn [] false w args ∧ laidMetH C.prog laid w) ∧ sizedMet enc C.prog fn (OpenSpec.ofChange s) false w args) (s.post enc C.prog fn false true false false) := by
  refine returnsInHanded_of_change_and (X := fun w _ => laidMetH C.prog laid w) (fun _ _ _ hh h => h.of_heap hh) own started noInit hfn witness ?_
  intro W base args ds gs before hval hW hcnd hsz hL _
  have hW' := hW
  obtain ⟨p, q, hA, hV, rfl, hfz, hnd⟩ := hW
  rw [hvars] at hV
  obtain ⟨rfl, rfl⟩ : gs = [] ∧ q = [] := by
    cases gs with
    | nil => exact ⟨rfl, hV⟩
    | cons g gs => exact absurd hV (by unfold DataW.TrodVars; exact id)
  have hvt : s.plain.varTypes C.prog = [] := by simp [DataSpec.varTypes, ChangeSpec.plain, hvars]
  rw [hvt, List.append_nil, List.append_nil, List.all_eq_true] at hsz
  obtain ⟨ls, h1, h2, h3⟩ := opens_all fn.params.toList ss args.toList ds p hs hA (fun k hk => by simpa using hsz k hk) (fun j t v hj hv => .inr ⟨_, _, hval j t v (by simpa using hj) (by simpa using hv)⟩)
  have hdl : ds.length = ss.length := by
    have h4 := (trodAll_length hA).2
    have h5 := congrArg List.length hs
    simp at h5 h4
    omega
  refine (contract ls h1 (globK gs0) args W (HS.globs gs0 (hG W hL)) (by simpa using h2) (fun i v x hi hx => ?_)).mono fun e W' h => ?_
  · exact (h3 i v x (by simpa using hi) hx).mono (fun id y hy => by cases hy) (fun b _ ho => absurd ho (globK_own gs0 _ b)) (fun _ _ _ => rfl)
  obtain ⟨κ', hs', v, x, rfl, _, he, hr, rfl⟩ := h
  cases hr with
  | d hr =>
  cases hr
  have bel := he.belowG
  refine ⟨_, rfl, ds, [], p ++ [], [], p, [], hW', ?_, ?_, ?_, bel.frame _, fun h => by cases h⟩
  · rw [List.append_nil, hspec ds hdl, hres]
    exact ChangeShapes.trodAll_mk1 (RowKit.shut_bool hub true)
  · rw [List.append_nil, hspec ds hdl]
    have hlt := hW'.lt
    exact trodAll_again hl bel (fun t ht => by simpa using List.all_eq_true.1 hts t ht) (fun x hx => hlt x (by simp [hx])) hA
  · rw [hvars, List.append_nil, hspec ds hdl]
    rfl

/-- What a listed table of integers holds, cell for cell. -/
theorem laid_tab {P : Program} {laid : List (String × DataW Unit)} {W : World} {name : String} {k : IntKind} {zs : List Int} {d : DataW Unit} {g : Nat} {t e : TypeId} {n : Nat} (hp : (laid.all fun x => x.2.handleName?.isNone) = true) (h : laidMetH P laid W)
    (hm : laid.lookup name = some d) (hd : d = Lib.tabData k zs) (hg : P.globalNamed name = some g) (hty : (P.globals[g]?).map (·.type) = some t) (ht : P.underlying t = some (.array n e)) (he : P.underlying e = some (.int k)) (hce : P.cellsOf e = 1) (hct : P.cellsOf t = n) :
    ∃ T f, W.heap[g]? = some (.cells (zs.map fun z => Value.int k z).toArray T f) := by
  rw [MakeChecks.laidMetH_plain _ _ _ hp] at h
  subst hd
  have hmem : (name, Lib.tabData k zs) ∈ laid := by
    clear h hp
    induction laid with
    | nil => cases hm
    | cons x l ih =>
      obtain ⟨n', d'⟩ := x
      rw [List.lookup_cons] at hm
      split at hm
      · rename_i he
        obtain rfl : name = n' := by simpa using he
        obtain rfl := Option.some.inj hm
        exact List.mem_cons_self ..
      · exact List.mem_cons_of_mem _ (ih hm)
  obtain ⟨g', t', cs, fuel, p, hg', ht', hvar, hd⟩ := Lib.laidMet.reads h hmem
  obtain rfl := Option.some.inj (hg.symm.trans hg')
  obtain rfl := Option.some.inj (hty.symm.trans ht')
  have hT : Lib.TabIs P W name k zs := by
    unfold Lib.TabIs
    rw [hvar, ← Lib.cells_of_tab ht he hce hct hd]
  unfold Lib.TabIs World.var? at hT
  rw [hg] at hT
  simp only [Option.bind_some] at hT
  cases ho : W.heap[g]? with
  | none => rw [ho] at hT; simp at hT
  | some o =>
    rw [ho] at hT
    cases o with
    | cells cs T f =>
      have : cs = (zs.map fun z => Value.int k z).toArray := by simpa using hT
      subst this
      exact ⟨T, f, rfl⟩
    | _ => simp at hT

/-- The witness: the world in which the listed variables lie as their texts lay them. -/
theorem laid_witness {C : Checked} {os : Os} {f : FuncId} {fn : Func} {s : ChangeSpec} (laid : List (String × DataW Unit)) (args : Array Value) (fuel : Nat)
    (hp : (laid.all fun x => x.2.handleName?.isNone) = true)
    (hz : (World.laidAll C.prog os laid).forCall (fun _ _ => 0) ⟨#[], args, []⟩ |>.Shaped C.prog)
    (hok : Input.okWideB C.prog ((World.laidAll C.prog os laid).forCall (fun _ _ => 0) ⟨#[], args, []⟩) f ⟨#[], args, []⟩ = true)
    (hpre : s.preB enc C.prog fn [] false ((World.laidAll C.prog os laid).forCall (fun _ _ => 0) ⟨#[], args, []⟩).memory args fuel = true)
    (hsz : s.sizedB enc C.prog fn false ((World.laidAll C.prog os laid).forCall (fun _ _ => 0) ⟨#[], args, []⟩).memory args fuel = true)
    (hf : (World.holding C.prog os ⟨#[], #[], []⟩).layFits C.prog laid [] = true)
    (hi : (World.holding C.prog os ⟨#[], #[], []⟩).layIfaces C.prog laid (World.laidAll C.prog os laid) = true) :
    ∃ (w : World) (tape : Tape) (i : Input), w.os = os ∧ (w.forCall tape i).Shaped C.prog ∧ i.vars = [] ∧ Input.okWide C.prog (w.forCall tape i) .any w.heap.size f i ∧
      ((s.pre enc C.prog fn [] false (w.forCall tape i).memory i.args ∧ laidMetH C.prog laid (w.forCall tape i).memory) ∧ sizedMet enc C.prog fn (OpenSpec.ofChange s) false (w.forCall tape i).memory i.args) ∧ ({} : Assume).holds C.prog (lone (Frame.enter C.prog f i.args .normal) [] (w.forCall tape i)) :=
  ChangeSpec.witness_shaped (enc := enc) (C := C) (os := os) (X := fun w _ => laidMetH C.prog laid w) false (World.laidAll C.prog os laid) args fuel (World.laidAll_os _ _ _) hz hok hpre hsz
    (by rw [MakeChecks.laidMetH_plain _ _ _ hp]; exact laidMet_laidAll args hf hi)
end
end Go.Proofs.YtldkkoecehdicaaDoorA
