/- Our framework: Abs35 Abs36 Abs37 Abs38 Abs39 Abs40 Abs41 Abs42 Abs43 Abs44. -/
import Derived.Test.YtaegeaajhbfkgaaGreatDoorFrC
import Derived.Test.YtaegeaajhbfkgaaGreatDoorFrB
import Derived.Lib.AppendStr
import Derived.Lib.UnsafeStr
import Derived.Lib.Builder
import Derived.Handed
import Derived.LaidLaws
import Derived.LaidHandle
import Derived.Stop.Joined
import Derived.MakeChecks
import Derived.Lay
import Derived.Lib.LaidU8
import Derived.Lib.LaidTab
import Derived.Lib.ItoaNum
import Derived.Sort.Grow
import Derived.Deep.Draws
/- Own lists whose elements are slices of one's own; shifts and masks of counts; own bytes as a string. -/
namespace Go.Proofs.YtaegeaajhbfkgaaGreatDoorA
open Go
set_option linter.unusedVariables false
set_option linter.unusedSimpArgs false
section
variable {P : Program} {N : Nm} {σ : Env} {hs : Hp} {Q : Post}
end
section
variable {P : Program} {N : Nm} {σ : Env} {hs : Hp} {d : Option Tmp} {ty : TypeId} {pos : String} {af : Array Edge} {g : Option (Nat × Bool)}
end
end Go.Proofs.YtaegeaajhbfkgaaGreatDoorA
/- Own bytes as a string; shifts and masks of small counts. -/
namespace Go.Proofs.YtaegeaajhbfkgaaGreatDoorA
open Go
set_option linter.unusedVariables false
set_option linter.unusedSimpArgs false
section
variable {P : Program} {N : Nm} {σ : Env} {hs : Hp} {d : Option Tmp} {ty : TypeId} {pos : String} {af : Array Edge} {g : Option (Nat × Bool)}
end
end Go.Proofs.YtaegeaajhbfkgaaGreatDoorA
/- Package-level tables; types of variables; strings appended to own bytes; own bytes handed on as a string; bits. -/
namespace Go.Proofs.YtaegeaajhbfkgaaGreatDoorA
open Go
set_option linter.unusedVariables false
set_option linter.unusedSimpArgs false
section
variable {P : Program} {N : Nm} {σ : Env} {hs : Hp} {d : Option Tmp} {ty : TypeId} {pos : String} {af : Array Edge} {g : Option (Nat × Bool)}
theorem glob_rep {κ : Kap} {w : World} (h : HS κ w hs) {kk id b : Nat} {l : List Value} {ds : List D} (hk : hs[kk]? = some (id, .glob b l)) (hds : cellsD l = some ds) (off : Nat) :
    RepA κ w (Own κ hs) (.pointer (some ⟨b, off, none⟩)) (.dp (ds.drop off)) := by
  obtain ⟨⟨ob, cap⟩, hκ, hok⟩ := h.ok id _ (List.mem_of_getElem? hk)
  obtain ⟨h0, hno, T, f, hw⟩ := hok
  have h1 : ∀ (i : Nat) (v : Value), l[i]? = some v → ¬ Own κ hs b ∧ w.cell? ⟨b, i, none⟩ = some v := fun i v hv => ⟨hno, by simp [World.cell?, hw, hv]⟩
  obtain ⟨f1, f2, f3⟩ := cellsD_rep w (Own κ hs) l ds hds
  have hlen : ds.length = l.length := by simpa using f1.symm
  refine .dp _ _ (fun j => l.getD (off + j) undef) (fun d hd => f2 d (List.mem_of_mem_drop hd)) (fun j d hj => ?_) (fun j d hj => ?_)
  · rw [List.getElem?_drop] at hj
    have hlt : off + j < l.length := by rw [← hlen]; exact (List.getElem?_eq_some_iff.1 hj).1
    obtain ⟨h2, h3⟩ := h1 (off + j) _ (List.getElem?_eq_getElem hlt)
    refine ⟨h2, ?_⟩
    rw [addr_add_lit]
    simp only [List.getD_eq_getElem?_getD, List.getElem?_eq_getElem hlt, Option.getD_some]
    exact h3
  · rw [List.getElem?_drop] at hj
    have hlt : off + j < l.length := by rw [← hlen]; exact (List.getElem?_eq_some_iff.1 hj).1
    simp only [List.getD_eq_getElem?_getD, List.getElem?_eq_getElem hlt, Option.getD_some]
    exact f3 (off + j) _ d (by simp [hlt]) hj
theorem Q.idx_glob {t n sz b id kk : Nat} {l : List Value} {ds : List D} {ix : Operand} {k : IntKind} {i : Int} (ht : tArr P t = some (n, sz)) (hk : hs[kk]? = some (id, .glob b l)) (hds : cellsD l = some ds) (hi : oev σ ix = .d (.int k i)) (h0 : 0 ≤ i) (h1 : i < n) :
    Quiet P N σ hs ⟨d, .indexAddr t (.global b) ix, ty, pos, af, g⟩ (.dp (ds.drop (i.toNat * sz))) :=
  .of_run fun κ a w s => by
    have h := s.oev ix; rw [hi] at h
    obtain ⟨e, inf, hu, hei, rfl⟩ := tArr_spec ht
    refine ⟨.pointer (some ⟨b, i.toNat * inf.size, none⟩), ?_, glob_rep s.heap hk hds _⟩
    rw [show execOp a.eval ⟨d, .indexAddr t (.global b) ix, ty, pos, af, g⟩ = (do pure (.value (← Instr.indexAt t (.pointer (some ⟨b, 0, none⟩)) (a.eval ix)))) from rfl, h.int_inv, Sem.run_bind, arr_run hu hei _ h0 h1]
    simp [addr_add_lit]
theorem SameT.freeze (w : World) (b n : Nat) : SameT w (w.freeze ⟨b, 0, none⟩ n) b := fun cs T f h => by
  unfold World.freeze
  split
  · exact ⟨cs, f, h⟩
  · obtain ⟨lo, hi⟩ := f
    refine ⟨cs, (if lo == hi then (0, 0 + n) else (min lo 0, max hi (0 + n))), ?_⟩
    show (Array.modify _ _ _)[b]? = _
    rw [Array.getElem?_modify, if_pos rfl, h]
    rfl
end
end Go.Proofs.YtaegeaajhbfkgaaGreatDoorA
/- A law whose row lists package-level tables: the contract begins with these tables in mind. -/
namespace Go.Proofs.YtaegeaajhbfkgaaGreatDoorA
open Go
set_option linter.unusedVariables false
set_option linter.unusedSimpArgs false
def globHp (gs : List (Nat × List Value)) : Hp := gs.zipIdx.map fun p => (p.2, .glob p.1.1 p.1.2)
def globK (gs : List (Nat × List Value)) : Kap := fun i => if i < gs.length then some (Option.none, 0) else Option.none
theorem globHp_mem {gs : List (Nat × List Value)} {id : Nat} {o : HO} (h : (id, o) ∈ globHp gs) : ∃ p, gs[id]? = some p ∧ o = .glob p.1 p.2 := by
  obtain ⟨⟨p, i⟩, hp, he⟩ := List.mem_map.1 h
  obtain ⟨rfl, rfl⟩ := Prod.mk.inj he
  have := List.mem_zipIdx_iff_getElem?.1 hp
  exact ⟨p, by simpa using this, rfl⟩
theorem globK_own (gs : List (Nat × List Value)) (hs : Hp) (b : Nat) : ¬ Own (globK gs) hs b := fun ⟨id, o, c, _, hk⟩ => by
  unfold globK at hk
  split at hk <;> simp at hk
theorem HS.globs {w : World} (gs : List (Nat × List Value)) (h : ∀ p ∈ gs, ∃ T f, w.heap[p.1]? = some (.cells p.2.toArray T f)) : HS (globK gs) w (globHp gs) := by
  refine ⟨?_, fun id o hi => ?_, fun id id' o o' b c c' _ _ hk => ?_, gs.length, fun id hid => ?_⟩
  · have : (globHp gs).map (·.1) = List.range gs.length := by
      unfold globHp
      rw [List.map_map]
      apply List.ext_getElem?
      intro i
      simp only [List.getElem?_map, List.getElem?_zipIdx]
      by_cases hi : i < gs.length
      · simp [hi]
      · simp [hi]
    rw [this]
    exact List.nodup_range
  · obtain ⟨p, hp, rfl⟩ := globHp_mem hi
    have hlt := (List.getElem?_eq_some_iff.1 hp).1
    exact ⟨(Option.none, 0), by simp [globK, hlt], rfl, globK_own gs _ _, h p (List.mem_of_getElem? hp)⟩
  · unfold globK at hk
    split at hk <;> simp at hk
  · simp [globK]; omega
theorem Ext.belowG {gs : List (Nat × List Value)} {κ' : Kap} {hs' : Hp} {w w' : World} (e : Ext (globK gs) (globHp gs) w κ' hs' w') : RowKit.Below w.heap.size w w' :=
  ⟨e.os, e.tape, e.output, e.size, fun b hb => e.same b hb (globK_own gs _ b)⟩
section
variable {H : Type} {enc : TypeId × Value → H}
theorem lawG {C : Checked} {os : Os} {f : FuncId} {fn : Func} {s : ChangeSpec} (laid : List (String × DataW Unit)) (n : Nat) (ss : List Sh) (gs0 : List (Nat × List Value)) (own : ownKnob C.prog.godebug = none) (started : os.Started) (noInit : C.prog.inits.idxOf? f = none) (hfn : C.prog.funcs[f]? = some fn)
    (witness : ∃ (w : World) (tape : Tape) (i : Input), w.os = os ∧ (w.forCall tape i).Shaped C.prog ∧ i.vars = [] ∧ Input.okWide C.prog (w.forCall tape i) .any w.heap.size f i ∧
      ((s.pre enc C.prog fn [] false (w.forCall tape i).memory i.args ∧ laidMetH C.prog laid (w.forCall tape i).memory) ∧ sizedMet enc C.prog fn (OpenSpec.ofChange s) false (w.forCall tape i).memory i.args) ∧ ({} : Assume).holds C.prog (lone (Frame.enter C.prog f i.args .normal) [] (w.forCall tape i)))
    (hG : ∀ W, laidMetH C.prog laid W → ∀ p ∈ gs0, ∃ T f, W.heap[p.1]? = some (.cells p.2.toArray T f))
    (hl : laidOutB C.prog = true) (hts : fn.params.toList.all (fun t => C.prog.readableRec t && decide (t < C.prog.types.size)) = true) (tb : TypeId) (hub : C.prog.underlying tb = some .bool) (hres : fn.resultTypes = #[tb])
    (hvars : s.vars = []) (hs : fn.params.toList.map (shape C.prog n) = ss.map some)
    (hspec : ∀ ds : List (DataW H), ds.length = ss.length → s.fn H ds = { results := [.lit (.bool true)], args := ds })
    (contract : ∀ ls, Tys ss ls → AC C.prog f (argsOf ss ls) (globHp gs0) (fun r _ => r = .d (.bool true))) :
    ReturnsInHanded {} C os f .any (fun w args => (s.pre enc C.prog fn [] false w args ∧ laidMetH C.prog laid w) ∧ sizedMet enc C.prog fn (OpenSpec.ofChange s) false w args) (s.post enc C.prog fn false true false false) := by
  refine returnsInHanded_of_change_and (X := fun w _ => laidMetH C.prog laid w) (fun _ _ _ hh h => h.of_heap hh) own started noInit hfn witness ?_
  intro W base args ds gs before hval hW hcnd hsz hL _
  have hW' := hW
  obtain ⟨p, q, hA, hV, rfl, hfz, hnd⟩ := hW
  rw [hvars] at hV
  obtain ⟨rfl, rfl⟩ : gs = [] ∧ q = [] := by
    cases gs with
    | nil => exact ⟨rfl, hV⟩
    | cons g gs => exact absurd hV (by unfold DataW.TrodVars; exact id)
  have hvt : s.plain.varTypes C.prog = [] := by simp [DataSpec.varTypes, ChangeSpec.plain, hvars]
  rw [hvt, List.append_nil, List.append_nil, List.all_eq_true] at hsz
  obtain ⟨ls, h1, h2, h3⟩ := opens_all fn.params.toList ss args.toList ds p hs hA (fun k hk => by simpa using hsz k hk) (fun j t v hj hv => .inr ⟨_, _, hval j t v (by simpa using hj) (by simpa using hv)⟩)
  have hdl : ds.length = ss.length := by
    have h4 := (trodAll_length hA).2
    have h5 := congrArg List.length hs
    simp at h5 h4
    omega
  refine (contract ls h1 (globK gs0) args W (HS.globs gs0 (hG W hL)) (by simpa using h2) (fun i v x hi hx => ?_)).mono fun e W' h => ?_
  · exact (h3 i v x (by simpa using hi) hx).mono (fun id y hy => by cases hy) (fun b _ ho => absurd ho (globK_own gs0 _ b)) (fun _ _ _ => rfl)
  obtain ⟨κ', hs', v, x, rfl, _, he, hr, rfl⟩ := h
  cases hr with
  | d hr =>
  cases hr
  have bel := he.belowG
  refine ⟨_, rfl, ds, [], p ++ [], [], p, [], hW', ?_, ?_, ?_, bel.frame _, fun h => by cases h⟩
  · rw [List.append_nil, hspec ds hdl, hres]
    exact ChangeShapes.trodAll_mk1 (RowKit.shut_bool hub true)
  · rw [List.append_nil, hspec ds hdl]
    have hlt := hW'.lt
    exact trodAll_again hl bel (fun t ht => by simpa using List.all_eq_true.1 hts t ht) (fun x hx => hlt x (by simp [hx])) hA
  · rw [hvars, List.append_nil, hspec ds hdl]
    rfl
theorem laid_tab {P : Program} {laid : List (String × DataW Unit)} {W : World} {name : String} {k : IntKind} {zs : List Int} {d : DataW Unit} {g : Nat} {t e : TypeId} {n : Nat} (hp : (laid.all fun x => x.2.handleName?.isNone) = true) (h : laidMetH P laid W)
    (hm : laid.lookup name = some d) (hd : d = Lib.tabData k zs) (hg : P.globalNamed name = some g) (hty : (P.globals[g]?).map (·.type) = some t) (ht : P.underlying t = some (.array n e)) (he : P.underlying e = some (.int k)) (hce : P.cellsOf e = 1) (hct : P.cellsOf t = n) :
    ∃ T f, W.heap[g]? = some (.cells (zs.map fun z => Value.int k z).toArray T f) := by
  rw [MakeChecks.laidMetH_plain _ _ _ hp] at h
  subst hd
  have hmem : (name, Lib.tabData k zs) ∈ laid := by
    clear h hp
    induction laid with
    | nil => cases hm
    | cons x l ih =>
      obtain ⟨n', d'⟩ := x
      rw [List.lookup_cons] at hm
      split at hm
      · rename_i he
        obtain rfl : name = n' := by simpa using he
        obtain rfl := Option.some.inj hm
        exact List.mem_cons_self ..
      · exact List.mem_cons_of_mem _ (ih hm)
  obtain ⟨g', t', cs, fuel, p, hg', ht', hvar, hd⟩ := Lib.laidMet.reads h hmem
  obtain rfl := Option.some.inj (hg.symm.trans hg')
  obtain rfl := Option.some.inj (hty.symm.trans ht')
  have hT : Lib.TabIs P W name k zs := by
    unfold Lib.TabIs
    rw [hvar, ← Lib.cells_of_tab ht he hce hct hd]
  unfold Lib.TabIs World.var? at hT
  rw [hg] at hT
  simp only [Option.bind_some] at hT
  cases ho : W.heap[g]? with
  | none => rw [ho] at hT; simp at hT
  | some o =>
    rw [ho] at hT
    cases o with
    | cells cs T f =>
      have : cs = (zs.map fun z => Value.int k z).toArray := by simpa using hT
      subst this
      exact ⟨T, f, rfl⟩
    | _ => simp at hT
theorem laid_witness {C : Checked} {os : Os} {f : FuncId} {fn : Func} {s : ChangeSpec} (laid : List (String × DataW Unit)) (args : Array Value) (fuel : Nat)
    (hp : (laid.all fun x => x.2.handleName?.isNone) = true)
    (hz : (World.laidAll C.prog os laid).forCall (fun _ _ => 0) ⟨#[], args, []⟩ |>.Shaped C.prog)
    (hok : Input.okWideB C.prog ((World.laidAll C.prog os laid).forCall (fun _ _ => 0) ⟨#[], args, []⟩) f ⟨#[], args, []⟩ = true)
    (hpre : s.preB enc C.prog fn [] false ((World.laidAll C.prog os laid).forCall (fun _ _ => 0) ⟨#[], args, []⟩).memory args fuel = true)
    (hsz : s.sizedB enc C.prog fn false ((World.laidAll C.prog os laid).forCall (fun _ _ => 0) ⟨#[], args, []⟩).memory args fuel = true)
    (hf : (World.holding C.prog os ⟨#[], #[], []⟩).layFits C.prog laid [] = true)
    (hi : (World.holding C.prog os ⟨#[], #[], []⟩).layIfaces C.prog laid (World.laidAll C.prog os laid) = true) :
    ∃ (w : World) (tape : Tape) (i : Input), w.os = os ∧ (w.forCall tape i).Shaped C.prog ∧ i.vars = [] ∧ Input.okWide C.prog (w.forCall tape i) .any w.heap.size f i ∧
      ((s.pre enc C.prog fn [] false (w.forCall tape i).memory i.args ∧ laidMetH C.prog laid (w.forCall tape i).memory) ∧ sizedMet enc C.prog fn (OpenSpec.ofChange s) false (w.forCall tape i).memory i.args) ∧ ({} : Assume).holds C.prog (lone (Frame.enter C.prog f i.args .normal) [] (w.forCall tape i)) :=
  ChangeSpec.witness_shaped (enc := enc) (C := C) (os := os) (X := fun w _ => laidMetH C.prog laid w) false (World.laidAll C.prog os laid) args fuel (World.laidAll_os _ _ _) hz hok hpre hsz
    (by rw [MakeChecks.laidMetH_plain _ _ _ hp]; exact laidMet_laidAll args hf hi)
end
end Go.Proofs.YtaegeaajhbfkgaaGreatDoorA
/- Nil slices read as data; bytes looked for and counted. -/
namespace Go.Proofs.YtaegeaajhbfkgaaGreatDoorA
open Go
set_option linter.unusedVariables false
set_option linter.unusedSimpArgs false
theorem und_int {P : Program} {t : Nat} {k : IntKind} (h : tInt P t = some k) : ∃ u, P.underlying t = some u := ⟨_, tInt_spec h⟩
theorem map_atI {α β : Type} {l : List α} {z : Int} {x : α} {f : α → β} (hx : l[z.toNat]? = some x) : (l.map f)[z.toNat]? = some (f x) := by rw [List.getElem?_map, hx]; rfl
section
variable {P : Program} {N : Nm} {σ : Env} {hs : Hp} {d : Option Tmp} {ty : TypeId} {pos : String} {af : Array Edge} {g : Option (Nat × Bool)} {Q : Post}
theorem W.nild {c : Code} (t sz : Nat) (ht : eget σ t = .nilsl) (h : W P N c Q ((t, .d (.sl sz [])) :: σ) hs) : W P N c Q σ hs := fun κ a w s =>
  h κ a w ⟨s.heap, s.size, s.defers, fun i => by
    by_cases hi : t = i
    · subst hi
      rw [eget_same]
      have hv := s.get t
      rw [ht] at hv
      generalize a.tmps.getD t undef = u at hv
      cases hv
      exact .d (.sl none 0 0 _ [] (fun _ _ => undef) rfl (Nat.le_refl _) (by simp) (by simp) (by simp) (by simp))
    · rw [eget_ne σ _ hi]; exact s.get i⟩
end
end Go.Proofs.YtaegeaajhbfkgaaGreatDoorA
/- Own bytes that a conversion made: the block bears the conversion's mark behind its cells. -/
namespace Go.Proofs.YtaegeaajhbfkgaaGreatDoorA
open Go
set_option linter.unusedVariables false
set_option linter.unusedSimpArgs false
section
variable {P : Program} {N : Nm} {σ : Env} {hs : Hp} {d : Option Tmp} {ty : TypeId} {pos : String} {af : Array Edge} {g : Option (Nat × Bool)}
end
end Go.Proofs.YtaegeaajhbfkgaaGreatDoorA
/- Library functions by the kit's contracts: nothing but new blocks behind them. -/
namespace Go.Proofs.YtaegeaajhbfkgaaGreatDoorA
open Go Go.RowKit Go.Sort
set_option linter.unusedVariables false
set_option linter.unusedSimpArgs false
theorem HS.grown {κ : Kap} {w : World} {hs : Hp} (h : HS κ w hs) (k : Nat) (os : Array Obj) : HS κ (grow (w.drewN k) os) hs ∧ Ext κ hs w κ hs (grow (w.drewN k) os) := by
  have hsz : w.heap.size ≤ (grow (w.drewN k) os).heap.size := by simp [grow, World.drewN]
  have hold : ∀ b, b < w.heap.size → (grow (w.drewN k) os).heap[b]? = w.heap[b]? := fun b hb => by
    simp [grow, World.drewN, Array.getElem?_append_left hb]
  exact h.oneMore hsz (fun _ => by simp [grow, World.drewN]) rfl rfl rfl hold
theorem glob_tab {P : Program} {κ : Kap} {w : World} {hs : Hp} (h : HS κ w hs) {kk id b : Nat} {k : IntKind} {zs : List Int} {name : String} (hk : hs[kk]? = some (id, .glob b (zs.map (Value.int k)))) (hg : P.globalNamed name = some b) : Lib.TabIs P w name k zs := by
  obtain ⟨⟨ob, cap⟩, hκ, hok⟩ := h.ok id _ (List.mem_of_getElem? hk)
  obtain ⟨h0, hno, T, f, hw⟩ := hok
  unfold Lib.TabIs World.var?
  rw [hg, Option.bind_some, hw]
theorem AC.ofk {P : Program} {f : FuncId} {args : List AV} {hs : Hp} {v : Value} {y : AV} (hv : ∀ κ w O, RepA κ w O v y)
    (h : ∀ κ vals w, HS κ w hs → vals.size = args.length → (∀ (i : Nat) (u : Value) (x : AV), vals[i]? = some u → args[i]? = some x → RepA κ w (Own κ hs) u x) →
      Calls P f vals w fun e w' => e = .returned v ∧ ∃ k os, w' = grow (w.drewN k) os) : AC P f args hs (fun r h => r = y ∧ h = hs) := fun κ vals w h1 h2 h3 => by
  refine (h κ vals w h1 h2 h3).mono ?_
  rintro e w' ⟨rfl, k, os, rfl⟩
  obtain ⟨h4, h5⟩ := h1.grown k os
  exact ⟨κ, hs, v, y, rfl, h4, h5, hv _ _ _, rfl, rfl⟩
end Go.Proofs.YtaegeaajhbfkgaaGreatDoorA
/- A contract for borrowed arguments, as a contract for one's own things. -/
namespace Go.Proofs.YtaegeaajhbfkgaaGreatDoorA
open Go
set_option linter.unusedVariables false
theorem AC.brw {P : Program} {f : FuncId} {xs ys : List AV} {hs : Hp} {R : AV → Hp → Prop} (hb : Brws hs xs ys) (hc : AC P f ys [] R) (hok : ∀ r hs', R r hs' → OkR r ∧ ∀ p ∈ hs', OkH p.2) :
    AC P f xs hs (fun r h => ∃ h', R r h' ∧ h = h' ++ hs) := fun κ vals w h1 h2 h3 => by
  obtain ⟨h0, _⟩ := h1.sublist (List.nil_sublist hs)
  obtain ⟨h5, h6⟩ := hb.get
  refine (hc κ vals w h0 (by omega) (fun i v y hi hy => ?_)).mono ?_
  · have hlt : i < vals.size := (Array.getElem?_eq_some_iff.1 hi).1
    have hx := List.getElem?_eq_getElem (show i < xs.length by omega)
    exact (h6 i _ y hx hy).rep h1 (h3 i v _ hi hx) fun b ⟨_, _, _, hi, _⟩ => by cases hi
  · rintro e w' ⟨κ', hs', v, r, rfl, h5, h6, h7, h8⟩
    obtain ⟨ok1, ok2⟩ := hok r hs' h8
    obtain ⟨g1, g2⟩ := h1.back h5 h6 ok2
    exact ⟨κ', _, v, r, rfl, g1, g2, h7.okR ok1, hs', h8, rfl⟩
theorem AC.brwF {P : Program} {f : FuncId} {xs ys : List AV} {hs : Hp} {sz : Nat} {rows : List (List D)} (hb : Brws hs xs ys) (hc : AC P f ys [] (fun r h => ∃ v, r = .vs v 0 rows.length sz ∧ h = [(v, .lst sz rows)]))
    (hok : ∀ r ∈ rows, ∀ x ∈ r, x.flat = true) : AC P f xs hs (fun r h => r = .d (.sl sz rows) ∧ h = hs) :=
  AC.frz ((AC.brw hb hc (fun r hs' ⟨v, h1, h2⟩ => by subst h1 h2; exact ⟨trivial, fun p hp => by simp at hp; subst hp; exact hok⟩)).mono fun r h ⟨h', ⟨v, h1, h2⟩, h3⟩ => by subst h1 h2 h3; exact ⟨v, rfl, .vs rfl⟩)
end Go.Proofs.YtaegeaajhbfkgaaGreatDoorA
/- Interface values held against nil. -/
namespace Go.Proofs.YtaegeaajhbfkgaaGreatDoorA
open Go
set_option linter.unusedVariables false
section
variable {P : Program} {N : Nm} {σ : Env} {hs : Hp} {d : Option Tmp} {ty : TypeId} {pos : String} {af : Array Edge} {g : Option (Nat × Bool)}
end
end Go.Proofs.YtaegeaajhbfkgaaGreatDoorA
/- Numbers made floating, their root, and floating numbers made whole. -/
namespace Go.Proofs.YtaegeaajhbfkgaaGreatDoorA
open Go
set_option linter.unusedVariables false
set_option linter.unusedSimpArgs false
theorem RepA.flt_inv {κ : Kap} {w : World} {O : Nat → Prop} {v : Value} {x : Nat} (h : RepA κ w O v (.d (.flt x))) : v = .float .f64 x := by
  cases h with
  | d h => cases h; rfl
section
variable {P : Program} {N : Nm} {σ : Env} {hs : Hp} {d : Option Tmp} {ty : TypeId} {pos : String} {af : Array Edge} {g : Option (Nat × Bool)}
theorem Q.conv_flt {t t' : TypeId} {x : Operand} {k : IntKind} {n : Int} (hu : P.underlying t' = some (.float .f64)) (hx : oev σ x = .d (.int k n)) (hs0 : ∃ u, P.underlying t = some u) :
    Quiet P N σ hs ⟨d, .convert t t' x, ty, pos, af, g⟩ (.d (.flt (FloatKind.f64.nearest n))) :=
  .of_run fun κ a w s => by
    have h1 := s.oev x; rw [hx] at h1
    obtain ⟨u, hu0⟩ := hs0
    exact ⟨.float .f64 (FloatKind.f64.nearest n), by simp [execOp, h1.int_inv, convert, run_underlying hu0, run_underlying hu, Conv.intToFloat], .d (.flt _)⟩
theorem Q.conv_ofl {t t' : TypeId} {x : Operand} {k : IntKind} {n : Nat} {r : Int} (ht : tInt P t' = some k) (hx : oev σ x = .d (.flt n)) (hs0 : ∃ u, P.underlying t = some u)
    (hr : (FloatKind.f64.format.read n).toInt .zero = some r) (h0 : k.min ≤ r) (h1 : r ≤ k.max) :
    Quiet P N σ hs ⟨d, .convert t t' x, ty, pos, af, g⟩ (.d (.int k r)) :=
  .of_run fun κ a w s => by
    have h2 := s.oev x; rw [hx] at h2
    obtain ⟨u, hu0⟩ := hs0
    have h3 : (Conv.floatToInt .f64 n k).run P w = .ok (.int k r) w := by
      unfold Conv.floatToInt FloatKind.decode
      rw [hr]
      simp [h0, h1]
    exact ⟨.int k r, by simp [execOp, h2.flt_inv, convert, run_underlying hu0, run_underlying (tInt_spec ht), h3], .d (.int _ _)⟩
theorem Q.sqrt {x y : Operand} {tys : Array TypeId} {f : FuncId} {n r : Nat} (hx : oev σ x = .fn f []) (he : ∀ args w, (callFunc f args).run P w = ((Extern.MathSqrt.sqrt args).run P w).andThen fun v w' => .ok (.value v) w')
    (hy : oev σ y = .d (.flt n)) (hr : FloatKind.f64.format.sqrt n = some r) : Quiet P N σ hs ⟨d, .call ⟨.value x, #[y], tys⟩, ty, pos, af, g⟩ (.d (.flt r)) :=
  Q.ext (xs := [.d (.flt n)]) hx he (by simp [hy]) fun κ w vals h h1 h2 => by
    obtain ⟨u, rfl⟩ : ∃ u, vals = #[u] := ⟨vals[0]'(by simp at h1; omega), by
      apply Array.ext
      · simpa using h1
      · intro i h4 h5
        obtain rfl : i = 0 := by simp at h5; omega
        rfl⟩
    obtain rfl := (h2 0 u _ rfl rfl).flt_inv
    refine ⟨.float .f64 r, ?_, .d (.flt _)⟩
    have e : Extern.MathSqrt.sqrt #[.float .f64 n] = (match FloatKind.f64.format.sqrt n with | some r => pure (.float .f64 r) | none => do pure (.float .f64 (← choose (.nanBits .f64 n n)))) := rfl
    rw [e, hr]; rfl
end
theorem W.named {P : Program} {N : Nm} {Q : Post} {σ : Env} {hs : Hp} {c : Code} {x : Nat × HO} (h : ∀ y, y = x → W P N c Q σ (y :: hs)) : W P N c Q σ (x :: hs) := h x rfl
end Go.Proofs.YtaegeaajhbfkgaaGreatDoorA

