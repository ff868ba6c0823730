/- Laws over listed variables whose rows hang on the start: sentinels of the library. -/
import Derived.Test.YtodbcbojkfndiaaGreatDoorRep1
import Derived.Test.YtodbcbojkfndiaaGreatDoorFrD
import Derived.Stop.LaidErr
import Derived.Test.YtodbcbojkfndiaaGreatDoorFrB
import Derived.Handed
import Derived.LaidLaws
import Derived.LaidHandle
import Derived.Stop.Joined
import Derived.MakeChecks
import Derived.Lay
import Derived.Lib.LaidU8
namespace Go.Proofs.YtodbcbojkfndiaaGreatDoorA
open Go
set_option linter.unusedVariables false

section
variable {H : Type} {enc : TypeId × Value → H}
/-- A law that says 'true, and the arguments read as they did', from a contract, where package-level variables are listed whose rows hang on the start. -/
theorem lawG2 {C : Checked} {os : Os} {f : FuncId} {fn : Func} {s : ChangeSpec} (laid : List (String × DataW Unit)) (n : Nat) (ss : List Sh) (okG : List (Nat × List Value) → Prop) (own : ownKnob C.prog.godebug = none) (started : os.Started) (noInit : C.prog.inits.idxOf? f = none) (hfn : C.prog.funcs[f]? = some fn)
    (witness : ∃ (w : World) (tape : Tape) (i : Input), w.os = os ∧ (w.forCall tape i).Shaped C.prog ∧ i.vars = [] ∧ Input.okWide C.prog (w.forCall tape i) .any w.heap.size f i ∧
      ((s.pre enc C.prog fn [] false (w.forCall tape i).memory i.args ∧ laidMetH C.prog laid (w.forCall tape i).memory) ∧ sizedMet enc C.prog fn (OpenSpec.ofChange s) false (w.forCall tape i).memory i.args) ∧ ({} : Assume).holds C.prog (lone (Frame.enter C.prog f i.args .normal) [] (w.forCall tape i)))
    (hG : ∀ W, laidMetH C.prog laid W → ∃ gs0, okG gs0 ∧ ∀ p ∈ gs0, ∃ T f, W.heap[p.1]? = some (.cells p.2.toArray T f))
    (hl : laidOutB C.prog = true) (hts : fn.params.toList.all (fun t => C.prog.readableRec t && decide (t < C.prog.types.size)) = true) (tb : TypeId) (hub : C.prog.underlying tb = some .bool) (hres : fn.resultTypes = #[tb])
    (hvars : s.vars = []) (hs : fn.params.toList.map (shape C.prog n) = ss.map some)
    (hspec : ∀ ds : List (DataW H), ds.length = ss.length → s.fn H ds = { results := [.lit (.bool true)], args := ds })
    (contract : ∀ gs0, okG gs0 → ∀ ls, Tys ss ls → AC C.prog f (argsOf ss ls) (globHp gs0) (fun r _ => r = .d (.bool true))) :
    ReturnsInHanded {} C os f .any (fun w args => (s.pre enc C.prog fn [] false w args ∧ laidMetH C.prog laid w) ∧ sizedMet enc C.prog fn (OpenSpec.ofChange s) false w args) (s.post enc C.prog fn false true false false) := by
  refine returnsInHanded_of_change_and (X := fun w _ => laidMetH C.prog laid w) (fun _ _ _ hh h => h.of_heap hh) own started noInit hfn witness ?_
  intro W base args ds gs before hval hW hcnd hsz hL _
  have hW' := hW
  obtain ⟨p, q, hA, hV, rfl, hfz, hnd⟩ := hW
  rw [hvars] at hV
  obtain ⟨rfl, rfl⟩ : gs = [] ∧ q = [] := by
    cases gs with
    | nil => exact ⟨rfl, hV⟩
    | cons g gs => exact absurd hV (by unfold DataW.TrodVars; exact id)
  have hvt : s.plain.varTypes C.prog = [] := by simp [DataSpec.varTypes, ChangeSpec.plain, hvars]
  rw [hvt, List.append_nil, List.append_nil, List.all_eq_true] at hsz
  obtain ⟨ls, h1, h2, h3⟩ := opens_all fn.params.toList ss args.toList ds p hs hA (fun k hk => by simpa using hsz k hk) (fun j t v hj hv => .inr ⟨_, _, hval j t v (by simpa using hj) (by simpa using hv)⟩)
  have hdl : ds.length = ss.length := by
    have h4 := (trodAll_length hA).2
    have h5 := congrArg List.length hs
    simp at h5 h4
    omega
  obtain ⟨gs0, hgo, hgw⟩ := hG W hL
  refine (contract gs0 hgo ls h1 (globK gs0) args W (HS.globs gs0 hgw) (by simpa using h2) (fun i v x hi hx => ?_)).mono fun e W' h => ?_
  · exact (h3 i v x (by simpa using hi) hx).mono (fun id y hy => by cases hy) (fun b _ ho => absurd ho (globK_own gs0 _ b)) (fun _ _ _ => rfl)
  obtain ⟨κ', hs', v, x, rfl, _, he, hr, rfl⟩ := h
  cases hr with
  | d hr =>
  cases hr
  have bel := he.belowG
  refine ⟨_, rfl, ds, [], p ++ [], [], p, [], hW', ?_, ?_, ?_, bel.frame _, fun h => by cases h⟩
  · rw [List.append_nil, hspec ds hdl, hres]
    exact ChangeShapes.trodAll_mk1 (RowKit.shut_bool hub true)
  · rw [List.append_nil, hspec ds hdl]
    have hlt := hW'.lt
    exact trodAll_again hl bel (fun t ht => by simpa using List.all_eq_true.1 hts t ht) (fun x hx => hlt x (by simp [hx])) hA
  · rw [hvars, List.append_nil, hspec ds hdl]
    rfl

end
theorem laid_mem {P : Program} {W : World} {x : String × DataW Unit} : ∀ {l : List (String × DataW Unit)}, laidMet P l W → x ∈ l → ∃ r, laidMet P (x :: r) W
  | [], _, h => by cases h
  | y :: l, h, hm => by
    rcases List.mem_cons.1 hm with rfl | hm
    · exact ⟨l, h⟩
    · exact laid_mem h.tail hm
theorem laid_err {P : Program} {laid : List (String × DataW Unit)} {W : World} {name nm : String} {text : List UInt8} {g : Nat} {ti tp te ts : TypeId} {ms : Array (String × TypeId)} {f : Field} (hpl : (laid.all fun x => x.2.handleName?.isNone) = true) (h : laidMetH P laid W)
    (hm : laid.lookup name = some (.iface nm (.ptr (.agg [.lit (.string text)])))) (hg : P.globalNamed name = some g) (ht : (P.globals[g]?).map (·.type) = some ti) (hi : P.underlying ti = some (.interface ms)) (hrow : ∀ u, P.typeName? 3 u = some nm → u = tp)
    (hp : P.underlying tp = some (.pointer te)) (he : P.underlying te = some (.struct #[f])) (hft : f.type = ts) (hfo : f.offset = 0) (hs : P.underlying ts = some .string) (hc : P.cellsOf te = 1) (hcs : P.cellsOf ts = 1) :
    ∃ ev, okE ev ∧ ∃ T fz, W.heap[g]? = some (.cells [ev].toArray T fz) := by
  rw [MakeChecks.laidMetH_plain _ _ _ hpl] at h
  have hmem : (name, DataW.iface nm (.ptr (.agg [.lit (.string text)]))) ∈ laid := by
    clear h hpl
    induction laid with
    | nil => cases hm
    | cons x l ih =>
      obtain ⟨n', d'⟩ := x
      rw [List.lookup_cons] at hm
      split at hm
      · rename_i he
        obtain rfl : name = n' := by simpa using he
        obtain rfl := Option.some.inj hm
        exact List.mem_cons_self ..
      · exact List.mem_cons_of_mem _ (ih hm)
  obtain ⟨r, hr⟩ := laid_mem h hmem
  obtain ⟨a, s, hv, _⟩ := laid_sentinel hr hg ht hi hrow hp he hft hfo hs hc hcs
  refine ⟨_, .inr ⟨tp, .pointer (some a), rfl⟩, ?_⟩
  unfold World.var? at hv
  rw [hg] at hv
  simp only [Option.bind_some] at hv
  cases ho : W.heap[g]? with
  | none => rw [ho] at hv; simp at hv
  | some o =>
    rw [ho] at hv
    cases o with
    | cells cs T fz =>
      have : cs = #[.iface tp (.pointer (some a))] := by simpa using hv
      subst this
      exact ⟨T, fz, rfl⟩
    | _ => simp at hv
end Go.Proofs.YtodbcbojkfndiaaGreatDoorA
