/- A law whose row lists package-level tables and speaks of inputs of a bounded bulk. -/
import Derived.Test.YtdddebheolmldaaDoorFrD
import Derived.JoinedCond
import Derived.Deep.DeepHandedRow
namespace Go.Proofs.YtdddebheolmldaaDoorA
open Go
set_option linter.unusedVariables false
set_option linter.unusedSimpArgs false
section
variable {H : Type} {enc : TypeId × Value → H} {P : Program} {w : World}

theorem shParts_not {g : TypeId → Option Sh} {l : List (TypeId × Nat)} {o o' : Nat} : shParts P g l o ≠ some (.str, o') := by
  cases l with
  | nil => simp [shParts]
  | cons x l =>
    unfold shParts
    split
    · intro h
      obtain ⟨s1, _, h2⟩ := Option.bind_eq_some_iff.1 h
      obtain ⟨r, _, h4⟩ := Option.map_eq_some_iff.1 h2
      cases h4
    · simp
theorem shWhole_not {t : TypeId} {g : TypeId → Option Sh} {l : List (TypeId × Nat)} : shWhole P t (shParts P g l 0) ≠ some .str := fun h => by
  unfold shWhole at h
  obtain ⟨⟨s, o⟩, h1, h2⟩ := Option.bind_eq_some_iff.1 h
  dsimp only at h2
  split at h2
  · obtain rfl := Option.some.inj h2; exact shParts_not h1
  · cases h2
theorem shape_str {n : Nat} {t : TypeId} (h : shape P n t = some .str) : P.underlying t = some .string := by
  cases n with
  | zero => cases h
  | succ n =>
    unfold shape at h
    split at h
    · split at h <;> cases h
    · split at h <;> cases h
    · assumption
    · split at h
      · obtain ⟨s, _, h2⟩ := Option.map_eq_some_iff.1 h; cases h2
      · cases h
    · exact absurd h shWhole_not
    · exact absurd h shWhole_not
    · cases h
theorem opens_str {n : Nat} : ∀ (ts : List TypeId) (ss : List Sh) (vs : List Value) (ds : List (DataW H)) (ps : List MemPlace) (ls : List (List D)), ts.map (shape P n) = ss.map some →
    DataW.TrodAll enc P w 0 (fun _ => true) true ts vs ds ps → Tys ss ls → (∀ (i : Nat) (v : Value) (x : AV), vs[i]? = some v → (argsOf ss ls)[i]? = some x → RepA k0 w (Own k0 []) v x) →
    ∀ (i : Nat) (x : ByteArray), ss[i]? = some .str → ls[i]? = some [.str x] → ∃ bytes : List UInt8, DataW.lit (.string bytes) ∈ ds ∧ bytes.length = x.size
  | [], ss, vs, ds, ps, ls, hs, hd, ht, hr, i, x, hi, hl => by
    cases ss with
    | nil => simp at hi
    | cons s ss => simp at hs
  | t :: ts, ss, vs, ds, ps, ls, hs, hd, ht, hr, i, x, hi, hl => by
    obtain ⟨v, vs', d, ds', p, q, rfl, rfl, rfl, h1, h2⟩ := ChangeShapes.trodAll_cons hd
    cases ss with
    | nil => simp at hs
    | cons s ss =>
    simp only [List.map_cons, List.cons.injEq] at hs
    obtain ⟨l, ls', rfl, h3, h4⟩ := ht
    cases i with
    | zero =>
      simp at hi hl
      subst hi hl
      have hv := hr 0 v (.d (argD .str [.str x])) rfl rfl
      have hvx : v = .string x := by
        cases hv with
        | d h => cases h; rfl
      subst hvx
      obtain ⟨m, hm⟩ := h1
      obtain ⟨b, hc, hx, _⟩ := DataW.trod_string (shape_str hs.1) hm
      obtain ⟨rfl, _⟩ := Prod.mk.inj hx
      have hb : b = x := by
        have e : (Value.string x).cells.toList = [.string x] := rfl
        rw [e] at hc
        have := (List.cons.inj hc).1
        injection this with h; exact h.symm
      subst hb
      exact ⟨_, List.mem_cons_self .., by simp⟩
    | succ i =>
      obtain ⟨bytes, h5, h6⟩ := opens_str ts ss vs' ds' q ls' hs.2 h2 h4 (fun i v x hv hx => hr (i + 1) v x (by simpa using hv) (by simpa [argsOf] using hx)) i x (by simpa using hi) (by simpa using hl)
      exact ⟨bytes, List.mem_cons_of_mem _ h5, h6⟩

/-- A law that says 'true, and the arguments read as they did', of inputs of a bounded bulk. -/
theorem lawGU {C : Checked} {os : Os} {f : FuncId} {fn : Func} {s : ChangeSpec} {kc : (H : Type) → List (DataW H) → Bool} (B : Nat) (laid : List (String × DataW Unit)) (n : Nat) (ss : List Sh) (gs0 : List (Nat × List Value)) (own : ownKnob C.prog.godebug = none) (started : os.Started) (noInit : C.prog.inits.idxOf? f = none) (hfn : C.prog.funcs[f]? = some fn)
    (hB : ∀ (ds : List (DataW H)) (bytes : List UInt8), kc H ds = true → DataW.lit (.string bytes) ∈ ds → bytes.length ≤ B)
    (witness : ∃ (w : World) (tape : Tape) (i : Input), w.os = os ∧ (w.forCall tape i).Shaped C.prog ∧ i.vars = [] ∧ Input.okWide C.prog (w.forCall tape i) .any w.heap.size f i ∧
      ({ OpenSpec.ofChange s with cond := some kc } : OpenSpec).preRow enc C.prog fn [] false laid (w.forCall tape i).memory i.args ∧ ({} : Assume).holds C.prog (lone (Frame.enter C.prog f i.args .normal) [] (w.forCall tape i)))
    (hG : ∀ W, laidMetH C.prog laid W → ∀ p ∈ gs0, ∃ T f, W.heap[p.1]? = some (.cells p.2.toArray T f))
    (hl : laidOutB C.prog = true) (hts : fn.params.toList.all (fun t => C.prog.readableRec t && decide (t < C.prog.types.size)) = true) (tb : TypeId) (hub : C.prog.underlying tb = some .bool) (hres : fn.resultTypes = #[tb])
    (hvars : s.vars = []) (hs : fn.params.toList.map (shape C.prog n) = ss.map some)
    (hspec : ∀ ds : List (DataW H), ds.length = ss.length → s.fn H ds = { results := [.lit (.bool true)], args := ds })
    (contract : ∀ ls, Tys ss ls → (∀ (i : Nat) (x : ByteArray), ss[i]? = some .str → ls[i]? = some [.str x] → x.size ≤ B) → AC C.prog f (argsOf ss ls) (globHp gs0) (fun r _ => r = .d (.bool true))) :
    ReturnsInHanded {} C os f .any (({ OpenSpec.ofChange s with cond := some kc } : OpenSpec).preRow enc C.prog fn [] false laid) (s.post enc C.prog fn false true false false) := by
  refine returnsInHanded_of_row (s := { OpenSpec.ofChange s with cond := some kc }) (F := fun _ _ _ => 0) own started noInit hfn witness ?_
  intro W base args ds gs before hval hW hcnd hkc hsz hL _ _
  have hW' := hW
  obtain ⟨p, q, hA, hV, rfl, hfz, hnd⟩ := hW
  have hvx : ({ OpenSpec.ofChange s with cond := some kc } : OpenSpec).vars = [] := hvars
  rw [hvx] at hV
  obtain ⟨rfl, rfl⟩ : gs = [] ∧ q = [] := by
    cases gs with
    | nil => exact ⟨rfl, hV⟩
    | cons g gs => exact absurd hV (by unfold DataW.TrodVars; exact id)
  have hvt : (({ OpenSpec.ofChange s with cond := some kc } : OpenSpec).bare.plain.varTypes C.prog) = [] := by
    show List.filterMap _ s.vars = []
    rw [hvars]; rfl
  rw [hvt, List.append_nil, List.append_nil, List.all_eq_true] at hsz
  have hk1 : kc H (ds ++ []) = true := hkc kc rfl
  rw [List.append_nil] at hk1
  obtain ⟨ls, h1, h2, h3⟩ := opens_all fn.params.toList ss args.toList ds p hs hA (fun k hk => by simpa using hsz k hk) (fun j t v hj hv => .inr ⟨_, _, hval j t v (by simpa using hj) (by simpa using hv)⟩)
  have hdl : ds.length = ss.length := by
    have h4 := (trodAll_length hA).2
    have h5 := congrArg List.length hs
    simp at h5 h4
    omega
  have hbd : ∀ (i : Nat) (x : ByteArray), ss[i]? = some .str → ls[i]? = some [.str x] → x.size ≤ B := fun i x hi hx => by
    obtain ⟨bytes, h5, h6⟩ := opens_str _ _ _ _ _ _ hs hA h1 h3 i x hi hx
    have := hB ds bytes hk1 h5
    omega
  refine (contract ls h1 hbd (globK gs0) args W (HS.globs gs0 (hG W hL)) (by simpa using h2) (fun i v x hi hx => ?_)).mono fun e W' h => ?_
  · exact (h3 i v x (by simpa using hi) hx).mono (fun id y hy => by cases hy) (fun b _ ho => absurd ho (globK_own gs0 _ b)) (fun _ _ _ => rfl)
  obtain ⟨κ', hs', v, x, rfl, _, he, hr, rfl⟩ := h
  cases hr with
  | d hr =>
  cases hr
  have bel := he.belowG
  have hspec' : ∀ ds : List (DataW H), ds.length = ss.length → (({ OpenSpec.ofChange s with cond := some kc } : OpenSpec).at (fun _ _ _ => 0)).fn H ds = { results := [.lit (.bool true)], args := ds } := hspec
  have hvars' : (({ OpenSpec.ofChange s with cond := some kc } : OpenSpec).at (fun _ _ _ => 0)).vars = [] := hvars
  refine ⟨_, rfl, ds, [], p ++ [], [], p, [], hW', ?_, ?_, ?_, bel.frame _, fun h => by cases h⟩
  · rw [List.append_nil, hspec' ds hdl, hres]
    exact ChangeShapes.trodAll_mk1 (RowKit.shut_bool hub true)
  · rw [List.append_nil, hspec' ds hdl]
    have hlt := hW'.lt
    exact trodAll_again hl bel (fun t ht => by simpa using List.all_eq_true.1 hts t ht) (fun x hx => hlt x (by simp [hx])) hA
  · rw [hvars', List.append_nil, hspec' ds hdl]
    rfl

/-- The witness of such a law, from that of the wider one. -/
theorem witness_upto {C : Checked} {os : Os} {f : FuncId} {fn : Func} {s : ChangeSpec} {kc : (H : Type) → List (DataW H) → Bool} (laid : List (String × DataW Unit)) (args : Array Value) (fuel : Nat)
    (hp : (laid.all fun x => x.2.handleName?.isNone) = true)
    (hz : (World.laidAll C.prog os laid).forCall (fun _ _ => 0) ⟨#[], args, []⟩ |>.Shaped C.prog)
    (hok : Input.okWideB C.prog ((World.laidAll C.prog os laid).forCall (fun _ _ => 0) ⟨#[], args, []⟩) f ⟨#[], args, []⟩ = true)
    {x : List (DataW H) × List (DataW H) × List MemPlace} (hx : DataW.whole enc C.prog ((World.laidAll C.prog os laid).forCall (fun _ _ => 0) ⟨#[], args, []⟩).memory fn.params.toList s.vars false args.toList fuel = some x)
    (hkk : kc H (x.1 ++ x.2.1) = true)
    (hsz : s.sizedB enc C.prog fn false ((World.laidAll C.prog os laid).forCall (fun _ _ => 0) ⟨#[], args, []⟩).memory args fuel = true)
    (hf : (World.holding C.prog os ⟨#[], #[], []⟩).layFits C.prog laid [] = true)
    (hi : (World.holding C.prog os ⟨#[], #[], []⟩).layIfaces C.prog laid (World.laidAll C.prog os laid) = true) :
    ∃ (w : World) (tape : Tape) (i : Input), w.os = os ∧ (w.forCall tape i).Shaped C.prog ∧ i.vars = [] ∧ Input.okWide C.prog (w.forCall tape i) .any w.heap.size f i ∧
      ({ OpenSpec.ofChange s with cond := some kc } : OpenSpec).preRow enc C.prog fn [] false laid (w.forCall tape i).memory i.args ∧ ({} : Assume).holds C.prog (lone (Frame.enter C.prog f i.args .normal) [] (w.forCall tape i)) :=
  ⟨World.laidAll C.prog os laid, fun _ _ => 0, ⟨#[], args, []⟩, World.laidAll_os _ _ _, hz, rfl, (Input.okWide_of_okWideB hok).2,
    ⟨⟨(OpenSpec.pre_some (s := { OpenSpec.ofChange s with cond := some kc }) rfl [] false _ _).2 ⟨x.1, x.2.1, x.2.2, DataW.Whole_of_whole hx, rfl, hkk⟩,
      by rw [MakeChecks.laidMetH_plain _ _ _ hp]; exact laidMet_laidAll args hf hi⟩, sizedMet_of_sizedB hsz⟩, by
    simp only [Assume.holds]
    exact ⟨by simp, by simp, (fun h => by cases h), by simp, by simp⟩⟩
end
end Go.Proofs.YtdddebheolmldaaDoorA
