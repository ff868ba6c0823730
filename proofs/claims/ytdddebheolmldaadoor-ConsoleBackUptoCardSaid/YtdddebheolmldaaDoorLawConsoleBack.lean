/- ConsoleBack, where what it reads is of bulk at most 1048576: for every command and every text the law is true. -/
import Derived.Test.YtdddebheolmldaaDoorRows
import Derived.Test.YtdddebheolmldaaDoorCards
import Derived.Test.YtdddebheolmldaaDoorTie
import Derived.Test.YtdddebheolmldaaDoorFrD
import Derived.Test.YtdddebheolmldaaDoorCoC
import Derived.Test.YtdddebheolmldaaDoorCon4
import Derived.ProofKit
import Derived.SevenTiedAt
import Derived.Lay
set_option linter.unusedVariables false
set_option linter.unusedSimpArgs false
namespace Go.Proofs.YtdddebheolmldaaDoorA.LConsoleBack
open Go Go.Proofs.YtdddebheolmldaaDoor
theorem shp23 : shape P 8 23 = some (.cons .str (.cons .str (.cons (.int .i64) (.cons .str .unit)))) := by kernel_rfl
theorem shp9 : shape P 8 9 = some (.str) := by kernel_rfl
theorem contract : ∀ ls, Tys [(.cons .str (.cons .str (.cons (.int .i64) (.cons .str .unit)))), (.str)] ls → (∀ (i : Nat) (x : ByteArray), ([(.cons .str (.cons .str (.cons (.int .i64) (.cons .str .unit)))), (.str)] : List Sh)[i]? = some .str → ls[i]? = some [.str x] → x.size ≤ 1048576) → AC P 3 (argsOf [(.cons .str (.cons .str (.cons (.int .i64) (.cons .str .unit)))), (.str)] ls) (globHp [(1, p10T)]) (fun r _ => r = .d (.bool true)) := by
  intro ls h hb
  obtain ⟨l1, _, rfl, ⟨q1, _, rfl, ⟨v, rfl, hv⟩, q2, _, rfl, ⟨c, rfl, hc⟩, q3, _, rfl, ⟨n, rfl, _⟩, q4, _, rfl, ⟨f, rfl, hf⟩, rfl⟩, l2, _, rfl, ⟨s, rfl, _⟩, rfl⟩ := h
  have hR : reachBytes = 140737488351232 := rfl
  have hs := hb 1 s rfl rfl
  exact back_c ⟨v, c, n, f⟩ s 0 [] (by show c.size ≤ _; omega) (by show f.size ≤ _; omega) (by omega)
theorem own : ownKnob Tryd.prog.godebug = none := by kernel_rfl
noncomputable abbrev laid : List (String × DataW Unit) := Rows.consoleBackRow.laid
theorem bulk_mem {H : Type} (bytes : List UInt8) : ∀ ds : List (DataW H), DataW.lit (.string bytes) ∈ ds → bytes.length ≤ Rows.uptoBulkAll ds
  | [], h => by cases h
  | d :: ds, h => by
    unfold Rows.uptoBulkAll
    rcases List.mem_cons.1 h with rfl | h
    · unfold Rows.uptoBulk; omega
    · have := bulk_mem bytes ds h; omega
theorem bound {H : Type} (ds : List (DataW H)) (bytes : List UInt8) (h : Rows.uptoSmall H ds = true) (hm : DataW.lit (.string bytes) ∈ ds) : bytes.length ≤ 1048576 :=
  Nat.le_trans (bulk_mem bytes ds hm) (of_decide_eq_true h)
set_option maxRecDepth 100000 in
theorem lifted (os : Os) (started : os.Started) (H : Type) (enc : TypeId × Value → H) :
    ReturnsInHanded {} Tryd.checked os 3 .any ((Rows.OpenSpec.upto Rows.consoleBackSpec).preRow enc Tryd.prog Tryd.f3 [] false laid) (Rows.consoleBackSpec.post enc Tryd.prog Tryd.f3 false true false false) :=
  lawGU (C := Tryd.checked) (s := Rows.consoleBackSpec) (kc := Rows.uptoSmall) 1048576 laid 8 [(.cons .str (.cons .str (.cons (.int .i64) (.cons .str .unit)))), (.str)] [(1, p10T)] own started (by kernel_rfl) Tryd.func3 bound
    (witness_upto (C := Tryd.checked) (fn := Tryd.f3) (f := 3) (s := Rows.consoleBackSpec) (kc := Rows.uptoSmall) laid #[.agg #[.string .empty, .string .empty, .int .i64 0, .string .empty], .string .empty] 8 (by kernel_rfl) (World.shaped_of_ZipB (by kernel_rfl) (by kernel_rfl)) (by kernel_rfl) (x := (([.agg [.lit (.string []), .lit (.string []), .lit (.int .i64 0), .lit (.string [])], .lit (.string [])] : List (DataW H)), ([] : List (DataW H)), ([] : List MemPlace))) (by kernel_rfl) (by kernel_rfl) (by kernel_rfl) (by kernel_rfl) (by kernel_rfl))
    (fun W h p hp => by
    simp only [List.mem_cons, List.mem_nil_iff, or_false] at hp
    rcases hp with rfl
    · exact laid_tab (t := 88) (e := 72) (n := 20) (k := .u64) (zs := Lib.pow10Tab) (name := "internal/strconv.uint64pow10") (d := Rows.laid_internal_strconv_uint64pow10) (by kernel_rfl) h rfl rfl (by kernel_rfl) (by kernel_rfl) (by kernel_rfl) (by kernel_rfl) (by kernel_rfl) (by kernel_rfl) 
    )
    (by kernel_rfl) (by kernel_rfl) 4 Tryd.underlying4 (by kernel_rfl) rfl (by kernel_rfl)
    (fun ds h => match ds, h with | [d0, d1], _ => rfl) contract
theorem over : Rows.consoleBackUptoRow.holds Tryd.pinned (Rows.OpenSpec.upto Rows.consoleBackSpec) :=
  OpenClaim.holds_of_cond 3 Tryd.f3 rfl rfl rfl rfl rfl rfl rfl ⟨rfl, rfl, rfl, rfl, rfl⟩ rfl rfl rfl rfl rfl (by kernel_rfl) Tryd.func3 (by kernel_rfl)
    (of_decide_eq_true (by kernel_rfl)) (by unfold Func.isWrapper; first | (rw [if_pos (by decide +kernel)]; kernel_rfl) | (rw [if_neg (by decide +kernel)]; exact ⟨rfl, rfl⟩))
    (fun os started H enc _ F => by rw [OpenClaim.pre_eq_preRow]; exact lifted os started H enc)
theorem card : Claim7.holds Tryd.pinned (.plain (Rows.OpenSpec.upto Rows.consoleBackSpec)) Rows.consoleBackUptoCard :=
  Claim7.holds_tied_plain_at .later [] [.data, .data, .data, .data, .sentinel, .sentinel, .pinned] true (true, "82b0381934895d01262927f1aeef6fd8d99285ff3413c6c91c7f55be02ded9c9") true
    over (fun _ h => by cases h) (by kernel_rfl) (fun _ h => by cases h) consoleBackUpto_row_tie rfl ⟨rfl, rfl⟩ (by kernel_rfl) rfl
    (fun f fn hf hfn => by
      obtain rfl : f = 3 := Option.some.inj ((show Tryd.prog.funcNamed "skyway/skywaykeep4.ConsoleBack" = some 3 by kernel_rfl).symm.trans hf) |>.symm
      obtain rfl : fn = Tryd.f3 := (Option.some.inj (Tryd.func3.symm.trans hfn)).symm
      exact ⟨by kernel_rfl, fun j t ht => by
        have hp : Tryd.f3.params = #[23, 9] := rfl
        rw [hp] at ht
        have hm : t ∈ [23, 9] := by simpa using Array.mem_of_getElem? ht
        have hall : ([23, 9].all fun u => !Tryd.prog.wantsStandIn u) = true := by kernel_rfl
        exact (show Tryd.prog.wantsStandIn t = false by simpa using List.all_eq_true.1 hall t hm)⟩)
    (by kernel_rfl)
end Go.Proofs.YtdddebheolmldaaDoorA.LConsoleBack
namespace Go.Proofs.YtdddebheolmldaaDoor
/-- The statement, under a short name, for the claim. -/
theorem consoleBackUpto_holds : Rows.ConsoleBackUptoCardSaid := Go.Proofs.YtdddebheolmldaaDoorA.LConsoleBack.card
end Go.Proofs.YtdddebheolmldaaDoor
#print axioms Go.Proofs.YtdddebheolmldaaDoor.consoleBackUpto_holds
