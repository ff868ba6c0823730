/- The law RecordSpoilt. -/
import Derived.Test.YtldkkoecehdicaaDoorBase
import Derived.Test.YtldkkoecehdicaaDoorRcH
import Derived.Test.YtldkkoecehdicaaDoorAbs40
set_option linter.unusedVariables false
set_option linter.unusedSimpArgs false
set_option linter.unnecessarySimpa false
namespace Go.Proofs.YtldkkoecehdicaaDoorA.FRcK
open Go
theorem ag23 : tAgg P 23 = some ((true, 4)) := by kernel_rfl
theorem ag5 : tAgg P 5 = some ((false, 1)) := by kernel_rfl
theorem eqt23 : tEq P 23 = some ([.int .i64, .int .i64, .str, .str]) := by kernel_rfl
theorem go10 : callGo Go.Proofs.Tryd.f10 = true := by kernel_rfl
theorem go12 : callGo Go.Proofs.Tryd.f12 = true := by kernel_rfl
theorem go14 : callGo Go.Proofs.Tryd.f14 = true := by kernel_rfl
theorem go15 : callGo Go.Proofs.Tryd.f15 = true := by kernel_rfl
theorem go16 : callGo Go.Proofs.Tryd.f16 = true := by kernel_rfl
theorem go18 : callGo Go.Proofs.Tryd.f18 = true := by kernel_rfl
theorem go19 : callGo Go.Proofs.Tryd.f19 = true := by kernel_rfl
theorem go9 : callGo Go.Proofs.Tryd.f9 = true := by kernel_rfl
theorem ibs46 : isBytes P 46 = true := by kernel_rfl
theorem ipt35 : isPtr P 35 = true := by kernel_rfl
theorem isl34 : isSl P 34 = true := by kernel_rfl
theorem isl46 : isSl P 46 = true := by kernel_rfl
theorem ist9 : isStr P 9 = true := by kernel_rfl
theorem sl34 : tSl P 34 = some (4) := by kernel_rfl
theorem sl46 : tSl P 46 = some (1) := by kernel_rfl
theorem tz23 : tZero P 23 = some ([.int .i64 0, .int .i64 0, .string ⟨#[]⟩, .string ⟨#[]⟩]) := by kernel_rfl
end Go.Proofs.YtldkkoecehdicaaDoorA.FRcK
namespace Go.Proofs.YtldkkoecehdicaaDoorA
open Go FRcK
attribute [local irreducible] XOps Quiet Loud W AC GQ DT
theorem rec_all {l : List EN} (h : Okl l) : recL (bs (bytesL l)) = l := by
  unfold recL
  have h1 := (rec_front l [] (bs (bytesL l)) ⟨#[]⟩ ((bs (bytesL l)).size + 1) (by simpa using h) (by omega) (by rw [bl_bs]; exact (List.append_nil _).symm)).1
  rw [h1, List.nil_append, rec_stop]
  unfold stopR
  have h2 : decE ⟨#[]⟩ = 5 := by decide +kernel
  rw [h2]; rfl
theorem bytesL_take {l : List EN} (k : Nat) : bytesL l = bytesL (l.take k) ++ bytesL (l.drop k) := by rw [← bytesL_app, List.take_append_drop]
theorem bytesL_succ {l : List EN} {k : Nat} {e : EN} (h : l[k]? = some e) : bytesL (l.take (k + 1)) = bytesL (l.take k) ++ encB e := by
  obtain ⟨h1, h2⟩ := List.getElem?_eq_some_iff.1 h
  rw [List.take_succ_eq_append_getElem h1, h2, bytesL_app, bytesL_one]
theorem bytes_front {l : List EN} (k : Nat) : (bs (bytesL l)).extract 0 (bytesL (l.take k)).length = bs (bytesL (l.take k)) := bl_inj (by
  rw [bl_extract, bl_bs, bl_bs, List.drop_zero, bytesL_take (l := l) k, List.take_left])
section
variable {P : Program} {N : Nm} {σ : Env} {hs : Hp} {d : Option Tmp} {ty : TypeId} {pos : String} {af : Array Edge} {g : Option (Nat × Bool)}
theorem Q.xor8 {t t' : TypeId} {x y : Operand} {m n : UInt8} (hx : oev σ x = .d (.int .u8 (m.toNat : Nat))) (hy : oev σ y = .d (.int .u8 (n.toNat : Nat))) :
    Quiet P N σ hs ⟨d, .binOp .xor t x y t', ty, pos, af, g⟩ (.d (.int .u8 ((m ^^^ n).toNat : Nat))) :=
  .of_run fun κ a w st => ⟨.int .u8 ((m ^^^ n).toNat : Nat), by
    rw [bin_run st hx hy]
    have hm := m.toNat_lt
    have hn := n.toNat_lt
    have hr := (m ^^^ n).toNat_lt
    have h1 : (BitVec.ofInt IntKind.u8.bits (m.toNat : Nat) ^^^ BitVec.ofInt IntKind.u8.bits (n.toNat : Nat)).toNat = (m ^^^ n).toNat := by
      show (BitVec.ofInt 8 (m.toNat : Nat) ^^^ BitVec.ofInt 8 (n.toNat : Nat)).toNat = _
      rw [BitVec.toNat_xor, BitVec.ofInt_natCast, BitVec.ofInt_natCast, BitVec.toNat_ofNat, BitVec.toNat_ofNat, Nat.mod_eq_of_lt (by omega), Nat.mod_eq_of_lt (by omega), UInt8.toNat_xor]
    have h2 : IntKind.u8.wrap ((m ^^^ n).toNat : Nat) = (((m ^^^ n).toNat : Nat) : Int) := by show (((m ^^^ n).toNat : Nat) : Int) % 256 = _; omega
    show Result.andThen (Sem.run P (Op.intBits .xor .u8 (m.toNat : Nat) (n.toNat : Nat)) w) _ = _
    simp only [Op.intBits]
    rw [h1, h2]; rfl, .d (.int _ _)⟩
end
/-- What lies before a changed byte is recovered. -/
theorem spoilt_front {l : List EN} (ok : Okl l) {j k : Nat} (c : UInt8) (hk : k + 1 ≤ l.length) (h : (bytesL (l.take (k + 1))).length ≤ j) : ∃ r, recL (bs ((bytesL l).set j c)) = l.take (k + 1) ++ r := by
  have hs : bl (bs ((bytesL l).set j c)) = bytesL (l.take (k + 1)) ++ bl (bs ((bytesL (l.drop (k + 1))).set (j - (bytesL (l.take (k + 1))).length) c)) := by
    rw [bl_bs, bl_bs]
    conv => lhs; rw [bytesL_take (l := l) (k + 1), List.set_append_right _ _ h]
  unfold recL
  rw [(rec_front (l.take (k + 1)) [] _ _ ((bs ((bytesL l).set j c)).size + 1) (by simpa using ok.take (k + 1)) (by omega) hs).1, List.nil_append]
  exact rec_keeps _ _ _
theorem set_same {l : List UInt8} {j : Nat} {b : UInt8} (h : l[j]? = some b) : l.set j b = l := by
  obtain ⟨h1, h2⟩ := List.getElem?_eq_some_iff.1 h
  subst h2; exact List.set_getElem_self h1
theorem all_c {l : List EN} {b f : Nat} {hs : Hp} (k k2 : Nat) (h1 : hs[k]? = some (b, .cells (reC l f))) (h2 : hs[k2]? = some (f, .lst 4 (l.map EN.enc))) (hl : l.length ≤ 500) :
    AC P 18 [.ptr b 0, .d (.int .i64 1)] hs (fun r h => r = .d (.sl 4 (l.map EN.enc)) ∧ h = hs) := entries_c 1 k k2 h1 h2 hl
theorem spoilt_last {c : UInt8} {R l : List EN} (h : c = 0 → R = l) : (!decide (((c.toNat : Nat) : Int) = 0) || decide (R = l)) = true := by
  by_cases h0 : c = 0
  · rw [decide_eq_true (h h0)]; simp
  · rw [decide_eq_false (fun e => h0 (UInt8.toNat_inj.1 (by rw [show (0 : UInt8).toNat = 0 from rfl]; omega)))]; rfl
def atE (l : List EN) (k : Nat) : EN := l.getD k EN.zero
theorem ate_row {l : List EN} {k : Nat} (hk : k < l.length) : (l.map EN.enc)[((k : Int)).toNat]? = some (atE l k).enc := by
  rw [Int.toNat_natCast, List.getElem?_map]
  unfold atE
  rw [List.getD_eq_getElem?_getD, List.getElem?_eq_getElem hk]; rfl

set_option maxHeartbeats 8000000 in
set_option maxRecDepth 100000 in
theorem spoilt_c (xs : List EN) (m : Int) (c : UInt8) (gd : Nat) (hs : Hp) (hx : ∀ x ∈ xs, x.kind.size ≤ 140737488351232 ∧ x.text.size ≤ 140737488351232) : AC P 8 [.d (.sl 4 (xs.map EN.enc)), .d (.int .i64 m), .d (.int .u8 (c.toNat : Nat))] ((gd, p10G) :: hs) (fun r h => r = .d (.bool true)) := by
  obtain ⟨ok, hln⟩ := logV_ok xs
  have hbz := bytesL_size ok
  have hb2 := bs_size (bytesL (logV xs))
  have hra := rec_all ok
  refine AC.of 107 Tryd.func8 rfl rfl rfl ?_
  refine W.reg ?_
  refine XOps.s rfl rfl rfl (Q.assign_d rfl) ?_
  refine XOps.nil ?_
  refine W.reg ?_
  refine XOps.s rfl rfl rfl (Q.move_d rfl) ?_
  (refine XOps.loud rfl (L.call rfl Tryd.func14 go14 rfl (logof_c xs gd hs hx) rfl) ?_; rintro _ _ ⟨_, rfl, b, f, rfl, rfl⟩)
  refine XOps.s rfl rfl rfl (Q.assign_ptr rfl) ?_
  refine XOps.nil ?_
  refine W.seq ?_
  refine W.reg ?_
  refine XOps.s rfl rfl rfl (Q.call rfl Tryd.func9 go9 rfl (rfact_c gd (reH b (logV xs) f hs))) ?_
  refine XOps.s rfl rfl rfl (Q.not rfl) ?_
  refine XOps.s rfl rfl rfl (Q.move_d rfl) ?_
  refine XOps.gs rfl rfl rfl rfl rfl rfl rfl (fun hg => Q.move_ptr rfl) ?_
  refine XOps.gs rfl rfl rfl rfl rfl rfl rfl (fun hg => Quiet.open 23 hg rfl (Q.eql_ptr ipt35 rfl rfl)) ?_
  refine XOps.s rfl rfl rfl (Q.pick_or rfl rfl rfl (fun h => by first | (rw [h]; rfl) | (rw [hg, h]; rfl) | (simp [h, hg]; done))) ?_
  refine XOps.nil ?_
  refine W.cond rfl (fun hc25 => ?_) (fun hc25 => ?_)
  · try simp only [Bool.or_eq_true, Bool.or_eq_false_iff, Bool.and_eq_true, Bool.and_eq_false_iff, decide_eq_true_eq, decide_eq_false_iff_not, Bool.not_eq_true', Bool.not_eq_false', Int.not_lt, Int.not_le, List.length_map] at hc25
    exact absurd hc25 (by decide)
  · try simp only [Bool.or_eq_true, Bool.or_eq_false_iff, Bool.and_eq_true, Bool.and_eq_false_iff, decide_eq_true_eq, decide_eq_false_iff_not, Bool.not_eq_true', Bool.not_eq_false', Int.not_lt, Int.not_le, List.length_map] at hc25
    refine W.skip ?_
    refine W.reg ?_
    refine XOps.s rfl rfl rfl (Q.move_ptr rfl) ?_
    refine XOps.s rfl rfl rfl (Q.call rfl Tryd.func16 go16 rfl (bytes_c 1 2 rfl rfl)) ?_
    (refine XOps.loud rfl (L.conv_own ist9 ibs46 rfl rfl) ?_; rintro _ _ ⟨v28, rfl, rfl⟩)
    refine XOps.s rfl rfl rfl (Q.assign_vs rfl) ?_
    refine XOps.nil ?_
    refine W.seq ?_
    refine W.reg ?_
    refine XOps.s rfl rfl rfl (Q.move_vs rfl) ?_
    refine XOps.s rfl rfl rfl (Q.len_vs isl46 rfl) ?_
    refine XOps.s rfl rfl rfl (Q.eql rfl rfl) ?_
    refine XOps.nil ?_
    refine W.cond rfl (fun hc31 => ?_) (fun hc31 => ?_)
    · try simp only [Bool.or_eq_true, Bool.or_eq_false_iff, Bool.and_eq_true, Bool.and_eq_false_iff, decide_eq_true_eq, decide_eq_false_iff_not, Bool.not_eq_true', Bool.not_eq_false', Int.not_lt, Int.not_le, List.length_map] at hc31
      refine W.reg ?_
      refine XOps.s rfl rfl rfl (Q.assign_d rfl) ?_
      refine XOps.nil ?_
      refine W.ret ?_
      exact ⟨_, _, rfl, HLe.refl _, rfl⟩
    · try simp only [Bool.or_eq_true, Bool.or_eq_false_iff, Bool.and_eq_true, Bool.and_eq_false_iff, decide_eq_true_eq, decide_eq_false_iff_not, Bool.not_eq_true', Bool.not_eq_false', Int.not_lt, Int.not_le, List.length_map] at hc31
      obtain ⟨j, hj, hjl⟩ : ∃ j : Nat, cutI m 0 ((((bs (bytesL (logV xs))).size : Nat) : Int) - 1) = j ∧ j < (bs (bytesL (logV xs))).size := by
        have := cutI_bounds m (lo := 0) (hi := (((bs (bytesL (logV xs))).size : Nat) : Int) - 1) (by omega)
        exact ⟨(cutI m 0 ((((bs (bytesL (logV xs))).size : Nat) : Int) - 1)).toNat, by omega, by omega⟩
      obtain ⟨b0, hb0⟩ : ∃ b0, (bs (bytesL (logV xs))).data.toList[j]? = some b0 := ⟨_, List.getElem?_eq_getElem (show j < (bl (bs (bytesL (logV xs)))).length by rw [bl_len]; omega)⟩
      have hb3 : (bytesL (logV xs))[j]? = some b0 := by rw [← bl_bs (bytesL (logV xs))]; exact hb0
      refine W.skip ?_
      refine W.reg ?_
      refine XOps.s rfl rfl rfl (Q.move_d rfl) ?_
      refine XOps.s rfl rfl rfl (Q.move_vs rfl) ?_
      refine XOps.s rfl rfl rfl (Q.len_vs isl46 rfl) ?_
      refine XOps.s rfl rfl rfl (Q.sub rfl rfl (wi64 (by first | omega | (dsimp only; omega) | (simp only [List.length_map]; omega)) (by first | omega | (dsimp only; omega) | (simp only [List.length_map]; omega)))) ?_
      refine XOps.s rfl rfl rfl (Q.call rfl Tryd.func12 go12 rfl (rcut_c m 0 ((((bs (bytesL (logV xs))).size : Nat) : Int) - 1) _ (by omega) (by omega) (by omega))) ?_
      refine XOps.s rfl rfl rfl (Q.assign_d rfl) ?_
      refine XOps.nil ?_
      rw [hj]
      refine W.reg ?_
      refine XOps.s rfl rfl rfl (Q.move_vs rfl) ?_
      refine XOps.s rfl rfl rfl (Q.move_d rfl) ?_
      refine XOps.s rfl rfl rfl (Q.idx_byt (kk := 0) sl46 rfl rfl rfl (by omega) (by omega)) ?_
      refine XOps.s rfl rfl rfl (Q.ld_byt (k := 0) (c := b0) ag5 rfl rfl (by rw [Int.toNat_natCast]; exact hb0)) ?_
      refine XOps.s rfl rfl rfl (Q.move_d rfl) ?_
      refine XOps.s rfl rfl rfl (Q.xor8 rfl rfl) ?_
      refine XOps.s rfl rfl rfl (Q.idx_byt (kk := 0) sl46 rfl rfl rfl (by omega) (by omega)) ?_
      (refine XOps.loud rfl (L.store_byt (k := 0) ag5 rfl rfl (by rw [Int.toNat_natCast]; show _ < (bl (bs (bytesL (logV xs)))).length; rw [bl_len]; omega) rfl) ?_; rintro _ _ ⟨rfl, rfl⟩)
      refine XOps.nil ?_
      refine W.reg ?_
      refine XOps.s rfl rfl rfl (Q.move_vs rfl) ?_
      refine XOps.s rfl rfl rfl (Quiet.to (v' := .d (.str (bs ((bytesL (logV xs)).set j (b0 ^^^ c))))) (Q.conv_byt (k := 0) ibs46 ist9 rfl rfl (by rw [List.length_set]; exact (bl_len _).symm)) (fun _ _ _ _ h => by rw [Int.toNat_natCast] at h; rw [show (bytesL (logV xs)).set j (b0 ^^^ c) = (bs (bytesL (logV xs))).data.toList.set j (b0 ^^^ c) from by rw [show (bs (bytesL (logV xs))).data.toList = bytesL (logV xs) from bl_bs _]]; exact h)) ?_
      (refine XOps.loud rfl (L.call rfl Tryd.func15 go15 rfl (AC.le (recover_c (bs ((bytesL (logV xs)).set j (b0 ^^^ c))) gd (reH b (logV xs) f hs) (by rw [bs_size, List.length_set]; omega)) (HLe.skip _ (HLe.refl _))) rfl) ?_; rintro _ _ ⟨_, rfl, b2, f2, rfl, rfl⟩)
      refine XOps.s rfl rfl rfl (Q.move_tup rfl) ?_
      refine XOps.s rfl rfl rfl (Q.extract rfl rfl) ?_
      refine XOps.s rfl rfl rfl (Q.extract rfl rfl) ?_
      refine XOps.s rfl rfl rfl (Q.extract rfl rfl) ?_
      refine XOps.s rfl rfl rfl (Q.assign_ptr rfl) ?_
      refine XOps.s rfl rfl rfl (Q.assign_d rfl) ?_
      refine XOps.s rfl rfl rfl (Q.assign_d rfl) ?_
      refine XOps.nil ?_
      obtain ⟨R, hR⟩ : ∃ R, R = recL (bs ((bytesL (logV xs)).set j (b0 ^^^ c))) := ⟨_, rfl⟩
      rw [← hR]
      have hRok : Okl R := by rw [hR]; exact rec_ok _ _ _ .nil
      have hRl := hRok.len
      refine W.seq ?_
      refine W.reg ?_
      refine XOps.s rfl rfl rfl (Q.move_d rfl) ?_
      refine XOps.s rfl rfl rfl (Q.neq rfl rfl) ?_
      refine XOps.s rfl rfl rfl (Q.move_d rfl) ?_
      refine XOps.gs rfl rfl rfl rfl rfl rfl rfl (fun hg => Q.move_ptr rfl) ?_
      refine XOps.gs rfl rfl rfl rfl rfl rfl rfl (fun hg => Quiet.open 54 hg rfl (Q.eql_ptr ipt35 rfl rfl)) ?_
      refine XOps.s rfl rfl rfl (Q.pick_or rfl rfl rfl (fun h => by first | (rw [h]; rfl) | (rw [hg, h]; rfl) | (simp [h, hg]; done))) ?_
      refine XOps.nil ?_
      refine W.cond rfl (fun hc56 => ?_) (fun hc56 => ?_)
      · try simp only [Bool.or_eq_true, Bool.or_eq_false_iff, Bool.and_eq_true, Bool.and_eq_false_iff, decide_eq_true_eq, decide_eq_false_iff_not, Bool.not_eq_true', Bool.not_eq_false', Int.not_lt, Int.not_le, List.length_map] at hc56
        exact absurd hc56 (by decide)
      · try simp only [Bool.or_eq_true, Bool.or_eq_false_iff, Bool.and_eq_true, Bool.and_eq_false_iff, decide_eq_true_eq, decide_eq_false_iff_not, Bool.not_eq_true', Bool.not_eq_false', Int.not_lt, Int.not_le, List.length_map] at hc56
        refine W.skip ?_
        refine W.reg ?_
        refine XOps.s rfl rfl rfl (Q.move_ptr rfl) ?_
        refine XOps.s rfl rfl rfl (Q.call rfl Tryd.func18 go18 rfl (all_c 3 4 rfl rfl (by omega))) ?_
        refine XOps.s rfl rfl rfl (Q.assign_d rfl) ?_
        refine XOps.s rfl rfl rfl (Q.assign_d rfl) ?_
        refine XOps.nil ?_
        refine W.seq ?_
        refine W.reg ?_
        refine XOps.s rfl rfl rfl (Q.move_d rfl) ?_
        refine XOps.s rfl rfl rfl (Q.len_sl isl34 rfl) ?_
        refine XOps.s rfl rfl rfl (Q.move_d rfl) ?_
        refine XOps.nil ?_
        refine W.block ?_
        refine W.loop (ι := Nat) (fun k => [(1, .d (.int .i64 (j : Nat))), (2, .d (.int .u8 (c.toNat : Nat))), (7, .ptr b 0), (9, .ptr b2 0), (12, .d (.sl 4 ((logV xs).map EN.enc))), (13, .d (.int .i64 (bytesL ((logV xs).take k)).length)), (59, .d (.sl 4 ((logV xs).map EN.enc))), (60, .d (.int .i64 (logV xs).length)), (61, .d (.int .i64 (k : Nat)))]) (fun k => (gd, p10G) :: reH b2 R f2 (reH b (logV xs) f hs)) (fun k => k ≤ (logV xs).length) (fun k => (logV xs).length - k) 0 ?_ ?_ ?_ ?_
        · exact Nat.zero_le _
        · exact ⟨by first | rfl | exact int_eq (by omega) | exact len_eq (by simp) | exact int_eq (by simp; done), by first | rfl | exact int_eq (by omega) | exact len_eq (by simp) | exact int_eq (by simp; done), by first | rfl | exact int_eq (by omega) | exact len_eq (by simp) | exact int_eq (by simp; done), by first | rfl | exact int_eq (by omega) | exact len_eq (by simp) | exact int_eq (by simp; done), by first | rfl | exact int_eq (by omega) | exact len_eq (by simp) | exact int_eq (by simp; done), by first | rfl | exact int_eq (by omega) | exact len_eq (by simp) | exact int_eq (by simp; done), by first | rfl | exact int_eq (by omega) | exact len_eq (by simp) | exact int_eq (by simp; done), by exact int_eq (by rw [List.length_map]), by first | rfl | exact int_eq (by omega) | exact len_eq (by simp) | exact int_eq (by simp; done), trivial⟩
        · exact HLe.refl _
        · rintro k hk
          try dsimp only
          refine W.reg ?_
          refine XOps.s rfl rfl rfl (Q.lss rfl rfl) ?_
          refine XOps.nil ?_
          refine W.seq ?_
          refine W.cond rfl (fun hc62 => ?_) (fun hc62 => ?_)
          · try simp only [Bool.or_eq_true, Bool.or_eq_false_iff, Bool.and_eq_true, Bool.and_eq_false_iff, decide_eq_true_eq, decide_eq_false_iff_not, Bool.not_eq_true', Bool.not_eq_false', Int.not_lt, Int.not_le, List.length_map] at hc62
            obtain ⟨x, hx2⟩ : ∃ x, (logV xs)[k]? = some x := ⟨_, List.getElem?_eq_getElem (by omega)⟩
            have okx := ok.ok x (List.mem_of_getElem? hx2)
            have h0 : checkN x = 0 := checkN_zero.2 okx
            have okt := okx.text
            have okk := okx.kind
            have hv : encV x = bs (encB x) := if_neg (by omega)
            have hl := enc_len okx
            have hez : (encV x).size = (encB x).length := by rw [hv, bs_size]
            have hsu := congrArg List.length (bytesL_succ hx2)
            rw [List.length_append] at hsu
            have hke : (bytesL ((logV xs).take k)).length ≤ (bytesL (logV xs)).length := by have := congrArg List.length (bytesL_take (l := logV xs) k); rw [List.length_append] at this; omega
            have hsm : allD ((atE R k).enc.take 4) [.int .i64 x.num, .int .i64 x.tm, .str x.kind, .str x.text] = decide (atE R k = x) := same_en _ _
            refine W.skip ?_
            refine W.seq ?_
            refine W.block ?_
            refine W.reg ?_
            refine XOps.s rfl rfl rfl (Q.move_d rfl) ?_
            refine XOps.s rfl rfl rfl (Q.idx_sl sl34 (by decide) rfl rfl (by first | omega | (simp only [List.length_map]; omega)) (by exact map_at hx2)) ?_
            refine XOps.s rfl rfl rfl (Q.ld_dpn ag23 rfl rfl) ?_
            (refine XOps.loud rfl (L.alloc tz23 rfl rfl) ?_; rintro _ _ ⟨b15, rfl, rfl⟩)
            refine XOps.s rfl rfl rfl (Q.assign_d rfl) ?_
            refine XOps.loud rfl (L.storen (k := 0) ag23 rfl rfl rfl rfl rfl) ?_
            rintro _ _ ⟨rfl, rfl⟩
            refine XOps.nil ?_
            refine W.reg ?_
            refine XOps.s rfl rfl rfl (Q.ld_ptrn (k := 0) ag23 rfl rfl rfl) ?_
            (refine XOps.loud rfl (L.call rfl Tryd.func10 go10 rfl (AC.le (enc_c x gd ((b15, .cells (x.enc.map .d)) :: reH b2 R f2 (reH b (logV xs) f hs)) (by omega) (by omega)) (HLe.pick 1 rfl rfl (HLe.refl _))) rfl) ?_; rintro _ _ ⟨_, rfl, rfl, rfl⟩)
            refine XOps.s rfl rfl rfl (Q.move_tup rfl) ?_
            refine XOps.s rfl rfl rfl (Q.extract rfl rfl) ?_
            refine XOps.s rfl rfl rfl (Q.extract rfl rfl) ?_
            refine XOps.s rfl rfl rfl (Q.assign_d rfl) ?_
            refine XOps.s rfl rfl rfl (Q.assign_d rfl) ?_
            refine XOps.nil ?_
            refine W.reg ?_
            refine XOps.s rfl rfl rfl (Q.move_d rfl) ?_
            refine XOps.s rfl rfl rfl (Q.move_d rfl) ?_
            refine XOps.s rfl rfl rfl (Q.len_str ist9 rfl) ?_
            refine XOps.s rfl rfl rfl (Q.add rfl rfl (wi64 (by first | omega | (dsimp only; omega) | (simp only [List.length_map]; omega)) (by first | omega | (dsimp only; omega) | (simp only [List.length_map]; omega)))) ?_
            refine XOps.s rfl rfl rfl (Q.assign_d rfl) ?_
            refine XOps.nil ?_
            refine W.drawreg 23 follows (by kernel_rfl) ?_
            refine Chain.cons _ (GQ.q rfl (Q.move_d rfl)) rfl ?_
            refine Chain.cons _ (GQ.q rfl (Q.neq rfl rfl)) rfl ?_
            refine Chain.cons _ (GQ.q rfl (Q.move_d rfl)) rfl ?_
            refine Chain.cons _ (GQ.g rfl rfl rfl rfl rfl (fun hg => Q.move_d rfl)) rfl ?_
            refine Chain.cons _ (GQ.g rfl rfl rfl rfl rfl (fun hg => Q.move_d rfl)) rfl ?_
            refine Chain.cons _ (GQ.g rfl rfl rfl rfl rfl (fun hg => Quiet.open 78 hg rfl (Quiet.open 79 hg rfl (Q.leq rfl rfl)))) rfl ?_
            refine Chain.cons _ (GQ.g rfl rfl rfl rfl rfl (fun hg => Quiet.open 80 hg rfl (Q.move_d rfl))) rfl ?_
            refine Chain.cons _ (GQ.gw rfl rfl rfl rfl rfl (fun hg => Q.move_d rfl)) rfl ?_
            refine Chain.cons _ (GQ.gw rfl rfl rfl rfl rfl (fun hg => Q.move_ptr rfl)) rfl ?_
            refine Chain.cons _ (GQ.gw rfl rfl rfl rfl rfl (fun hg => Quiet.open 83 hg rfl (Q.call rfl Tryd.func18 go18 rfl (all_c 2 3 rfl rfl (by omega))))) rfl ?_
            refine Chain.cons _ (GQ.gw rfl rfl rfl rfl rfl (fun hg => Quiet.open 84 hg rfl (Q.len_sl isl34 rfl))) rfl ?_
            refine Chain.cons _ (GQ.gw rfl rfl rfl rfl rfl (fun hg => Quiet.open 82 hg rfl (Quiet.open 85 hg rfl (Q.geq rfl rfl)))) rfl ?_
            refine Chain.cons _ (GQ.gw rfl rfl rfl rfl rfl (fun hg => Quiet.open 86 hg rfl (Q.move_d rfl))) rfl ?_
            refine Chain.cons _ (GQ.gw rfl rfl rfl rfl rfl (fun hg => Q.move_ptr rfl)) rfl ?_
            refine Chain.cons _ (GQ.gw rfl rfl rfl rfl rfl (fun hg => Quiet.open 88 hg rfl (Q.call rfl Tryd.func18 go18 rfl (all_c 2 3 rfl rfl (by omega))))) rfl ?_
            refine Chain.cons _ (GQ.gw rfl rfl rfl rfl rfl (fun hg => Q.move_d rfl)) rfl ?_
            refine Chain.cons _ (GQ.gw rfl rfl rfl rfl rfl (fun hg => Quiet.open 89 hg rfl (Quiet.open 90 hg rfl (Q.idx_sl sl34 (by decide) rfl rfl (by omega) (ate_row (l := R) (by simp at hg; omega)))))) rfl ?_
            refine Chain.cons _ (GQ.gw rfl rfl rfl rfl rfl (fun hg => Quiet.open 91 hg rfl (Q.ld_dpn ag23 rfl rfl))) rfl ?_
            refine Chain.cons _ (GQ.gw rfl rfl rfl rfl rfl (fun hg => Q.ld_ptrn (k := 1) ag23 rfl rfl rfl)) rfl ?_
            refine Chain.cons _ (GQ.gw rfl rfl rfl rfl rfl (fun hg => Quiet.open 92 hg rfl (Quiet.open 93 hg rfl (Q.neq_agg eqt23 rfl rfl rfl rfl rfl)))) rfl ?_
            refine Chain.cons _ (GQ.gw rfl rfl rfl rfl rfl (fun hg => Quiet.open 87 hg rfl (Q.pick_or rfl rfl rfl (fun h => by first | (rw [h]; rfl) | (rw [hg, h]; rfl) | (simp [h, hg]; done))))) rfl ?_
            refine Chain.cons _ (GQ.g rfl rfl rfl rfl rfl (fun hg => Quiet.open 81 hg rfl (Q.pick_and rfl rfl rfl (fun h => by first | (rw [h]; rfl) | (rw [hg, h]; rfl) | (simp [h, hg]; done))))) rfl ?_
            refine Chain.cons _ (GQ.q rfl (Q.pick_or rfl rfl rfl (fun h => by first | (rw [h]; rfl) | (rw [hg, h]; rfl) | (simp [h, hg]; done)))) rfl ?_
            refine Chain.nil ?_
            refine XOps.nil ?_
            refine W.cond rfl (fun hc97 => ?_) (fun hc97 => ?_)
            · try simp only [Bool.or_eq_true, Bool.or_eq_false_iff, Bool.and_eq_true, Bool.and_eq_false_iff, decide_eq_true_eq, decide_eq_false_iff_not, Bool.not_eq_true', Bool.not_eq_false', Int.not_lt, Int.not_le, List.length_map] at hc97
              exfalso
              rw [hsm] at hc97
              rcases hc97 with h | ⟨h, h2⟩
              · first | exact h h0 | (rw [h0] at h; simp at h)
              · obtain ⟨r, hr⟩ := spoilt_front ok (j := j) (k := k) (b0 ^^^ c) (by omega) (by omega)
                rw [← hR] at hr
                have hrl := congrArg List.length hr
                rw [List.length_append, List.length_take] at hrl
                have hat : atE R k = x := by
                  unfold atE
                  rw [hr, List.getD_eq_getElem?_getD, List.getElem?_append_left (by rw [List.length_take]; omega), List.getElem?_take, if_pos (by omega), hx2]; rfl
                rcases h2 with h2 | h2
                · omega
                · rw [hat] at h2; simp at h2 --done
            · try simp only [Bool.or_eq_true, Bool.or_eq_false_iff, Bool.and_eq_true, Bool.and_eq_false_iff, decide_eq_true_eq, decide_eq_false_iff_not, Bool.not_eq_true', Bool.not_eq_false', Int.not_lt, Int.not_le, List.length_map] at hc97
              refine W.skip ?_
              refine W.region ?_
              refine XOps.s rfl rfl rfl (Q.add rfl rfl (wi64 (by first | omega | (dsimp only; omega) | (simp only [List.length_map]; omega)) (by first | omega | (dsimp only; omega) | (simp only [List.length_map]; omega)))) ?_
              refine XOps.s rfl rfl rfl (Q.move_d rfl) ?_
              refine XOps.nil ?_
              refine ⟨k + 1, ?_, ?_, ?_, ?_⟩
              · omega
              · omega
              · exact ⟨by first | rfl | exact int_eq (by omega) | exact len_eq (by simp) | exact int_eq (by simp; done), by first | rfl | exact int_eq (by omega) | exact len_eq (by simp) | exact int_eq (by simp; done), by first | rfl | exact int_eq (by omega) | exact len_eq (by simp) | exact int_eq (by simp; done), by first | rfl | exact int_eq (by omega) | exact len_eq (by simp) | exact int_eq (by simp; done), by first | rfl | exact int_eq (by omega) | exact len_eq (by simp) | exact int_eq (by simp; done), by exact int_eq (by omega), by first | rfl | exact int_eq (by omega) | exact len_eq (by simp) | exact int_eq (by simp; done), by first | rfl | exact int_eq (by omega) | exact len_eq (by simp) | exact int_eq (by simp; done), by first | rfl | exact int_eq (by omega) | exact len_eq (by simp) | exact int_eq (by simp; done), trivial⟩
              · exact HLe.cons _ (HLe.skip _ (HLe.refl _))
          · try simp only [Bool.or_eq_true, Bool.or_eq_false_iff, Bool.and_eq_true, Bool.and_eq_false_iff, decide_eq_true_eq, decide_eq_false_iff_not, Bool.not_eq_true', Bool.not_eq_false', Int.not_lt, Int.not_le, List.length_map] at hc62
            refine W.exit ?_
            refine W.reg ?_
            refine XOps.s rfl rfl rfl (Q.move_d rfl) ?_
            refine XOps.s rfl rfl rfl (Q.neq rfl rfl) ?_
            refine XOps.s rfl rfl rfl (Q.move_d rfl) ?_
            refine XOps.gs rfl rfl rfl rfl rfl rfl rfl (fun hg => Q.move_ptr rfl) ?_
            refine XOps.gs rfl rfl rfl rfl rfl rfl rfl (fun hg => Quiet.open 102 hg rfl (Q.call rfl Tryd.func18 go18 rfl (all_c 1 2 rfl rfl (by omega)))) ?_
            refine XOps.gs rfl rfl rfl rfl rfl rfl rfl (fun hg => Q.move_d rfl) ?_
            refine XOps.gs rfl rfl rfl rfl rfl rfl rfl (fun hg => Quiet.open 103 hg rfl (Quiet.open 104 hg rfl (Q.call rfl Tryd.func19 go19 rfl (equalE_c R (logV xs) _ (by omega))))) ?_
            refine XOps.s rfl rfl rfl (Q.pick_or rfl rfl rfl (fun h => by first | (rw [h]; rfl) | (rw [hg, h]; rfl) | (simp [h, hg]; done))) ?_
            refine XOps.s rfl rfl rfl (Q.assign_d rfl) ?_
            refine XOps.nil ?_
            refine W.ret ?_
            (refine ⟨_, _, rfl, HLe.refl _, ?_⟩; show AV.d (.bool _) = _; refine congrArg (fun b => AV.d (D.bool b)) ?_; exact spoilt_last (fun h0 => (by rw [hR, h0, show b0 ^^^ (0 : UInt8) = b0 from (by simp), set_same hb3, hra])))
end Go.Proofs.YtldkkoecehdicaaDoorA
