/- Package console: Script. -/
import Derived.Test.YtdddebheolmldaaDoorFrB
import Derived.Test.YtdddebheolmldaaDoorCoB
set_option linter.unusedVariables false
set_option linter.unusedSimpArgs false
set_option linter.unnecessarySimpa false
namespace Go.Proofs.YtdddebheolmldaaDoorA.FCoD
open Go
theorem ag23 : tAgg P 23 = some ((true, 4)) := by kernel_rfl
theorem ag9 : tAgg P 9 = some ((false, 1)) := by kernel_rfl
theorem ap32 : tApp P 32 = some ((4, 56)) := by kernel_rfl
theorem go10 : callGo Go.Proofs.Tryd.f10 = true := by kernel_rfl
theorem go6 : callGo Go.Proofs.Tryd.f6 = true := by kernel_rfl
theorem isl35 : isSl P 35 = true := by kernel_rfl
theorem ist9 : isStr P 9 = true := by kernel_rfl
theorem sl32 : tSl P 32 = some (4) := by kernel_rfl
theorem sl35 : tSl P 35 = some (1) := by kernel_rfl
theorem tz23 : tZero P 23 = some ([.string ⟨#[]⟩, .string ⟨#[]⟩, .int .i64 0, .string ⟨#[]⟩]) := by kernel_rfl
theorem zr32 : tZrow P 32 = some ([.string ⟨#[]⟩, .string ⟨#[]⟩, .int .i64 0, .string ⟨#[]⟩]) := by kernel_rfl
theorem zrd32 : cellsD [.string ⟨#[]⟩, .string ⟨#[]⟩, .int .i64 0, .string ⟨#[]⟩] = some ([.str ⟨#[]⟩, .str ⟨#[]⟩, .int .i64 0, .str ⟨#[]⟩]) := rfl
end Go.Proofs.YtdddebheolmldaaDoorA.FCoD
namespace Go.Proofs.YtdddebheolmldaaDoorA
open Go FCoD
attribute [local irreducible] XOps Quiet Loud W AC GQ DT
def scrE (t : ByteArray) : Int := if 8192 < t.size then 2 else scE (lnS t)
def scrN (t : ByteArray) : Int := if 8192 < t.size then 0 else scN (lnS t)
def scrL (t : ByteArray) : List CC := if 8192 < t.size then [] else scL (lnS t)
theorem scr_big {t : ByteArray} (h : 8192 < t.size) : scrE t = 2 ∧ scrN t = 0 ∧ scrL t = [] := ⟨if_pos h, if_pos h, if_pos h⟩
theorem scr_small {t : ByteArray} (h : ¬ 8192 < t.size) : scrE t = scE (lnS t) ∧ scrN t = scN (lnS t) ∧ scrL t = scL (lnS t) := ⟨if_neg h, if_neg h, if_neg h⟩

set_option maxHeartbeats 8000000 in
set_option maxRecDepth 100000 in
theorem script_c (t : ByteArray) (hs : Hp) : AC P 9 [.d (.str t)] hs (fun r h => r = .tup [.d (.sl 4 ((scrL t).map CC.enc)), .d (.int .i64 (scrN t)), .d (.int .i64 (scrE t))] ∧ h = hs) := by
  have hlA := lnA_ne t
  have hll := lnA_len t
  have hls := lnS_le t
  refine AC.of 47 Tryd.func9 rfl rfl rfl ?_
  refine W.reg ?_
  refine XOps.s rfl rfl rfl (Q.assign_nilsl rfl) ?_
  refine XOps.s rfl rfl rfl (Q.assign_d rfl) ?_
  refine XOps.s rfl rfl rfl (Q.assign_d rfl) ?_
  refine XOps.nil ?_
  refine W.seq ?_
  refine W.reg ?_
  refine XOps.s rfl rfl rfl (Q.move_d rfl) ?_
  refine XOps.s rfl rfl rfl (Q.len_str ist9 rfl) ?_
  refine XOps.s rfl rfl rfl (Q.gtr rfl rfl) ?_
  refine XOps.nil ?_
  refine W.cond rfl (fun hc13 => ?_) (fun hc13 => ?_)
  · try simp only [Bool.or_eq_true, Bool.or_eq_false_iff, Bool.and_eq_true, Bool.and_eq_false_iff, decide_eq_true_eq, decide_eq_false_iff_not, Bool.not_eq_true', Bool.not_eq_false', Int.not_lt, Int.not_le, List.length_map] at hc13
    obtain ⟨hb1, hb2, hb3⟩ := scr_big (t := t) (by omega)
    rw [hb1, hb2, hb3]
    refine W.reg ?_
    refine XOps.s rfl rfl rfl (Q.assign_nilsl rfl) ?_
    refine XOps.s rfl rfl rfl (Q.assign_d rfl) ?_
    refine XOps.s rfl rfl rfl (Q.assign_d rfl) ?_
    refine XOps.nil ?_
    refine W.nild 2 4 rfl ?_
    refine W.ret ?_
    exact ⟨_, hs, rfl, HLe.refl _, rfl, rfl⟩
  · try simp only [Bool.or_eq_true, Bool.or_eq_false_iff, Bool.and_eq_true, Bool.and_eq_false_iff, decide_eq_true_eq, decide_eq_false_iff_not, Bool.not_eq_true', Bool.not_eq_false', Int.not_lt, Int.not_le, List.length_map] at hc13
    have hsm := scr_small (t := t) (by omega)
    refine W.skip ?_
    refine W.reg ?_
    refine XOps.s rfl rfl rfl (Q.assign_nilsl rfl) ?_
    refine XOps.nil ?_
    refine W.reg ?_
    refine XOps.s rfl rfl rfl (Q.move_d rfl) ?_
    refine XOps.s rfl rfl rfl (Q.call rfl Tryd.func10 go10 rfl (split_c t 10 _ (by omega))) ?_
    refine XOps.s rfl rfl rfl (Q.assign_d rfl) ?_
    refine XOps.nil ?_
    refine W.as 6 (v' := .d (.sl 1 ((lnA t).map sE))) rfl rfl (fun κ w O u h => h) ?_
    refine W.seq ?_
    refine W.ghost 5 4 (by decide) rfl rfl (fun v5 => ?_)
    refine W.reg ?_
    refine XOps.s rfl rfl rfl (Q.move_d rfl) ?_
    refine XOps.s rfl rfl rfl (Q.len_sl isl35 rfl) ?_
    refine XOps.s rfl rfl rfl (Q.move_d rfl) ?_
    refine XOps.nil ?_
    refine W.block ?_
    refine W.loop (ι := Nat × Nat) (fun p => [(5, .vs p.2 0 (((lnS t).take p.1).map paV).length 4), (6, .d (.sl 1 ((lnA t).map sE))), (16, .d (.sl 1 ((lnA t).map sE))), (17, .d (.int .i64 (lnA t).length)), (18, .d (.int .i64 (p.1 : Nat)))]) (fun p => (p.2, .lst 4 ((((lnS t).take p.1).map paV).map CC.enc)) :: hs) (fun p => p.1 ≤ (lnA t).length ∧ p.1 ≤ (lnS t).length ∧ ∀ (i : Nat) y, i < p.1 → (lnS t)[i]? = some y → paE y = 0) (fun p => (lnA t).length - p.1) (0, v5) ?_ ?_ ?_ ?_
    · exact ⟨Nat.zero_le _, Nat.zero_le _, fun i y h => absurd h (Nat.not_lt_zero _)⟩
    · exact ⟨by first | rfl | exact int_eq (by omega) | exact len_eq (by simp) | exact int_eq (by simp; done), by first | rfl | exact int_eq (by omega) | exact len_eq (by simp) | exact int_eq (by simp; done), by first | rfl | exact int_eq (by omega) | exact len_eq (by simp) | exact int_eq (by simp; done), by exact int_eq (by rw [List.length_map]), by first | rfl | exact int_eq (by omega) | exact len_eq (by simp) | exact int_eq (by simp; done), trivial⟩
    · repeat (first | exact HLe.refl _ | refine HLe.cons' (by first | rfl | (simp [CC.enc, VB.enc]; done)) ?_ | refine HLe.pick 1 rfl (by first | rfl | (simp [CC.enc, VB.enc]; done)) ?_ | refine HLe.pick 2 rfl (by first | rfl | (simp [CC.enc, VB.enc]; done)) ?_ | refine HLe.pick 3 rfl (by first | rfl | (simp [CC.enc, VB.enc]; done)) ?_ | refine HLe.pick 4 rfl (by first | rfl | (simp [CC.enc, VB.enc]; done)) ?_ | refine HLe.pick 5 rfl (by first | rfl | (simp [CC.enc, VB.enc]; done)) ?_ | refine HLe.skip _ ?_)
    · rintro ⟨k, v⟩ ⟨hk, hk2, hI⟩
      dsimp only at hk hk2 hI ⊢
      refine W.reg ?_
      refine XOps.s rfl rfl rfl (Q.lss rfl rfl) ?_
      refine XOps.nil ?_
      refine W.seq ?_
      refine W.cond rfl (fun hc19 => ?_) (fun hc19 => ?_)
      · try simp only [Bool.or_eq_true, Bool.or_eq_false_iff, Bool.and_eq_true, Bool.and_eq_false_iff, decide_eq_true_eq, decide_eq_false_iff_not, Bool.not_eq_true', Bool.not_eq_false', Int.not_lt, Int.not_le, List.length_map] at hc19
        obtain ⟨x, hx⟩ : ∃ x, (lnA t)[k]? = some x := ⟨_, List.getElem?_eq_getElem (by omega)⟩
        refine W.skip ?_
        refine W.seq ?_
        refine W.block ?_
        refine W.reg ?_
        refine XOps.s rfl rfl rfl (Q.move_d rfl) ?_
        refine XOps.s rfl rfl rfl (Q.idx_sl sl35 (by decide) rfl rfl (by first | omega | (simp only [List.length_map]; omega)) (by exact map_at hx)) ?_
        refine XOps.s rfl rfl rfl (Q.ld_dp ag9 rfl rfl) ?_
        refine XOps.s rfl rfl rfl (Q.assign_d rfl) ?_
        refine XOps.s rfl rfl rfl (Q.assign_d rfl) ?_
        refine XOps.nil ?_
        refine W.seq ?_
        refine W.reg ?_
        refine XOps.s rfl rfl rfl (Q.move_d rfl) ?_
        refine XOps.s rfl rfl rfl (Q.move_d rfl) ?_
        refine XOps.s rfl rfl rfl (Q.len_sl isl35 rfl) ?_
        refine XOps.s rfl rfl rfl (Q.sub rfl rfl (wi64 (by first | omega | (dsimp only; omega) | (simp only [List.length_map]; omega)) (by first | omega | (dsimp only; omega) | (simp only [List.length_map]; omega)))) ?_
        refine XOps.s rfl rfl rfl (Q.eql rfl rfl) ?_
        refine XOps.s rfl rfl rfl (Q.move_d rfl) ?_
        refine XOps.gs rfl rfl rfl rfl rfl rfl rfl (fun hg => Q.move_d rfl) ?_
        refine XOps.gs rfl rfl rfl rfl rfl rfl rfl (fun hg => Quiet.open 29 hg rfl (Q.eql_str rfl rfl)) ?_
        refine XOps.s rfl rfl rfl (Q.pick_and rfl rfl rfl (fun h => by first | (rw [h]; rfl) | (rw [hg, h]; rfl) | (simp [h, hg]; done))) ?_
        refine XOps.nil ?_
        refine W.cond rfl (fun hc31 => ?_) (fun hc31 => ?_)
        · try simp only [Bool.or_eq_true, Bool.or_eq_false_iff, Bool.and_eq_true, Bool.and_eq_false_iff, decide_eq_true_eq, decide_eq_false_iff_not, Bool.not_eq_true', Bool.not_eq_false', Int.not_lt, Int.not_le, List.length_map] at hc31
          have hke := (lnS_end hx (by omega) hc31.2).1
          refine W.exit ?_
          refine W.freeze 5 0 rfl rfl (by simp) ?_
          have hgd := sc_good (ls := lnS t) (fun i y hy => hI i y (by have := (List.getElem?_eq_some_iff.1 hy).1; omega) hy)
          rw [← hke, List.take_length]
          rw [hsm.1, hsm.2.1, hsm.2.2, hgd.1, hgd.2.1, hgd.2.2]
          refine W.reg ?_
          refine XOps.s rfl rfl rfl (Q.move_d rfl) ?_
          refine XOps.s rfl rfl rfl (Q.assign_d rfl) ?_
          refine XOps.s rfl rfl rfl (Q.assign_d rfl) ?_
          refine XOps.s rfl rfl rfl (Q.assign_d rfl) ?_
          refine XOps.nil ?_
          refine W.ret ?_
          exact ⟨_, hs, rfl, HLe.refl _, rfl, rfl⟩
        · try simp only [Bool.or_eq_true, Bool.or_eq_false_iff, Bool.and_eq_true, Bool.and_eq_false_iff, decide_eq_true_eq, decide_eq_false_iff_not, Bool.not_eq_true', Bool.not_eq_false', Int.not_lt, Int.not_le, List.length_map] at hc31
          have hxs : (lnS t)[k]? = some x := lnS_at hx (fun hh => hc31.elim (fun h => h (by omega)) (fun h => by have h2 : (x.toList == (⟨#[]⟩ : ByteArray).toList) = true := hh.2; rw [h] at h2; cases h2))
          have hkl := (List.getElem?_eq_some_iff.1 hxs).1
          refine W.skip ?_
          refine W.reg ?_
          refine XOps.s rfl rfl rfl (Q.move_d rfl) ?_
          refine XOps.s rfl rfl rfl (Q.call rfl Tryd.func6 go6 rfl (parse_c x _ (by have := lnA_size (List.mem_of_getElem? hx); omega))) ?_
          refine XOps.s rfl rfl rfl (Q.move_tup rfl) ?_
          refine XOps.s rfl rfl rfl (Q.extract rfl rfl) ?_
          refine XOps.s rfl rfl rfl (Q.extract rfl rfl) ?_
          (refine XOps.loud rfl (L.alloc tz23 rfl rfl) ?_; rintro _ _ ⟨b9, rfl, rfl⟩)
          refine XOps.loud rfl (L.storen (k := 0) ag23 rfl rfl rfl rfl rfl) ?_
          rintro _ _ ⟨rfl, rfl⟩
          refine XOps.s rfl rfl rfl (Q.assign_d rfl) ?_
          refine XOps.nil ?_
          refine W.seq ?_
          refine W.reg ?_
          refine XOps.s rfl rfl rfl (Q.move_d rfl) ?_
          refine XOps.s rfl rfl rfl (Q.neq rfl rfl) ?_
          refine XOps.nil ?_
          refine W.cond rfl (fun hc38 => ?_) (fun hc38 => ?_)
          · try simp only [Bool.or_eq_true, Bool.or_eq_false_iff, Bool.and_eq_true, Bool.and_eq_false_iff, decide_eq_true_eq, decide_eq_false_iff_not, Bool.not_eq_true', Bool.not_eq_false', Int.not_lt, Int.not_le, List.length_map] at hc38
            have h38 : paE x ≠ 0 := by first | exact hc38 | (simpa using hc38)
            have hbd := sc_bad hxs h38 (fun i y hi hy => hI i y hi hy)
            rw [hsm.1, hsm.2.1, hsm.2.2, hbd.1, hbd.2.1, hbd.2.2]
            refine W.reg ?_
            refine XOps.s rfl rfl rfl (Q.move_d rfl) ?_
            refine XOps.s rfl rfl rfl (Q.move_d rfl) ?_
            refine XOps.s rfl rfl rfl (Q.assign_nilsl rfl) ?_
            refine XOps.s rfl rfl rfl (Q.assign_d rfl) ?_
            refine XOps.s rfl rfl rfl (Q.assign_d rfl) ?_
            refine XOps.nil ?_
            refine W.nild 2 4 rfl ?_
            refine W.ret ?_
            exact ⟨_, hs, rfl, HLe.skip _ (HLe.skip _ (HLe.refl _)), rfl, rfl⟩
          · try simp only [Bool.or_eq_true, Bool.or_eq_false_iff, Bool.and_eq_true, Bool.and_eq_false_iff, decide_eq_true_eq, decide_eq_false_iff_not, Bool.not_eq_true', Bool.not_eq_false', Int.not_lt, Int.not_le, List.length_map] at hc38
            have h38 : paE x = 0 := by first | exact hc38 | (simpa using hc38)
            have htk : (lnS t).take (k + 1) = (lnS t).take k ++ [x] := by
              obtain ⟨q1, q2⟩ := List.getElem?_eq_some_iff.1 hxs
              rw [List.take_succ_eq_append_getElem q1, q2]
            refine W.skip ?_
            refine W.region ?_
            refine XOps.s rfl rfl rfl (Q.move_vs rfl) ?_
            refine XOps.s rfl rfl rfl (Q.ld_ptrn (k := 0) ag23 rfl rfl rfl) ?_
            refine XOps.s rfl rfl rfl (Q.bsl1n sl32 (by decide) zr32 rfl zrd32 rfl rfl (by decide)) ?_
            refine XOps.loud rfl (L.app (k := 1) ap32 rfl rfl (by first | rfl | (simp [List.length_map]; done)) rfl (by simp; omega) rfl) ?_
            rintro _ _ ⟨v44, rfl, rfl⟩
            refine XOps.s rfl rfl rfl (Q.assign_vs rfl) ?_
            refine XOps.nil ?_
            refine W.region ?_
            refine XOps.s rfl rfl rfl (Q.add rfl rfl (wi64 (by first | omega | (dsimp only; omega) | (simp only [List.length_map]; omega)) (by first | omega | (dsimp only; omega) | (simp only [List.length_map]; omega)))) ?_
            refine XOps.s rfl rfl rfl (Q.move_d rfl) ?_
            refine XOps.nil ?_
            refine ⟨(k + 1, v44), ?_, ?_, ?_, ?_⟩
            · refine ⟨by dsimp only; omega, by dsimp only; omega, fun i y hi hy => ?_⟩
              rcases Nat.lt_or_ge i k with h2 | h2
              · exact hI i y h2 hy
              · obtain rfl : i = k := by dsimp only at hi; omega
                rw [hxs] at hy; obtain rfl := Option.some.inj hy; exact h38
            · dsimp only; omega
            · exact ⟨by exact vs_eq (by dsimp only; rw [htk]; simp; try omega), by first | rfl | exact int_eq (by omega) | exact len_eq (by simp) | exact int_eq (by simp; done), by first | rfl | exact int_eq (by omega) | exact len_eq (by simp) | exact int_eq (by simp; done), by first | rfl | exact int_eq (by omega) | exact len_eq (by simp) | exact int_eq (by simp; done), by first | rfl | exact int_eq (by omega) | exact len_eq (by simp) | exact int_eq (by simp; done), trivial⟩
            · (dsimp only; rw [htk]; first | exact HLe.cons' (by simp [CC.enc, paV]) (HLe.skip _ (HLe.refl _)) | exact HLe.skip _ (HLe.cons' (by simp [CC.enc]) (HLe.refl _)))
      · try simp only [Bool.or_eq_true, Bool.or_eq_false_iff, Bool.and_eq_true, Bool.and_eq_false_iff, decide_eq_true_eq, decide_eq_false_iff_not, Bool.not_eq_true', Bool.not_eq_false', Int.not_lt, Int.not_le, List.length_map] at hc19
        have hc19n : ¬ (k : Int) < (lnA t).length := by simpa using hc19
        obtain rfl : k = (lnA t).length := by omega
        have hke : (lnS t).length = (lnA t).length := by omega
        refine W.exit ?_
        refine W.freeze 5 0 rfl rfl (by simp) ?_
        have hgd := sc_good (ls := lnS t) (fun i y hy => hI i y (by have := (List.getElem?_eq_some_iff.1 hy).1; omega) hy)
        rw [← hke, List.take_length]
        rw [hsm.1, hsm.2.1, hsm.2.2, hgd.1, hgd.2.1, hgd.2.2]
        refine W.reg ?_
        refine XOps.s rfl rfl rfl (Q.move_d rfl) ?_
        refine XOps.s rfl rfl rfl (Q.assign_d rfl) ?_
        refine XOps.s rfl rfl rfl (Q.assign_d rfl) ?_
        refine XOps.s rfl rfl rfl (Q.assign_d rfl) ?_
        refine XOps.nil ?_
        refine W.ret ?_
        exact ⟨_, hs, rfl, HLe.refl _, rfl, rfl⟩
end Go.Proofs.YtdddebheolmldaaDoorA
