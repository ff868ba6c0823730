/- slices.Grow, slices.Concat and slices.Equal of strings; the law HoldOrder. -/
import Derived.Test.YtpdeopgmgeaglaaBase
import Derived.Test.YtpdeopgmgeaglaaWalkD
import Derived.Test.YtpdeopgmgeaglaaAbs22
set_option linter.unusedVariables false
set_option linter.unusedSimpArgs false
set_option linter.unnecessarySimpa false
namespace Go.Proofs.YtpdeopgmgeaglaaA.FWalkE
open Go
theorem ag33 : tAgg P 33 = some ((false, 1)) := by kernel_rfl
theorem ag39 : tAgg P 39 = some ((true, 3)) := by kernel_rfl
theorem ag9 : tAgg P 9 = some ((false, 1)) := by kernel_rfl
theorem ap33 : tApp P 33 = some ((1, 16)) := by kernel_rfl
theorem fl39_0 : tFld P 39 0 = some (0) := by kernel_rfl
theorem go11 : callGo Go.Proofs.Try.f11 = true := by kernel_rfl
theorem go12 : callGo Go.Proofs.Try.f12 = true := by kernel_rfl
theorem go14 : callGo Go.Proofs.Try.f14 = true := by kernel_rfl
theorem go15 : callGo Go.Proofs.Try.f15 = true := by kernel_rfl
theorem go23 : callGo Go.Proofs.Try.f23 = true := by kernel_rfl
theorem ik3 : tInt P 3 = some (.i64) := by kernel_rfl
theorem ipt23 : isPtr P 23 = true := by kernel_rfl
theorem isl33 : isSl P 33 = true := by kernel_rfl
theorem isl36 : isSl P 36 = true := by kernel_rfl
theorem isl53 : isSl P 53 = true := by kernel_rfl
theorem sl32 : tSl P 32 = some (1) := by kernel_rfl
theorem sl33 : tSl P 33 = some (1) := by kernel_rfl
theorem sl36 : tSl P 36 = some (3) := by kernel_rfl
theorem sl53 : tSl P 53 = some (1) := by kernel_rfl
theorem tz39 : tZero P 39 = some ([.string ⟨#[]⟩, .int .i64 0, .int .i64 0]) := by kernel_rfl
theorem zr32 : tZrow P 32 = some ([.int .i64 0]) := by kernel_rfl
theorem zr33 : tZrow P 33 = some ([.string ⟨#[]⟩]) := by kernel_rfl
theorem zr53 : tZrow P 53 = some ([.slice none 0 0]) := by kernel_rfl
theorem zrd32 : cellsD [.int .i64 0] = some ([.int .i64 0]) := rfl
theorem zrd33 : cellsD [.string ⟨#[]⟩] = some ([.str ⟨#[]⟩]) := rfl
theorem zrd53 : cellsD [.slice none 0 0] = some ([.sl 0 []]) := rfl
end Go.Proofs.YtpdeopgmgeaglaaA.FWalkE
namespace Go.Proofs.YtpdeopgmgeaglaaA
open Go FWalkE
set_option maxHeartbeats 1000000 in
set_option maxRecDepth 100000 in
theorem equalS_c (a b : List ByteArray) (hs : Hp) (hl : a.length ≤ 4611686018427387904) : AC P 14 [.d (.sl 1 (a.map sE)), .d (.sl 1 (b.map sE))] hs (fun r h => r = .d (.bool (decide (a = b))) ∧ h = hs) := by
  refine AC.of 26 Try.func14 rfl rfl rfl ?_
  refine W.reg ?_
  refine XOps.s rfl rfl rfl (Q.assign_d rfl) ?_
  refine XOps.nil ?_
  refine W.seq ?_
  refine W.reg ?_
  refine XOps.s rfl rfl rfl (Q.move_d rfl) ?_
  refine XOps.s rfl rfl rfl (Q.len_sl isl33 rfl) ?_
  refine XOps.s rfl rfl rfl (Q.move_d rfl) ?_
  refine XOps.s rfl rfl rfl (Q.len_sl isl33 rfl) ?_
  refine XOps.s rfl rfl rfl (Q.neq rfl rfl) ?_
  refine XOps.nil ?_
  refine W.cond rfl (fun hc10 => ?_) (fun hc10 => ?_)
  · try simp only [Bool.or_eq_true, Bool.or_eq_false_iff, Bool.and_eq_true, Bool.and_eq_false_iff, decide_eq_true_eq, decide_eq_false_iff_not, Bool.not_eq_true', Bool.not_eq_false', Int.not_lt, Int.not_le, List.length_map] at hc10
    have hr : decide (a = b) = false := decide_eq_false fun h => by subst h; simp at hc10
    refine W.reg ?_
    refine XOps.s rfl rfl rfl (Q.assign_d rfl) ?_
    refine XOps.nil ?_
    refine W.ret ?_
    refine ⟨_, hs, rfl, by repeat (first | exact HLe.refl _ | refine HLe.cons' (by first | rfl | (simp [sE]; done)) ?_ | refine HLe.pick 1 rfl (by first | rfl | (simp [sE]; done)) ?_ | refine HLe.pick 2 rfl (by first | rfl | (simp [sE]; done)) ?_ | refine HLe.pick 3 rfl (by first | rfl | (simp [sE]; done)) ?_ | refine HLe.pick 4 rfl (by first | rfl | (simp [sE]; done)) ?_ | refine HLe.pick 5 rfl (by first | rfl | (simp [sE]; done)) ?_ | refine HLe.skip _ ?_), ?_, rfl⟩
    rw [hr]; rfl
  · try simp only [Bool.or_eq_true, Bool.or_eq_false_iff, Bool.and_eq_true, Bool.and_eq_false_iff, decide_eq_true_eq, decide_eq_false_iff_not, Bool.not_eq_true', Bool.not_eq_false', Int.not_lt, Int.not_le, List.length_map] at hc10
    have hlen : a.length = b.length := by omega
    refine W.skip ?_
    refine W.seq ?_
    refine W.reg ?_
    refine XOps.s rfl rfl rfl (Q.move_d rfl) ?_
    refine XOps.s rfl rfl rfl (Q.len_sl isl33 rfl) ?_
    refine XOps.s rfl rfl rfl (Q.move_d rfl) ?_
    refine XOps.nil ?_
    refine W.block ?_
    refine W.loop (ι := Nat) (fun k => [(0, .d (.sl 1 (a.map sE))), (1, .d (.sl 1 (b.map sE))), (11, .d (.sl 1 (a.map sE))), (12, .d (.int .i64 a.length)), (13, .d (.int .i64 k))]) (fun k => hs) (fun k => k ≤ a.length ∧ ∀ i, i < k → a[i]? = b[i]?) (fun k => a.length - k) 0 ?_ ?_ ?_ ?_
    · exact ⟨Nat.zero_le _, fun i hi => absurd hi (Nat.not_lt_zero _)⟩
    · exact ⟨by first | rfl | exact int_eq (by omega) | exact len_eq (by simp) | exact int_eq (by simp; done), by first | rfl | exact int_eq (by omega) | exact len_eq (by simp) | exact int_eq (by simp; done), by first | rfl | exact int_eq (by omega) | exact len_eq (by simp) | exact int_eq (by simp; done), by first | rfl | exact int_eq (by omega) | exact len_eq (by simp) | exact int_eq (by simp; done), by first | rfl | exact int_eq (by omega) | exact len_eq (by simp) | exact int_eq (by simp; done), trivial⟩
    · repeat (first | exact HLe.refl _ | refine HLe.cons' (by first | rfl | (simp [sE]; done)) ?_ | refine HLe.pick 1 rfl (by first | rfl | (simp [sE]; done)) ?_ | refine HLe.pick 2 rfl (by first | rfl | (simp [sE]; done)) ?_ | refine HLe.pick 3 rfl (by first | rfl | (simp [sE]; done)) ?_ | refine HLe.pick 4 rfl (by first | rfl | (simp [sE]; done)) ?_ | refine HLe.pick 5 rfl (by first | rfl | (simp [sE]; done)) ?_ | refine HLe.skip _ ?_)
    · rintro k ⟨hk, hI⟩
      try dsimp only
      refine W.reg ?_
      refine XOps.s rfl rfl rfl (Q.lss rfl rfl) ?_
      refine XOps.nil ?_
      refine W.seq ?_
      refine W.cond rfl (fun hc14 => ?_) (fun hc14 => ?_)
      · try simp only [Bool.or_eq_true, Bool.or_eq_false_iff, Bool.and_eq_true, Bool.and_eq_false_iff, decide_eq_true_eq, decide_eq_false_iff_not, Bool.not_eq_true', Bool.not_eq_false', Int.not_lt, Int.not_le, List.length_map] at hc14
        obtain ⟨u, hu⟩ : ∃ u, a[k]? = some u := ⟨_, List.getElem?_eq_getElem (by omega)⟩
        obtain ⟨v, hv⟩ : ∃ v, b[k]? = some v := ⟨_, List.getElem?_eq_getElem (by omega)⟩
        refine W.skip ?_
        refine W.seq ?_
        refine W.block ?_
        refine W.reg ?_
        refine XOps.s rfl rfl rfl (Q.move_d rfl) ?_
        refine XOps.s rfl rfl rfl (Q.assign_d rfl) ?_
        refine XOps.nil ?_
        refine W.drawreg 9 follows (by kernel_rfl) ?_
        refine Chain.cons _ (GQ.q rfl (Q.move_d rfl)) rfl ?_
        refine Chain.cons _ (GQ.q rfl (Q.move_d rfl)) rfl ?_
        refine Chain.cons _ (GQ.q rfl (Q.idx_sl sl33 (by decide) rfl rfl (by first | omega | (simp only [List.length_map]; omega)) (by first | exact map_at (by assumption) | exact map_at0 (by assumption) | assumption))) rfl ?_
        refine Chain.cons _ (GQ.q rfl (Q.ld_dp ag9 rfl rfl)) rfl ?_
        refine Chain.cons _ (GQ.q rfl (Q.move_d rfl)) rfl ?_
        refine Chain.cons _ (GQ.q rfl (Q.move_d rfl)) rfl ?_
        refine Chain.cons _ (GQ.q rfl (Q.idx_sl sl33 (by decide) rfl rfl (by first | omega | (simp only [List.length_map]; omega)) (by first | exact map_at (by assumption) | exact map_at0 (by assumption) | assumption))) rfl ?_
        refine Chain.cons _ (GQ.q rfl (Q.ld_dp ag9 rfl rfl)) rfl ?_
        refine Chain.cons _ (GQ.q rfl (Q.neq_str rfl rfl)) rfl ?_
        refine Chain.nil ?_
        refine XOps.nil ?_
        refine W.cond rfl (fun hc24 => ?_) (fun hc24 => ?_)
        · try simp only [Bool.or_eq_true, Bool.or_eq_false_iff, Bool.and_eq_true, Bool.and_eq_false_iff, decide_eq_true_eq, decide_eq_false_iff_not, Bool.not_eq_true', Bool.not_eq_false', Int.not_lt, Int.not_le, List.length_map] at hc24
          have hr : decide (a = b) = false := decide_eq_false fun h => by subst h; rw [hu] at hv; obtain rfl := Option.some.inj hv; simp at hc24
          refine W.reg ?_
          refine XOps.s rfl rfl rfl (Q.assign_d rfl) ?_
          refine XOps.nil ?_
          refine W.ret ?_
          refine ⟨_, hs, rfl, by repeat (first | exact HLe.refl _ | refine HLe.cons' (by first | rfl | (simp [sE]; done)) ?_ | refine HLe.pick 1 rfl (by first | rfl | (simp [sE]; done)) ?_ | refine HLe.pick 2 rfl (by first | rfl | (simp [sE]; done)) ?_ | refine HLe.pick 3 rfl (by first | rfl | (simp [sE]; done)) ?_ | refine HLe.pick 4 rfl (by first | rfl | (simp [sE]; done)) ?_ | refine HLe.pick 5 rfl (by first | rfl | (simp [sE]; done)) ?_ | refine HLe.skip _ ?_), ?_, rfl⟩
          rw [hr]; rfl
        · try simp only [Bool.or_eq_true, Bool.or_eq_false_iff, Bool.and_eq_true, Bool.and_eq_false_iff, decide_eq_true_eq, decide_eq_false_iff_not, Bool.not_eq_true', Bool.not_eq_false', Int.not_lt, Int.not_le, List.length_map] at hc24
          have huv : u = v := toList_inj (by simpa using hc24)
          refine W.skip ?_
          refine W.region ?_
          refine XOps.s rfl rfl rfl (Q.add rfl rfl (wi64 (by first | omega | (dsimp only; omega) | (simp only [List.length_map]; omega)) (by first | omega | (dsimp only; omega) | (simp only [List.length_map]; omega)))) ?_
          refine XOps.s rfl rfl rfl (Q.move_d rfl) ?_
          refine XOps.nil ?_
          refine ⟨k + 1, ?_, ?_, ?_, ?_⟩
          · refine ⟨by omega, fun i hi => ?_⟩
            by_cases h : i = k
            · subst h; rw [hu, hv, huv]
            · exact hI i (by omega)
          · omega
          · exact ⟨by first | rfl | exact int_eq (by omega) | exact len_eq (by simp) | exact int_eq (by simp; done), by first | rfl | exact int_eq (by omega) | exact len_eq (by simp) | exact int_eq (by simp; done), by first | rfl | exact int_eq (by omega) | exact len_eq (by simp) | exact int_eq (by simp; done), by first | rfl | exact int_eq (by omega) | exact len_eq (by simp) | exact int_eq (by simp; done), by first | rfl | exact int_eq (by omega) | exact len_eq (by simp) | exact int_eq (by simp; done), trivial⟩
          · repeat (first | exact HLe.refl _ | refine HLe.cons' (by first | rfl | (simp [sE]; done)) ?_ | refine HLe.pick 1 rfl (by first | rfl | (simp [sE]; done)) ?_ | refine HLe.pick 2 rfl (by first | rfl | (simp [sE]; done)) ?_ | refine HLe.pick 3 rfl (by first | rfl | (simp [sE]; done)) ?_ | refine HLe.pick 4 rfl (by first | rfl | (simp [sE]; done)) ?_ | refine HLe.pick 5 rfl (by first | rfl | (simp [sE]; done)) ?_ | refine HLe.skip _ ?_)
      · try simp only [Bool.or_eq_true, Bool.or_eq_false_iff, Bool.and_eq_true, Bool.and_eq_false_iff, decide_eq_true_eq, decide_eq_false_iff_not, Bool.not_eq_true', Bool.not_eq_false', Int.not_lt, Int.not_le, List.length_map] at hc14
        have hr : decide (a = b) = true := decide_eq_true (List.ext_getElem? fun i => by
          rcases Nat.lt_or_ge i k with h | h
          · exact hI i h
          · rw [List.getElem?_eq_none (by omega), List.getElem?_eq_none (by omega)])
        refine W.exit ?_
        refine W.reg ?_
        refine XOps.s rfl rfl rfl (Q.assign_d rfl) ?_
        refine XOps.nil ?_
        refine W.ret ?_
        refine ⟨_, hs, rfl, by repeat (first | exact HLe.refl _ | refine HLe.cons' (by first | rfl | (simp [sE]; done)) ?_ | refine HLe.pick 1 rfl (by first | rfl | (simp [sE]; done)) ?_ | refine HLe.pick 2 rfl (by first | rfl | (simp [sE]; done)) ?_ | refine HLe.pick 3 rfl (by first | rfl | (simp [sE]; done)) ?_ | refine HLe.pick 4 rfl (by first | rfl | (simp [sE]; done)) ?_ | refine HLe.pick 5 rfl (by first | rfl | (simp [sE]; done)) ?_ | refine HLe.skip _ ?_), ?_, rfl⟩
        rw [hr]; rfl

set_option maxHeartbeats 1000000 in
set_option maxRecDepth 100000 in
theorem grow_c (n : Nat) (hs : Hp) (hn : n ≤ 1000000) : AC P 23 [.nilsl, .d (.int .i64 (n : Int))] hs (fun r h => ∃ v, r = .vs v 0 0 1 ∧ h = (v, .lst 1 []) :: hs) := by
  refine AC.of 27 Try.func23 rfl rfl rfl ?_
  refine W.reg ?_
  refine XOps.s rfl rfl rfl (Q.assign_nilsl rfl) ?_
  refine XOps.nil ?_
  refine W.seq ?_
  refine W.reg ?_
  refine XOps.s rfl rfl rfl (Q.move_d rfl) ?_
  refine XOps.s rfl rfl rfl (Q.lss rfl rfl) ?_
  refine XOps.nil ?_
  refine W.cond rfl (fun hc6 => ?_) (fun hc6 => ?_)
  · try simp only [Bool.or_eq_true, Bool.or_eq_false_iff, Bool.and_eq_true, Bool.and_eq_false_iff, decide_eq_true_eq, decide_eq_false_iff_not, Bool.not_eq_true', Bool.not_eq_false', Int.not_lt, Int.not_le, List.length_map] at hc6
    exact absurd hc6 (by omega)
  · try simp only [Bool.or_eq_true, Bool.or_eq_false_iff, Bool.and_eq_true, Bool.and_eq_false_iff, decide_eq_true_eq, decide_eq_false_iff_not, Bool.not_eq_true', Bool.not_eq_false', Int.not_lt, Int.not_le, List.length_map] at hc6
    refine W.skip ?_
    refine W.seq ?_
    refine W.reg ?_
    refine XOps.s rfl rfl rfl (Q.move_d rfl) ?_
    refine XOps.s rfl rfl rfl (Q.move_nilsl rfl) ?_
    refine XOps.s rfl rfl rfl (Q.cap_nil isl33 rfl) ?_
    refine XOps.s rfl rfl rfl (Q.move_nilsl rfl) ?_
    refine XOps.s rfl rfl rfl (Q.len_nil isl33 rfl) ?_
    refine XOps.s rfl rfl rfl (Q.sub rfl rfl (wi64 (by first | omega | (dsimp only; omega) | (simp only [List.length_map]; omega)) (by first | omega | (dsimp only; omega) | (simp only [List.length_map]; omega)))) ?_
    refine XOps.s rfl rfl rfl (Q.sub rfl rfl (wi64 (by first | omega | (dsimp only; omega) | (simp only [List.length_map]; omega)) (by first | omega | (dsimp only; omega) | (simp only [List.length_map]; omega)))) ?_
    refine XOps.s rfl rfl rfl (Q.assign_d rfl) ?_
    refine XOps.nil ?_
    rw [show (n : Int) - (0 - 0) = n by omega]
    refine W.reg ?_
    refine XOps.s rfl rfl rfl (Q.move_d rfl) ?_
    refine XOps.s rfl rfl rfl (Q.gtr rfl rfl) ?_
    refine XOps.nil ?_
    refine W.cond rfl (fun hc16 => ?_) (fun hc16 => ?_)
    · try simp only [Bool.or_eq_true, Bool.or_eq_false_iff, Bool.and_eq_true, Bool.and_eq_false_iff, decide_eq_true_eq, decide_eq_false_iff_not, Bool.not_eq_true', Bool.not_eq_false', Int.not_lt, Int.not_le, List.length_map] at hc16
      refine W.region ?_
      refine XOps.s rfl rfl rfl (Q.move_nilsl rfl) ?_
      refine XOps.s rfl rfl rfl (Q.move_nilsl rfl) ?_
      refine XOps.s rfl rfl rfl (Q.cap_nil isl33 rfl) ?_
      refine XOps.s rfl rfl rfl (Q.cut_nil sl33 rfl rfl rfl (by omega) (by omega)) ?_
      refine XOps.s rfl rfl rfl (Q.move_d rfl) ?_
      (refine XOps.loud rfl (L.app_mk ap33 zr33 zrd33 ik3 rfl rfl (by omega) (by omega) rfl) ?_; rintro _ _ ⟨v22, rfl, rfl⟩)
      refine XOps.s rfl rfl rfl (Q.move_nilsl rfl) ?_
      refine XOps.s rfl rfl rfl (Q.len_nil isl33 rfl) ?_
      refine XOps.s rfl rfl rfl (Q.cut_vs sl33 rfl rfl rfl (by first | omega | (simp only [List.length_map]; omega)) (by first | omega | (simp only [List.length_map]; omega)) (by first | omega | (simp only [List.length_map]; omega))) ?_
      refine XOps.s rfl rfl rfl (Q.assign_vs rfl) ?_
      refine XOps.nil ?_
      refine W.front_of 0 0 rfl ?_
      refine W.reg ?_
      refine XOps.s rfl rfl rfl (Q.move_vs rfl) ?_
      refine XOps.s rfl rfl rfl (Q.assign_vs rfl) ?_
      refine XOps.nil ?_
      refine W.ret ?_
      exact ⟨_, (v22, .lst 1 []) :: hs, rfl, HLe.refl _, v22, rfl, rfl⟩
    · try simp only [Bool.or_eq_true, Bool.or_eq_false_iff, Bool.and_eq_true, Bool.and_eq_false_iff, decide_eq_true_eq, decide_eq_false_iff_not, Bool.not_eq_true', Bool.not_eq_false', Int.not_lt, Int.not_le, List.length_map] at hc16
      obtain rfl : n = 0 := by omega
      refine W.ghost 0 1 (by decide) rfl (by decide) (fun v22 => ?_)
      refine W.skip ?_
      refine W.reg ?_
      refine XOps.s rfl rfl rfl (Q.move_vs rfl) ?_
      refine XOps.s rfl rfl rfl (Q.assign_vs rfl) ?_
      refine XOps.nil ?_
      refine W.ret ?_
      exact ⟨_, (v22, .lst 1 []) :: hs, rfl, HLe.refl _, v22, rfl, rfl⟩

set_option maxHeartbeats 1000000 in
set_option maxRecDepth 100000 in
theorem concat_own (M : List (List ByteArray)) (hs : Hp) (hL : M.length ≤ 1000) (hT : M.flatten.length ≤ 1000) : AC P 15 [.d (.sl 1 (M.map fun x => [D.sl 1 (x.map sE)]))] hs (fun r h => ∃ v, r = .vs v 0 M.flatten.length 1 ∧ h = (v, .lst 1 (M.flatten.map sE)) :: hs) := by
  refine AC.of 36 Try.func15 rfl rfl rfl ?_
  refine W.reg ?_
  refine XOps.s rfl rfl rfl (Q.assign_nilsl rfl) ?_
  refine XOps.nil ?_
  refine W.reg ?_
  refine XOps.s rfl rfl rfl (Q.assign_d rfl) ?_
  refine XOps.nil ?_
  refine W.seq ?_
  refine W.reg ?_
  refine XOps.s rfl rfl rfl (Q.move_d rfl) ?_
  refine XOps.s rfl rfl rfl (Q.len_sl isl53 rfl) ?_
  refine XOps.s rfl rfl rfl (Q.move_d rfl) ?_
  refine XOps.nil ?_
  refine W.block ?_
  refine W.loop (ι := Nat) (fun k => [(0, .d (.sl 1 (M.map fun x => [D.sl 1 (x.map sE)]))), (3, .d (.int .i64 ((M.take k).flatten.length : Nat))), (9, .d (.sl 1 (M.map fun x => [D.sl 1 (x.map sE)]))), (10, .d (.int .i64 M.length)), (11, .d (.int .i64 (k : Nat)))]) (fun k => hs) (fun k => k ≤ M.length) (fun k => M.length - k) 0 ?_ ?_ ?_ ?_
  · exact Nat.zero_le _
  · exact ⟨by first | rfl | exact int_eq (by omega) | exact len_eq (by simp) | exact int_eq (by simp; done), by first | rfl | exact int_eq (by omega) | exact len_eq (by simp) | exact int_eq (by simp; done), by first | rfl | exact int_eq (by omega) | exact len_eq (by simp) | exact int_eq (by simp; done), by first | rfl | exact int_eq (by omega) | exact len_eq (by simp) | exact int_eq (by simp; done), by first | rfl | exact int_eq (by omega) | exact len_eq (by simp) | exact int_eq (by simp; done), trivial⟩
  · exact HLe.refl _
  · rintro k hk
    try dsimp only
    refine W.reg ?_
    refine XOps.s rfl rfl rfl (Q.lss rfl rfl) ?_
    refine XOps.nil ?_
    refine W.seq ?_
    refine W.cond rfl (fun hc12 => ?_) (fun hc12 => ?_)
    · try simp only [Bool.or_eq_true, Bool.or_eq_false_iff, Bool.and_eq_true, Bool.and_eq_false_iff, decide_eq_true_eq, decide_eq_false_iff_not, Bool.not_eq_true', Bool.not_eq_false', Int.not_lt, Int.not_le, List.length_map] at hc12
      obtain ⟨x, hx⟩ : ∃ x, M[k]? = some x := ⟨_, List.getElem?_eq_getElem (by omega)⟩
      have hst : (M.take (k + 1)).flatten = (M.take k).flatten ++ x := by rw [List.take_add_one, hx, List.flatten_append]; simp
      have hle : (M.take (k + 1)).flatten.length ≤ M.flatten.length := by
        have h := congrArg (fun l => l.flatten.length) (List.take_append_drop (k + 1) M)
        simp only [List.flatten_append, List.length_append] at h
        omega
      rw [hst, List.length_append] at hle
      refine W.skip ?_
      refine W.seq ?_
      refine W.block ?_
      refine W.reg ?_
      refine XOps.s rfl rfl rfl (Q.idx_sl sl53 (by decide) rfl rfl (by first | omega | (simp only [List.length_map]; omega)) (by first | exact map_at (by assumption) | exact map_at0 (by assumption) | assumption)) ?_
      refine XOps.s rfl rfl rfl (Q.ld_dp ag33 rfl rfl) ?_
      refine XOps.s rfl rfl rfl (Q.assign_d rfl) ?_
      refine XOps.nil ?_
      refine W.reg ?_
      refine XOps.s rfl rfl rfl (Q.move_d rfl) ?_
      refine XOps.s rfl rfl rfl (Q.move_d rfl) ?_
      refine XOps.s rfl rfl rfl (Q.len_sl isl33 rfl) ?_
      refine XOps.s rfl rfl rfl (Q.add rfl rfl (wi64 (by first | omega | (dsimp only; omega) | (simp only [List.length_map]; omega)) (by first | omega | (dsimp only; omega) | (simp only [List.length_map]; omega)))) ?_
      refine XOps.s rfl rfl rfl (Q.assign_d rfl) ?_
      refine XOps.nil ?_
      refine W.reg ?_
      refine XOps.s rfl rfl rfl (Q.move_d rfl) ?_
      refine XOps.s rfl rfl rfl (Q.lss rfl rfl) ?_
      refine XOps.nil ?_
      refine W.cond rfl (fun hc20 => ?_) (fun hc20 => ?_)
      · try simp only [Bool.or_eq_true, Bool.or_eq_false_iff, Bool.and_eq_true, Bool.and_eq_false_iff, decide_eq_true_eq, decide_eq_false_iff_not, Bool.not_eq_true', Bool.not_eq_false', Int.not_lt, Int.not_le, List.length_map] at hc20
        exact absurd hc20 (by omega)
      · try simp only [Bool.or_eq_true, Bool.or_eq_false_iff, Bool.and_eq_true, Bool.and_eq_false_iff, decide_eq_true_eq, decide_eq_false_iff_not, Bool.not_eq_true', Bool.not_eq_false', Int.not_lt, Int.not_le, List.length_map] at hc20
        refine W.skip ?_
        refine W.region ?_
        refine XOps.s rfl rfl rfl (Q.add rfl rfl (wi64 (by first | omega | (dsimp only; omega) | (simp only [List.length_map]; omega)) (by first | omega | (dsimp only; omega) | (simp only [List.length_map]; omega)))) ?_
        refine XOps.s rfl rfl rfl (Q.move_d rfl) ?_
        refine XOps.nil ?_
        refine ⟨k + 1, ?_, ?_, ?_, ?_⟩
        · omega
        · omega
        · exact ⟨by first | rfl | exact int_eq (by omega) | exact len_eq (by simp) | exact int_eq (by simp; done), by (show AV.d (.int .i64 ((((M.take k).flatten.length : Nat) : Int) + (((x.map sE).length : Nat) : Int))) = .d (.int .i64 (((M.take (k + 1)).flatten.length : Nat) : Int)); rw [hst, List.length_append, List.length_map]; exact int_eq (by omega)), by first | rfl | exact int_eq (by omega) | exact len_eq (by simp) | exact int_eq (by simp; done), by first | rfl | exact int_eq (by omega) | exact len_eq (by simp) | exact int_eq (by simp; done), by first | rfl | exact int_eq (by omega) | exact len_eq (by simp) | exact int_eq (by simp; done), trivial⟩
        · exact HLe.refl _
    · try simp only [Bool.or_eq_true, Bool.or_eq_false_iff, Bool.and_eq_true, Bool.and_eq_false_iff, decide_eq_true_eq, decide_eq_false_iff_not, Bool.not_eq_true', Bool.not_eq_false', Int.not_lt, Int.not_le, List.length_map] at hc12
      obtain rfl : k = M.length := by omega
      rw [List.take_length]
      refine W.exit ?_
      refine W.reg ?_
      refine XOps.s rfl rfl rfl (Q.move_d rfl) ?_
      (refine XOps.loud rfl (L.call rfl Try.func23 go23 rfl (grow_c M.flatten.length _ (by omega)) rfl) ?_; rintro _ _ ⟨_, rfl, v24, rfl, rfl⟩)
      refine XOps.s rfl rfl rfl (Q.assign_vs rfl) ?_
      refine XOps.nil ?_
      refine W.seq ?_
      refine W.reg ?_
      refine XOps.s rfl rfl rfl (Q.move_d rfl) ?_
      refine XOps.s rfl rfl rfl (Q.len_sl isl53 rfl) ?_
      refine XOps.s rfl rfl rfl (Q.move_d rfl) ?_
      refine XOps.nil ?_
      refine W.block ?_
      refine W.loop (ι := Nat × Nat) (fun q => [(6, .vs q.2 0 (M.take q.1).flatten.length 1), (25, .d (.sl 1 (M.map fun x => [D.sl 1 (x.map sE)]))), (26, .d (.int .i64 M.length)), (27, .d (.int .i64 (q.1 : Nat)))]) (fun q => (q.2, .lst 1 ((M.take q.1).flatten.map sE)) :: hs) (fun q => q.1 ≤ M.length) (fun q => M.length - q.1) (0, v24) ?_ ?_ ?_ ?_
      · exact Nat.zero_le _
      · exact ⟨by first | rfl | exact int_eq (by omega) | exact len_eq (by simp) | exact int_eq (by simp; done), by first | rfl | exact int_eq (by omega) | exact len_eq (by simp) | exact int_eq (by simp; done), by first | rfl | exact int_eq (by omega) | exact len_eq (by simp) | exact int_eq (by simp; done), by first | rfl | exact int_eq (by omega) | exact len_eq (by simp) | exact int_eq (by simp; done), trivial⟩
      · exact HLe.refl _
      · rintro ⟨k, v⟩ hk
        try dsimp only at hk ⊢
        refine W.reg ?_
        refine XOps.s rfl rfl rfl (Q.lss rfl rfl) ?_
        refine XOps.nil ?_
        refine W.seq ?_
        refine W.cond rfl (fun hc28 => ?_) (fun hc28 => ?_)
        · try simp only [Bool.or_eq_true, Bool.or_eq_false_iff, Bool.and_eq_true, Bool.and_eq_false_iff, decide_eq_true_eq, decide_eq_false_iff_not, Bool.not_eq_true', Bool.not_eq_false', Int.not_lt, Int.not_le, List.length_map] at hc28
          obtain ⟨x, hx⟩ : ∃ x, M[k]? = some x := ⟨_, List.getElem?_eq_getElem (by omega)⟩
          have hst : (M.take (k + 1)).flatten = (M.take k).flatten ++ x := by rw [List.take_add_one, hx, List.flatten_append]; simp
          have hle : (M.take (k + 1)).flatten.length ≤ M.flatten.length := by
            have h := congrArg (fun l => l.flatten.length) (List.take_append_drop (k + 1) M)
            simp only [List.flatten_append, List.length_append] at h
            omega
          rw [hst, List.length_append] at hle
          refine W.skip ?_
          refine W.seq ?_
          refine W.block ?_
          refine W.reg ?_
          refine XOps.s rfl rfl rfl (Q.idx_sl sl53 (by decide) rfl rfl (by first | omega | (simp only [List.length_map]; omega)) (by first | exact map_at (by assumption) | exact map_at0 (by assumption) | assumption)) ?_
          refine XOps.s rfl rfl rfl (Q.ld_dp ag33 rfl rfl) ?_
          refine XOps.s rfl rfl rfl (Q.assign_d rfl) ?_
          refine XOps.nil ?_
          refine W.region ?_
          refine XOps.s rfl rfl rfl (Q.move_vs rfl) ?_
          refine XOps.s rfl rfl rfl (Q.move_d rfl) ?_
          (refine XOps.loud rfl (L.app (k := 0) ap33 rfl rfl (by rw [List.length_map]) rfl (by rw [List.length_map, List.length_map]; omega) rfl) ?_; rintro _ _ ⟨v33, rfl, rfl⟩)
          refine XOps.s rfl rfl rfl (Q.assign_vs rfl) ?_
          refine XOps.nil ?_
          refine W.region ?_
          refine XOps.s rfl rfl rfl (Q.add rfl rfl (wi64 (by first | omega | (dsimp only; omega) | (simp only [List.length_map]; omega)) (by first | omega | (dsimp only; omega) | (simp only [List.length_map]; omega)))) ?_
          refine XOps.s rfl rfl rfl (Q.move_d rfl) ?_
          refine XOps.nil ?_
          refine ⟨(k + 1, v33), ?_, ?_, ?_, ?_⟩
          · dsimp only; omega
          · dsimp only; omega
          · exact ⟨by (rw [hst]; exact vs_eq (by rw [List.length_map, List.length_map, List.length_append])), by first | rfl | exact int_eq (by omega) | exact len_eq (by simp) | exact int_eq (by simp; done), by first | rfl | exact int_eq (by omega) | exact len_eq (by simp) | exact int_eq (by simp; done), by exact int_eq (by dsimp only; omega), trivial⟩
          · exact HLe.cons' (by rw [hst, List.map_append]) (HLe.refl _)
        · try simp only [Bool.or_eq_true, Bool.or_eq_false_iff, Bool.and_eq_true, Bool.and_eq_false_iff, decide_eq_true_eq, decide_eq_false_iff_not, Bool.not_eq_true', Bool.not_eq_false', Int.not_lt, Int.not_le, List.length_map] at hc28
          obtain rfl : k = M.length := by omega
          rw [List.take_length]
          refine W.exit ?_
          refine W.reg ?_
          refine XOps.s rfl rfl rfl (Q.move_vs rfl) ?_
          refine XOps.s rfl rfl rfl (Q.assign_vs rfl) ?_
          refine XOps.nil ?_
          refine W.ret ?_
          exact ⟨_, (v, .lst 1 (M.flatten.map sE)) :: hs, rfl, HLe.refl _, v, rfl, rfl⟩

theorem concat_c (M : List (List ByteArray)) (hs : Hp) (hL : M.length ≤ 1000) (hT : M.flatten.length ≤ 1000) : AC P 15 [.d (.sl 1 (M.map fun x => [D.sl 1 (x.map sE)]))] hs (fun r h => r = .d (.sl 1 (M.flatten.map sE)) ∧ h = hs) :=
  AC.frz ((concat_own M hs hL hT).mono fun r h ⟨v, h1, h2⟩ => ⟨v, h2, h1 ▸ .vs (by rw [List.length_map])⟩)

set_option maxHeartbeats 1000000 in
set_option maxRecDepth 100000 in
theorem order_c (l : List Int) (hs : Hp) (hL : l.length ≤ 140737488351232) : AC P 6 [.d (slN l)] hs (fun r _ => r = .d (.bool true)) := by
  refine AC.of 53 Try.func6 rfl rfl rfl ?_
  refine W.reg ?_
  refine XOps.s rfl rfl rfl (Q.assign_d rfl) ?_
  refine XOps.nil ?_
  refine W.reg ?_
  refine XOps.s rfl rfl rfl (Q.move_d rfl) ?_
  refine XOps.loud rfl (L.call rfl Try.func11 go11 rfl (stack_c l hs hL) rfl) ?_
  rintro _ _ ⟨_, rfl, b, id, i, o, rfl, rfl⟩
  refine XOps.s rfl rfl rfl (Q.move_tup rfl) ?_
  refine XOps.s rfl rfl rfl (Q.extract rfl rfl) ?_
  refine XOps.s rfl rfl rfl (Q.extract rfl rfl) ?_
  refine XOps.s rfl rfl rfl (Q.extract rfl rfl) ?_
  refine XOps.s rfl rfl rfl (Q.assign_ptr rfl) ?_
  refine XOps.s rfl rfl rfl (Q.assign_vs rfl) ?_
  refine XOps.s rfl rfl rfl (Q.assign_vs rfl) ?_
  refine XOps.nil ?_
  refine W.seq ?_
  refine W.reg ?_
  refine XOps.s rfl rfl rfl (Q.move_ptr rfl) ?_
  refine XOps.s rfl rfl rfl (Q.eql_ptr ipt23 rfl rfl) ?_
  refine XOps.nil ?_
  refine W.cond rfl (fun hc19 => ?_) (fun hc19 => ?_)
  · try simp only [Bool.or_eq_true, Bool.or_eq_false_iff, Bool.and_eq_true, Bool.and_eq_false_iff, decide_eq_true_eq, decide_eq_false_iff_not, Bool.not_eq_true', Bool.not_eq_false', Int.not_lt, Int.not_le, List.length_map] at hc19
    exact absurd hc19 (by simp)
  · try simp only [Bool.or_eq_true, Bool.or_eq_false_iff, Bool.and_eq_true, Bool.and_eq_false_iff, decide_eq_true_eq, decide_eq_false_iff_not, Bool.not_eq_true', Bool.not_eq_false', Int.not_lt, Int.not_le, List.length_map] at hc19
    refine W.skip ?_
    refine W.seq ?_
    refine W.reg ?_
    refine XOps.s rfl rfl rfl (Q.bsl1 sl32 zr32 rfl zrd32 rfl rfl) ?_
    refine XOps.loud rfl (L.call rfl Try.func11 go11 rfl (stack_c [0] _ (by decide)) rfl) ?_
    rintro _ _ ⟨_, rfl, b2, id2, i2, o2, rfl, rfl⟩
    refine XOps.s rfl rfl rfl (Q.move_tup rfl) ?_
    refine XOps.s rfl rfl rfl (Q.extract rfl rfl) ?_
    refine XOps.s rfl rfl rfl (Q.extract rfl rfl) ?_
    refine XOps.s rfl rfl rfl (Q.extract rfl rfl) ?_
    refine XOps.s rfl rfl rfl (Q.assign_ptr rfl) ?_
    refine XOps.s rfl rfl rfl (Q.assign_vs rfl) ?_
    refine XOps.s rfl rfl rfl (Q.assign_vs rfl) ?_
    refine XOps.nil ?_
    have hsk := stK_ok l (min l.length 30) (by omega)
    have hok := hsk.ok (by omega)
    have htl : (stK [0] (min ([0] : List Int).length 30)).1.l = [⟨fName 0, 3000, 0⟩] := st_fact
    have htk : (stK [0] (min ([0] : List Int).length 30)).1.ok := (stK_ok [0] (min ([0] : List Int).length 30) (by decide)).ok (by decide)
    generalize (stK [0] (min ([0] : List Int).length 30)) = T at *
    generalize (stK l (min l.length 30)) = S at *
    have hT0 : T.1.l.length = 1 := by rw [htl]; rfl
    have hlS := hok.len
    have hil := hsk.inl
    have hol := hsk.outl
    have hord := hsk.ord
    have hfl : [S.2.2, S.1.l.map Lv.call].flatten = S.2.1 := by rw [hord]; simp
    have hmn : min l.length 30 ≤ 30 := Nat.min_le_right _ _
    refine W.reg ?_
    refine XOps.s rfl rfl rfl (Q.move_ptr rfl) ?_
    refine XOps.s rfl rfl rfl (Q.eql_ptr ipt23 rfl rfl) ?_
    refine XOps.s rfl rfl rfl (Q.move_d rfl) ?_
    refine XOps.gs rfl rfl rfl rfl rfl rfl rfl (fun hg => Q.move_ptr rfl) ?_
    refine XOps.gs rfl rfl rfl rfl rfl rfl rfl (fun hg => Quiet.open 29 hg rfl (Q.call rfl Try.func12 go12 rfl (list_f b2 id2 T.1 _ htk.len))) ?_
    refine XOps.gs rfl rfl rfl rfl rfl rfl rfl (fun hg => Quiet.open 30 hg rfl (Q.len_sl isl36 rfl)) ?_
    refine XOps.gs rfl rfl rfl rfl rfl rfl rfl (fun hg => Quiet.open 31 hg rfl (Q.neq rfl rfl)) ?_
    refine XOps.s rfl rfl rfl (Q.pick_or rfl rfl rfl (fun h => by first | (rw [h]; rfl) | (rw [hg, h]; rfl) | (simp [h, hg]; done))) ?_
    refine XOps.nil ?_
    refine W.cond rfl (fun hc33 => ?_) (fun hc33 => ?_)
    · try simp only [Bool.or_eq_true, Bool.or_eq_false_iff, Bool.and_eq_true, Bool.and_eq_false_iff, decide_eq_true_eq, decide_eq_false_iff_not, Bool.not_eq_true', Bool.not_eq_false', Int.not_lt, Int.not_le, List.length_map] at hc33
      exact absurd hc33 (by simp [hT0])
    · try simp only [Bool.or_eq_true, Bool.or_eq_false_iff, Bool.and_eq_true, Bool.and_eq_false_iff, decide_eq_true_eq, decide_eq_false_iff_not, Bool.not_eq_true', Bool.not_eq_false', Int.not_lt, Int.not_le, List.length_map] at hc33
      refine W.skip ?_
      refine W.heap (stH b S.1 id ((i, .lst 1 (S.2.1.map sE)) :: (o, .lst 1 (S.2.2.map sE)) :: hs)) (HLe.skip _ (HLe.skip _ (HLe.skip _ (HLe.skip _ (HLe.refl _))))) ?_
      refine W.reg ?_
      refine XOps.s rfl rfl rfl (Q.assign_nilsl rfl) ?_
      refine XOps.nil ?_
      refine W.seq ?_
      refine W.reg ?_
      refine XOps.s rfl rfl rfl (Q.move_ptr rfl) ?_
      refine XOps.s rfl rfl rfl (Q.call rfl Try.func12 go12 rfl (list_f b id S.1 _ hok.len)) ?_
      refine XOps.s rfl rfl rfl (Q.len_sl isl36 rfl) ?_
      refine XOps.s rfl rfl rfl (Q.move_d rfl) ?_
      refine XOps.nil ?_
      refine W.ghost 9 1 (by decide) rfl (by decide) (fun v => ?_)
      refine W.block ?_
      refine W.loop (ι := Nat × Nat) (fun q => [(4, .vs i 0 S.2.1.length 1), (5, .vs o 0 S.2.2.length 1), (9, .vs q.2 0 q.1 1), (35, .d (.sl 3 (S.1.l.map Lv.enc))), (36, .d (.int .i64 S.1.l.length)), (37, .d (.int .i64 (q.1 : Nat)))]) (fun q => (q.2, .lst 1 (((S.1.l.take q.1).map Lv.call).map sE)) :: stH b S.1 id ((i, .lst 1 (S.2.1.map sE)) :: (o, .lst 1 (S.2.2.map sE)) :: hs)) (fun q => q.1 ≤ S.1.l.length) (fun q => S.1.l.length - q.1) (0, v) ?_ ?_ ?_ ?_
      · exact Nat.zero_le _
      · exact ⟨by first | rfl | exact int_eq (by omega) | exact len_eq (by simp) | exact int_eq (by simp; done), by first | rfl | exact int_eq (by omega) | exact len_eq (by simp) | exact int_eq (by simp; done), by first | rfl | exact int_eq (by omega) | exact len_eq (by simp) | exact int_eq (by simp; done), by first | rfl | exact int_eq (by omega) | exact len_eq (by simp) | exact int_eq (by simp; done), by first | rfl | exact int_eq (by omega) | exact len_eq (by simp) | exact int_eq (by simp; done), by first | rfl | exact int_eq (by omega) | exact len_eq (by simp) | exact int_eq (by simp; done), trivial⟩
      · exact HLe.refl _
      · rintro ⟨k, v⟩ hk
        try dsimp only at hk ⊢
        refine W.reg ?_
        refine XOps.s rfl rfl rfl (Q.lss rfl rfl) ?_
        refine XOps.nil ?_
        refine W.seq ?_
        refine W.cond rfl (fun hc38 => ?_) (fun hc38 => ?_)
        · try simp only [Bool.or_eq_true, Bool.or_eq_false_iff, Bool.and_eq_true, Bool.and_eq_false_iff, decide_eq_true_eq, decide_eq_false_iff_not, Bool.not_eq_true', Bool.not_eq_false', Int.not_lt, Int.not_le, List.length_map] at hc38
          obtain ⟨x, hx⟩ : ∃ x, S.1.l[k]? = some x := ⟨_, List.getElem?_eq_getElem (by omega)⟩
          have htk2 : S.1.l.take (k + 1) = S.1.l.take k ++ [x] := by rw [List.take_add_one, hx]; rfl
          have hlk : (((S.1.l.take k).map Lv.call).map sE).length = k := by simp; omega
          refine W.skip ?_
          refine W.seq ?_
          refine W.block ?_
          refine W.reg ?_
          refine XOps.s rfl rfl rfl (Q.idx_sl sl36 (by decide) rfl rfl (by first | omega | (simp only [List.length_map]; omega)) (by first | exact map_at (by assumption) | exact map_at0 (by assumption) | assumption)) ?_
          refine XOps.s rfl rfl rfl (Q.ld_dpn ag39 rfl rfl) ?_
          (refine XOps.loud rfl (L.alloc tz39 rfl rfl) ?_; rintro _ _ ⟨b11, rfl, rfl⟩)
          refine XOps.loud rfl (L.storen (k := 0) ag39 rfl rfl rfl rfl rfl) ?_
          rintro _ _ ⟨rfl, rfl⟩
          refine XOps.nil ?_
          refine W.region ?_
          refine XOps.s rfl rfl rfl (Q.move_vs rfl) ?_
          refine XOps.s rfl rfl rfl (Q.fld_ptr fl39_0 rfl) ?_
          refine XOps.s rfl rfl rfl (Q.ld_ptr (k := 0) ag9 rfl rfl rfl) ?_
          refine XOps.s rfl rfl rfl (Q.bsl1 sl33 zr33 rfl zrd33 rfl rfl) ?_
          (refine XOps.loud rfl (L.app (k := 1) ap33 rfl rfl hlk.symm rfl (by rw [hlk]; simp; omega) rfl) ?_; rintro _ _ ⟨v45, rfl, rfl⟩)
          refine XOps.s rfl rfl rfl (Q.assign_vs rfl) ?_
          refine XOps.nil ?_
          refine W.region ?_
          refine XOps.s rfl rfl rfl (Q.add rfl rfl (wi64 (by first | omega | (dsimp only; omega) | (simp only [List.length_map]; omega)) (by first | omega | (dsimp only; omega) | (simp only [List.length_map]; omega)))) ?_
          refine XOps.s rfl rfl rfl (Q.move_d rfl) ?_
          refine XOps.nil ?_
          refine ⟨(k + 1, v45), ?_, ?_, ?_, ?_⟩
          · dsimp only; omega
          · dsimp only; omega
          · exact ⟨by first | rfl | exact int_eq (by omega) | exact len_eq (by simp) | exact int_eq (by simp; done), by first | rfl | exact int_eq (by omega) | exact len_eq (by simp) | exact int_eq (by simp; done), by (show AV.vs v45 0 ((((S.1.l.take k).map Lv.call).map sE).length + 1) 1 = AV.vs v45 0 (k + 1) 1; rw [hlk]), by first | rfl | exact int_eq (by omega) | exact len_eq (by simp) | exact int_eq (by simp; done), by first | rfl | exact int_eq (by omega) | exact len_eq (by simp) | exact int_eq (by simp; done), by exact int_eq (by dsimp only; omega), trivial⟩
          · exact HLe.cons' (by rw [htk2, List.map_append, List.map_append]; rfl) (HLe.skip _ (HLe.refl _))
        · try simp only [Bool.or_eq_true, Bool.or_eq_false_iff, Bool.and_eq_true, Bool.and_eq_false_iff, decide_eq_true_eq, decide_eq_false_iff_not, Bool.not_eq_true', Bool.not_eq_false', Int.not_lt, Int.not_le, List.length_map] at hc38
          obtain rfl : k = S.1.l.length := by omega
          rw [List.take_length]
          refine W.exit ?_
          refine W.freeze 9 0 rfl rfl (by simp) ?_
          refine W.freeze 4 2 rfl rfl (by simp) ?_
          refine W.freeze 5 2 rfl rfl (by simp) ?_
          refine W.reg ?_
          refine XOps.s rfl rfl rfl (Q.move_d rfl) ?_
          refine XOps.s rfl rfl rfl (Q.move_d rfl) ?_
          refine XOps.s rfl rfl rfl (Q.move_d rfl) ?_
          refine XOps.s rfl rfl rfl (Q.bsl sl53 (by decide) zr53 rfl zrd53 (by decide) rfl rfl) ?_
          refine XOps.s rfl rfl rfl (Q.call rfl Try.func15 go15 rfl (concat_c [S.2.2, S.1.l.map Lv.call] _ (by simp) (by rw [hfl]; omega))) ?_
          refine XOps.s rfl rfl rfl (Q.call rfl Try.func14 go14 rfl (equalS_c S.2.1 [S.2.2, S.1.l.map Lv.call].flatten _ (by omega))) ?_
          refine XOps.s rfl rfl rfl (Q.assign_d rfl) ?_
          refine XOps.nil ?_
          refine W.ret ?_
          refine ⟨_, _, rfl, HLe.refl _, bt ?_⟩
          rw [hfl]
          exact decide_eq_true rfl
end Go.Proofs.YtpdeopgmgeaglaaA
