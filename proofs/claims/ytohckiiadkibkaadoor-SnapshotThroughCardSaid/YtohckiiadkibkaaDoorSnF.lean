/- The changes between two states. -/
import Derived.Test.YtohckiiadkibkaaDoorBase
import Derived.Test.YtohckiiadkibkaaDoorSpec4
import Derived.Test.YtohckiiadkibkaaDoorSnB
import Derived.Test.YtohckiiadkibkaaDoorAbs29
set_option linter.unusedVariables false
set_option linter.unusedSimpArgs false
set_option linter.unnecessarySimpa false
namespace Go.Proofs.YtohckiiadkibkaaDoorA.FSnF
open Go
theorem ag9 : tAgg P 9 = some ((false, 1)) := by kernel_rfl
theorem ap33 : tApp P 33 = some ((5, 56)) := by kernel_rfl
theorem ar58 : tArr P 58 = some ((2, 1)) := by kernel_rfl
theorem are58 : tEl P 58 = some ((false, 1)) := by kernel_rfl
theorem fl48_0 : tFld P 48 0 = some (0) := by kernel_rfl
theorem fl48_1 : tFld P 48 1 = some (1) := by kernel_rfl
theorem go15 : callGo Go.Proofs.Tryd.f15 = true := by kernel_rfl
theorem isl22 : isSl P 22 = true := by kernel_rfl
theorem pl40 : tPl P 40 = some ([(0, 1), (1, 1), (2, 1), (3, 1), (4, 1)]) := by kernel_rfl
theorem sl22 : tSl P 22 = some (2) := by kernel_rfl
theorem sl33 : tSl P 33 = some (5) := by kernel_rfl
theorem tz40 : tZero P 40 = some ([.string ⟨#[]⟩, .bool false, .bool false, .string ⟨#[]⟩, .string ⟨#[]⟩]) := by kernel_rfl
theorem tz58 : tZero P 58 = some ([.slice none 0 0, .slice none 0 0]) := by kernel_rfl
theorem tzd40 : cellsD [.string ⟨#[]⟩, .bool false, .bool false, .string ⟨#[]⟩, .string ⟨#[]⟩] = some ([.str ⟨#[]⟩, .bool false, .bool false, .str ⟨#[]⟩, .str ⟨#[]⟩]) := rfl
theorem tzd58 : cellsD [.slice none 0 0, .slice none 0 0] = some ([.sl 0 [], .sl 0 []]) := rfl
theorem zr33 : tZrow P 33 = some ([.string ⟨#[]⟩, .bool false, .bool false, .string ⟨#[]⟩, .string ⟨#[]⟩]) := by kernel_rfl
theorem zrd33 : cellsD [.string ⟨#[]⟩, .bool false, .bool false, .string ⟨#[]⟩, .string ⟨#[]⟩] = some ([.str ⟨#[]⟩, .bool false, .bool false, .str ⟨#[]⟩, .str ⟨#[]⟩]) := rfl
end Go.Proofs.YtohckiiadkibkaaDoorA.FSnF
namespace Go.Proofs.YtohckiiadkibkaaDoorA
open Go FSnF
attribute [local irreducible] XOps Quiet Loud W AC GQ DT
theorem diff_a {a b : List SR} {x : SR} (hx : a = x :: a.tail) (h : b = [] ∨ ∃ y, b = y :: b.tail ∧ cmpB x.key y.key < 0) : diffR a b = ⟨x.key, true, false, x.val, ⟨#[]⟩⟩ :: diffR a.tail b := by
  rcases h with rfl | ⟨y, hy, h⟩
  · conv => lhs; rw [hx]
    rw [diffR]
  · conv => lhs; rw [hx, hy]
    rw [diffR, if_pos h, ← hy]
theorem diff_b {a b : List SR} {y : SR} (hy : b = y :: b.tail) (h : a = [] ∨ ∃ x, a = x :: a.tail ∧ ¬ cmpB x.key y.key < 0 ∧ cmpB y.key x.key < 0) : diffR a b = ⟨y.key, false, true, ⟨#[]⟩, y.val⟩ :: diffR a b.tail := by
  rcases h with rfl | ⟨x, hx, h1, h⟩
  · conv => lhs; rw [hy]
    rw [diffR]
  · conv => lhs; rw [hx, hy]
    rw [diffR, if_neg h1, if_pos h, ← hx]
theorem diff_c {a b : List SR} {x y : SR} (hx : a = x :: a.tail) (hy : b = y :: b.tail) (h1 : ¬ cmpB x.key y.key < 0) (h2 : ¬ cmpB y.key x.key < 0) :
    diffR a b = if seq x.val y.val = false then ⟨x.key, true, true, x.val, y.val⟩ :: diffR a.tail b.tail else diffR a.tail b.tail := by
  conv => lhs; rw [hx, hy]
  rw [diffR, if_neg h1, if_neg h2]
theorem hd_tl (l : List SR) : ∃ x : SR, 0 < l.length → l = x :: l.tail ∧ (l.map SR.enc)[(0 : Int).toNat]? = some x.enc := by
  cases l with
  | nil => exact ⟨⟨⟨#[]⟩, ⟨#[]⟩⟩, fun h => absurd h (by simp)⟩
  | cons x l => exact ⟨x, fun _ => ⟨rfl, rfl⟩⟩
theorem cut_tl (l : List SR) (n : Int) (h : n = (l.map SR.enc).length) : (l.take n.toNat).drop (1 : Int).toNat = l.tail := by
  subst h; simp

set_option maxHeartbeats 4000000 in
set_option maxRecDepth 100000 in
theorem diff_c0 (a b : List SR) (hs : Hp) (hL : a.length ≤ 4611686018427387904) (hL2 : b.length ≤ 4611686018427387904) (hz : szR a) (hz2 : szR b) : AC P 14 [.d (.sl 2 (a.map SR.enc)), .d (.sl 2 (b.map SR.enc))] hs (fun r h => r = .tup [.d (.sl 5 ((diffL a b).map SC.enc)), .d (.int .i64 (diffE a b))] ∧ h = hs) := by
  refine AC.of 123 Tryd.func14 rfl rfl rfl ?_
  refine W.reg ?_
  refine XOps.s rfl rfl rfl (Q.assign_nilsl rfl) ?_
  refine XOps.s rfl rfl rfl (Q.assign_d rfl) ?_
  refine XOps.nil ?_
  refine W.seq ?_
  refine W.reg ?_
  refine XOps.s rfl rfl rfl (Q.move_d rfl) ?_
  refine XOps.s rfl rfl rfl (Q.move_d rfl) ?_
  refine XOps.s rfl rfl rfl (Q.buildArr (l := [.sl 2 (a.map SR.enc), .sl 2 (b.map SR.enc)]) ar58 tz58 tzd58 rfl) ?_
  refine XOps.s rfl rfl rfl (Q.move_d rfl) ?_
  refine XOps.nil ?_
  refine W.block ?_
  refine W.loop (ι := Nat) (fun z => [(0, .d (.sl 2 (a.map SR.enc))), (1, .d (.sl 2 (b.map SR.enc))), (12, .d (.agg [.sl 2 (a.map SR.enc), .sl 2 (b.map SR.enc)])), (13, .d (.int .i64 (z : Nat)))]) (fun z => hs) (fun z => z ≤ 2 ∧ (0 < z → checkL a = 0) ∧ (1 < z → checkL b = 0)) (fun z => 2 - z) 0 ?_ ?_ ?_ ?_
  · exact ⟨by omega, fun h => absurd h (by omega), fun h => absurd h (by omega)⟩
  · exact ⟨by first | rfl | exact int_eq (by omega) | exact len_eq (by simp) | exact int_eq (by simp; done), by first | rfl | exact int_eq (by omega) | exact len_eq (by simp) | exact int_eq (by simp; done), by first | rfl | exact int_eq (by omega) | exact len_eq (by simp) | exact int_eq (by simp; done), by first | rfl | exact int_eq (by omega) | exact len_eq (by simp) | exact int_eq (by simp; done), trivial⟩
  · repeat (first | exact HLe.refl _ | refine HLe.cons' (by first | rfl | (simp; done)) ?_ | refine HLe.pick 1 rfl (by first | rfl | (simp; done)) ?_ | refine HLe.pick 2 rfl (by first | rfl | (simp; done)) ?_ | refine HLe.pick 3 rfl (by first | rfl | (simp; done)) ?_ | refine HLe.pick 4 rfl (by first | rfl | (simp; done)) ?_ | refine HLe.pick 5 rfl (by first | rfl | (simp; done)) ?_ | refine HLe.skip _ ?_)
  · rintro z ⟨hz2, hI1, hI2⟩
    try dsimp only
    refine W.reg ?_
    refine XOps.s rfl rfl rfl (Q.lss rfl rfl) ?_
    refine XOps.nil ?_
    refine W.seq ?_
    refine W.cond rfl (fun hc14 => ?_) (fun hc14 => ?_)
    · try simp only [Bool.or_eq_true, Bool.or_eq_false_iff, Bool.and_eq_true, Bool.and_eq_false_iff, decide_eq_true_eq, decide_eq_false_iff_not, Bool.not_eq_true', Bool.not_eq_false', Int.not_lt, Int.not_le, List.length_map] at hc14
      obtain ⟨lz, hlz⟩ : ∃ lz : Nat → List SR, lz 0 = a ∧ lz 1 = b := ⟨fun z => if z = 0 then a else b, rfl, rfl⟩
      have hz01 : z = 0 ∨ z = 1 := by omega
      have hrow : ([D.sl 2 (a.map SR.enc), D.sl 2 (b.map SR.enc)] : List D)[((z : Nat) : Int).toNat]? = some (.sl 2 ((lz z).map SR.enc)) := by
        rcases hz01 with rfl | rfl
        · rw [hlz.1]; rfl
        · rw [hlz.2]; rfl
      have hzl : (lz z).length ≤ 4611686018427387904 := by rcases hz01 with rfl | rfl <;> simp only [hlz] <;> omega
      have hzz : szR (lz z) := by rcases hz01 with rfl | rfl <;> simp only [hlz] <;> assumption
      refine W.skip ?_
      refine W.seq ?_
      refine W.block ?_
      refine W.reg ?_
      refine XOps.s rfl rfl rfl (Q.idx_agg1 ar58 are58 rfl rfl (by omega) (by omega) hrow) ?_
      refine XOps.s rfl rfl rfl (Q.assign_d rfl) ?_
      refine XOps.nil ?_
      refine W.reg ?_
      refine XOps.s rfl rfl rfl (Q.move_d rfl) ?_
      refine XOps.s rfl rfl rfl (Q.call rfl Tryd.func15 go15 rfl (check_c (lz z) _ hzl hzz)) ?_
      refine XOps.s rfl rfl rfl (Q.assign_d rfl) ?_
      refine XOps.nil ?_
      refine W.reg ?_
      refine XOps.s rfl rfl rfl (Q.move_d rfl) ?_
      refine XOps.s rfl rfl rfl (Q.neq rfl rfl) ?_
      refine XOps.nil ?_
      refine W.cond rfl (fun hc19 => ?_) (fun hc19 => ?_)
      · try simp only [Bool.or_eq_true, Bool.or_eq_false_iff, Bool.and_eq_true, Bool.and_eq_false_iff, decide_eq_true_eq, decide_eq_false_iff_not, Bool.not_eq_true', Bool.not_eq_false', Int.not_lt, Int.not_le, List.length_map] at hc19
        have hE : diffE a b = checkL (lz z) := by
          rcases hz01 with rfl | rfl
          · rw [hlz.1] at hc19 ⊢; exact if_pos hc19
          · rw [hlz.2]; exact if_neg (by have := hI1 (by omega); omega)
        have hV : diffL a b = [] := if_pos (by omega)
        rw [hE, hV]
        refine W.reg ?_
        refine XOps.s rfl rfl rfl (Q.move_d rfl) ?_
        refine XOps.s rfl rfl rfl (Q.assign_nilsl rfl) ?_
        refine XOps.s rfl rfl rfl (Q.assign_d rfl) ?_
        refine XOps.nil ?_
        refine W.nild 4 5 rfl ?_
        refine W.ret ?_
        refine ⟨_, hs, rfl, by repeat (first | exact HLe.refl _ | refine HLe.skip _ ?_), ?_, rfl⟩
        rfl
      · try simp only [Bool.or_eq_true, Bool.or_eq_false_iff, Bool.and_eq_true, Bool.and_eq_false_iff, decide_eq_true_eq, decide_eq_false_iff_not, Bool.not_eq_true', Bool.not_eq_false', Int.not_lt, Int.not_le, List.length_map] at hc19
        have h0 : checkL (lz z) = 0 := by omega
        refine W.skip ?_
        refine W.region ?_
        refine XOps.s rfl rfl rfl (Q.add rfl rfl (wi64 (by first | omega | (dsimp only; omega) | (simp only [List.length_map]; omega)) (by first | omega | (dsimp only; omega) | (simp only [List.length_map]; omega)))) ?_
        refine XOps.s rfl rfl rfl (Q.move_d rfl) ?_
        refine XOps.nil ?_
        refine ⟨z + 1, ?_, ?_, ?_, ?_⟩
        · refine ⟨by omega, fun _ => ?_, fun h => ?_⟩
          · rcases hz01 with rfl | rfl
            · rw [hlz.1] at h0; exact h0
            · exact hI1 (by omega)
          · rcases hz01 with rfl | rfl
            · omega
            · rw [hlz.2] at h0; exact h0
        · omega
        · exact ⟨by first | rfl | exact int_eq (by omega) | exact len_eq (by simp) | exact int_eq (by simp; done), by first | rfl | exact int_eq (by omega) | exact len_eq (by simp) | exact int_eq (by simp; done), by first | rfl | exact int_eq (by omega) | exact len_eq (by simp) | exact int_eq (by simp; done), by first | rfl | exact int_eq (by omega) | exact len_eq (by simp) | exact int_eq (by simp; done), trivial⟩
        · repeat (first | exact HLe.refl _ | refine HLe.cons' (by first | rfl | (simp; done)) ?_ | refine HLe.pick 1 rfl (by first | rfl | (simp; done)) ?_ | refine HLe.pick 2 rfl (by first | rfl | (simp; done)) ?_ | refine HLe.pick 3 rfl (by first | rfl | (simp; done)) ?_ | refine HLe.pick 4 rfl (by first | rfl | (simp; done)) ?_ | refine HLe.pick 5 rfl (by first | rfl | (simp; done)) ?_ | refine HLe.skip _ ?_)
    · try simp only [Bool.or_eq_true, Bool.or_eq_false_iff, Bool.and_eq_true, Bool.and_eq_false_iff, decide_eq_true_eq, decide_eq_false_iff_not, Bool.not_eq_true', Bool.not_eq_false', Int.not_lt, Int.not_le, List.length_map] at hc14
      have hca : checkL a = 0 := hI1 (by omega)
      have hcb : checkL b = 0 := hI2 (by omega)
      have hE : diffE a b = 0 := by unfold diffE; rw [if_neg (by omega)]; exact hcb
      have hV : diffL a b = diffR a b := if_neg (by omega)
      rw [hE, hV]
      obtain ⟨_, hla⟩ := checkL_zero.1 hca
      obtain ⟨_, hlb⟩ := checkL_zero.1 hcb
      refine W.exit ?_
      refine W.reg ?_
      refine XOps.s rfl rfl rfl (Q.assign_nilsl rfl) ?_
      refine XOps.nil ?_
      refine W.ghost 9 5 (by decide) rfl rfl (fun v => ?_)
      refine W.seq ?_
      refine W.block ?_
      refine W.loop (ι := List SR × List SR × Nat × List SC) (fun p => [(0, .d (.sl 2 (p.1.map SR.enc))), (1, .d (.sl 2 (p.2.1.map SR.enc))), (9, .vs p.2.2.1 0 p.2.2.2.length 5)]) (fun p => (p.2.2.1, .lst 5 (p.2.2.2.map SC.enc)) :: hs) (fun p => p.2.2.2 ++ diffR p.1 p.2.1 = diffR a b ∧ p.2.2.2.length + p.1.length + p.2.1.length ≤ 128) (fun p => p.1.length + p.2.1.length) (a, b, v, []) ?_ ?_ ?_ ?_
      · exact ⟨rfl, by simp; omega⟩
      · exact ⟨by first | rfl | exact int_eq (by omega) | exact len_eq (by simp) | exact int_eq (by simp; done), by first | rfl | exact int_eq (by omega) | exact len_eq (by simp) | exact int_eq (by simp; done), by first | rfl | exact int_eq (by omega) | exact len_eq (by simp) | exact int_eq (by simp; done), trivial⟩
      · repeat (first | exact HLe.refl _ | refine HLe.cons' (by first | rfl | (simp; done)) ?_ | refine HLe.pick 1 rfl (by first | rfl | (simp; done)) ?_ | refine HLe.pick 2 rfl (by first | rfl | (simp; done)) ?_ | refine HLe.pick 3 rfl (by first | rfl | (simp; done)) ?_ | refine HLe.pick 4 rfl (by first | rfl | (simp; done)) ?_ | refine HLe.pick 5 rfl (by first | rfl | (simp; done)) ?_ | refine HLe.skip _ ?_)
      · rintro ⟨a2, b2, v, out⟩ ⟨hI, hn⟩
        dsimp only at hI hn ⊢
        obtain ⟨x, hxa⟩ := hd_tl a2
        obtain ⟨y, hya⟩ := hd_tl b2
        refine W.seq ?_
        refine W.reg ?_
        refine XOps.s rfl rfl rfl (Q.move_d rfl) ?_
        refine XOps.s rfl rfl rfl (Q.len_sl isl22 rfl) ?_
        refine XOps.s rfl rfl rfl (Q.gtr rfl rfl) ?_
        refine XOps.s rfl rfl rfl (Q.move_d rfl) ?_
        refine XOps.gs rfl rfl rfl rfl rfl rfl rfl (fun hg => Q.move_d rfl) ?_
        refine XOps.gs rfl rfl rfl rfl rfl rfl rfl (fun hg => Quiet.open 26 hg rfl (Q.len_sl isl22 rfl)) ?_
        refine XOps.gs rfl rfl rfl rfl rfl rfl rfl (fun hg => Quiet.open 27 hg rfl (Q.gtr rfl rfl)) ?_
        refine XOps.s rfl rfl rfl (Q.pick_or rfl rfl rfl (fun h => by first | (rw [h]; rfl) | (rw [hg, h]; rfl) | (simp [h, hg]; done))) ?_
        refine XOps.nil ?_
        refine W.cond rfl (fun hc29 => ?_) (fun hc29 => ?_)
        · try simp only [Bool.or_eq_true, Bool.or_eq_false_iff, Bool.and_eq_true, Bool.and_eq_false_iff, decide_eq_true_eq, decide_eq_false_iff_not, Bool.not_eq_true', Bool.not_eq_false', Int.not_lt, Int.not_le, List.length_map] at hc29
          have h29 : 0 < a2.length ∨ 0 < b2.length := by first | omega | (simpa using hc29)
          refine W.skip ?_
          refine W.block ?_
          refine W.block ?_
          refine W.drawreg 20 follows (by kernel_rfl) ?_
          refine Chain.cons _ (GQ.q rfl (Q.move_d rfl)) rfl ?_
          refine Chain.cons _ (GQ.q rfl (Q.len_sl isl22 rfl)) rfl ?_
          refine Chain.cons _ (GQ.q rfl (Q.eql rfl rfl)) rfl ?_
          refine Chain.cons _ (GQ.q rfl (Q.move_d rfl)) rfl ?_
          refine Chain.cons _ (GQ.g rfl rfl rfl rfl rfl (fun hg => Q.move_d rfl)) rfl ?_
          refine Chain.cons _ (GQ.g rfl rfl rfl rfl rfl (fun hg => Quiet.open 64 hg rfl (Q.len_sl isl22 rfl))) rfl ?_
          refine Chain.cons _ (GQ.g rfl rfl rfl rfl rfl (fun hg => Quiet.open 65 hg rfl (Q.gtr rfl rfl))) rfl ?_
          refine Chain.cons _ (GQ.g rfl rfl rfl rfl rfl (fun hg => Quiet.open 66 hg rfl (Q.move_d rfl))) rfl ?_
          refine Chain.cons _ (GQ.gw rfl rfl rfl rfl rfl (fun hg => Q.move_d rfl)) rfl ?_
          refine Chain.cons _ (GQ.gw rfl rfl rfl rfl rfl (fun hg => Quiet.open 68 hg rfl (Q.idx_sl (r := x.enc) sl22 (by decide) rfl rfl (by have h := hg; first | omega | (simp only [Bool.and_eq_true, Bool.or_eq_true, Bool.or_eq_false_iff, Bool.and_eq_false_iff, beq_iff_eq, beq_eq_false_iff_ne, Bool.not_eq_true', Bool.not_eq_false', decide_eq_true_eq, decide_eq_false_iff_not, List.length_map, Int.natCast_eq_zero] at  h; first | omega | (have := h.1; omega) | (have := h.2; omega))) (hxa (by have h := hg; first | omega | (simp only [Bool.and_eq_true, Bool.or_eq_true, Bool.or_eq_false_iff, Bool.and_eq_false_iff, beq_iff_eq, beq_eq_false_iff_ne, Bool.not_eq_true', Bool.not_eq_false', decide_eq_true_eq, decide_eq_false_iff_not, List.length_map, Int.natCast_eq_zero] at  h; first | omega | (have := h.1; omega) | (have := h.2; omega)))).2))) rfl ?_
          refine Chain.cons _ (GQ.gw rfl rfl rfl rfl rfl (fun hg => Quiet.open 69 hg rfl (Q.fld_dp fl48_0 rfl))) rfl ?_
          refine Chain.cons _ (GQ.gw rfl rfl rfl rfl rfl (fun hg => Quiet.open 70 hg rfl (Q.ld_dp ag9 rfl rfl))) rfl ?_
          refine Chain.cons _ (GQ.gw rfl rfl rfl rfl rfl (fun hg => Q.move_d rfl)) rfl ?_
          refine Chain.cons _ (GQ.gw rfl rfl rfl rfl rfl (fun hg => Quiet.open 72 hg rfl (Q.idx_sl (r := y.enc) sl22 (by decide) rfl rfl (by have h := hg; first | omega | (simp only [Bool.and_eq_true, Bool.or_eq_true, Bool.or_eq_false_iff, Bool.and_eq_false_iff, beq_iff_eq, beq_eq_false_iff_ne, Bool.not_eq_true', Bool.not_eq_false', decide_eq_true_eq, decide_eq_false_iff_not, List.length_map, Int.natCast_eq_zero] at  h; first | omega | (have := h.1; omega) | (have := h.2; omega))) (hya (by have h := hg; first | omega | (simp only [Bool.and_eq_true, Bool.or_eq_true, Bool.or_eq_false_iff, Bool.and_eq_false_iff, beq_iff_eq, beq_eq_false_iff_ne, Bool.not_eq_true', Bool.not_eq_false', decide_eq_true_eq, decide_eq_false_iff_not, List.length_map, Int.natCast_eq_zero] at  h; first | omega | (have := h.1; omega) | (have := h.2; omega)))).2))) rfl ?_
          refine Chain.cons _ (GQ.gw rfl rfl rfl rfl rfl (fun hg => Quiet.open 73 hg rfl (Q.fld_dp fl48_0 rfl))) rfl ?_
          refine Chain.cons _ (GQ.gw rfl rfl rfl rfl rfl (fun hg => Quiet.open 74 hg rfl (Q.ld_dp ag9 rfl rfl))) rfl ?_
          refine Chain.cons _ (GQ.gw rfl rfl rfl rfl rfl (fun hg => Quiet.open 71 hg rfl (Quiet.open 75 hg rfl (Q.lss_str rfl rfl)))) rfl ?_
          refine Chain.cons _ (GQ.g rfl rfl rfl rfl rfl (fun hg => Quiet.open 67 hg rfl (Q.pick_and rfl rfl rfl (fun h => by first | (rw [h]; rfl) | (rw [hg, h]; rfl) | (simp [h, hg]; done))))) rfl ?_
          refine Chain.cons _ (GQ.q rfl (Q.pick_or rfl rfl rfl (fun h => by first | (rw [h]; rfl) | (rw [hg, h]; rfl) | (simp [h, hg]; done)))) rfl ?_
          refine Chain.cons _ (GQ.q rfl (Q.assign_d rfl)) rfl ?_
          refine Chain.nil ?_
          refine XOps.nil ?_
          refine W.cond rfl (fun hc59 => ?_) (fun hc59 => ?_)
          · try simp only [Bool.or_eq_true, Bool.or_eq_false_iff, Bool.and_eq_true, Bool.and_eq_false_iff, decide_eq_true_eq, decide_eq_false_iff_not, Bool.not_eq_true', Bool.not_eq_false', Int.not_lt, Int.not_le, List.length_map] at hc59
            rw [less_cmpB] at hc59
            have ha0 : 0 < a2.length := by
              rcases hc59 with h | h
              · omega
              · have := h.1; omega
            have hst := diff_a (b := b2) (hxa ha0).1 (by
              rcases Nat.eq_zero_or_pos b2.length with h | h
              · exact .inl (List.eq_nil_of_length_eq_zero h)
              · exact .inr ⟨y, (hya h).1, by
                  rcases hc59 with h2 | h2
                  · omega
                  · exact of_decide_eq_true h2.2⟩)
            refine W.drawTreg 12 [11] follows (by kernel_rfl) (by decide) ?_
            apply DT.moreE [.new, .new, .new, .new, .new, .new, .new, .new, .new, .new, .new, .now] (by kernel_rfl)
            refine PC.new _ rfl (GQ.q rfl (Q.move_vs rfl)) rfl ?_
            refine PC.new _ rfl (GQ.q rfl (Q.move_d rfl)) rfl ?_
            refine PC.new _ rfl (GQ.q rfl (Q.idx_sl (r := x.enc) sl22 (by decide) rfl rfl (by first | omega | (simp only [List.length_map]; omega)) (hxa (by omega)).2)) rfl ?_
            refine PC.new _ rfl (GQ.q rfl (Q.fld_dp fl48_0 rfl)) rfl ?_
            refine PC.new _ rfl (GQ.q rfl (Q.ld_dp ag9 rfl rfl)) rfl ?_
            refine PC.new _ rfl (GQ.q rfl (Q.move_d rfl)) rfl ?_
            refine PC.new _ rfl (GQ.q rfl (Q.idx_sl (r := x.enc) sl22 (by decide) rfl rfl (by first | omega | (simp only [List.length_map]; omega)) (hxa (by omega)).2)) rfl ?_
            refine PC.new _ rfl (GQ.q rfl (Q.fld_dp fl48_1 rfl)) rfl ?_
            refine PC.new _ rfl (GQ.q rfl (Q.ld_dp ag9 rfl rfl)) rfl ?_
            refine PC.new _ rfl (GQ.q rfl (Q.build pl40 tz40 tzd40 rfl)) rfl ?_
            refine PC.new _ rfl (GQ.q rfl (Q.bsl1n sl33 (by decide) zr33 rfl zrd33 rfl rfl (by decide))) rfl ?_
            refine PC.now rfl rfl (fun τ => Loud.to (L.app (k := 0) ap33 rfl rfl (by first | rfl | (simp; done)) rfl (by simp; omega) rfl) (fun _ _ ⟨v, h1, h2⟩ => ⟨_, h1, v, rfl, h2⟩)) ?_
            refine PC.nil ?_
            rintro _ _ ⟨v90, rfl, rfl⟩
            refine DT.last [.did, .did, .did, .did, .did, .did, .did, .did, .did, .did, .did, .did] (by kernel_rfl) ?_
            refine PC.did rfl ?_
            refine PC.did rfl ?_
            refine PC.did rfl ?_
            refine PC.did rfl ?_
            refine PC.did rfl ?_
            refine PC.did rfl ?_
            refine PC.did rfl ?_
            refine PC.did rfl ?_
            refine PC.did rfl ?_
            refine PC.did rfl ?_
            refine PC.did rfl ?_
            refine PC.did rfl ?_
            refine PC.nil ?_
            refine XOps.s rfl rfl rfl (Q.assign_vs rfl) ?_
            refine XOps.nil ?_
            refine W.region ?_
            refine XOps.s rfl rfl rfl (Q.move_d rfl) ?_
            refine XOps.s rfl rfl rfl (Q.cut_slm sl22 rfl rfl rfl (by first | omega | (simp only [List.length_map]; omega)) (by first | omega | (simp only [List.length_map]; omega)) (by first | omega | (simp only [List.length_map]; omega))) ?_
            refine XOps.s rfl rfl rfl (Q.assign_d rfl) ?_
            refine XOps.nil ?_
            refine ⟨(a2.tail, b2, v90, out ++ [⟨x.key, true, false, x.val, ⟨#[]⟩⟩]), ?_, ?_, ?_, ?_⟩
            · exact ⟨by dsimp only; rw [← hI, hst]; first | done | simp, by simp; omega⟩
            · show _ + _ < _ + _; simp; omega
            · exact ⟨by first | rfl | exact congrArg (fun z => AV.d (.sl 2 (z.map SR.enc))) (cut_tl _ _ rfl), by first | rfl | exact congrArg (fun z => AV.d (.sl 2 (z.map SR.enc))) (cut_tl _ _ rfl), by first | rfl | exact congrArg (fun z => AV.vs _ 0 z 5) (by simp), trivial⟩
            · exact HLe.cons' (congrArg (HO.lst 5) (by rw [List.map_append]; rfl)) (HLe.refl _)
          · try simp only [Bool.or_eq_true, Bool.or_eq_false_iff, Bool.and_eq_true, Bool.and_eq_false_iff, decide_eq_true_eq, decide_eq_false_iff_not, Bool.not_eq_true', Bool.not_eq_false', Int.not_lt, Int.not_le, List.length_map] at hc59
            rw [less_cmpB] at hc59
            obtain ⟨hc59a, hc59b⟩ := hc59
            have hb0 : 0 < b2.length := by omega
            refine W.drawreg 15 follows (by kernel_rfl) ?_
            refine Chain.cons _ (GQ.q rfl (Q.move_d rfl)) rfl ?_
            refine Chain.cons _ (GQ.q rfl (Q.len_sl isl22 rfl)) rfl ?_
            refine Chain.cons _ (GQ.q rfl (Q.eql rfl rfl)) rfl ?_
            refine Chain.cons _ (GQ.q rfl (Q.move_d rfl)) rfl ?_
            refine Chain.cons _ (GQ.g rfl rfl rfl rfl rfl (fun hg => Q.move_d rfl)) rfl ?_
            refine Chain.cons _ (GQ.g rfl rfl rfl rfl rfl (fun hg => Quiet.open 98 hg rfl (Q.idx_sl (r := y.enc) sl22 (by decide) rfl rfl (by have h := hg; first | omega | (simp only [Bool.and_eq_true, Bool.or_eq_true, Bool.or_eq_false_iff, Bool.and_eq_false_iff, beq_iff_eq, beq_eq_false_iff_ne, Bool.not_eq_true', Bool.not_eq_false', decide_eq_true_eq, decide_eq_false_iff_not, List.length_map, Int.natCast_eq_zero] at  h; first | omega | (have := h.1; omega) | (have := h.2; omega))) (hya (by have h := hg; first | omega | (simp only [Bool.and_eq_true, Bool.or_eq_true, Bool.or_eq_false_iff, Bool.and_eq_false_iff, beq_iff_eq, beq_eq_false_iff_ne, Bool.not_eq_true', Bool.not_eq_false', decide_eq_true_eq, decide_eq_false_iff_not, List.length_map, Int.natCast_eq_zero] at  h; first | omega | (have := h.1; omega) | (have := h.2; omega)))).2))) rfl ?_
            refine Chain.cons _ (GQ.g rfl rfl rfl rfl rfl (fun hg => Quiet.open 99 hg rfl (Q.fld_dp fl48_0 rfl))) rfl ?_
            refine Chain.cons _ (GQ.g rfl rfl rfl rfl rfl (fun hg => Quiet.open 100 hg rfl (Q.ld_dp ag9 rfl rfl))) rfl ?_
            refine Chain.cons _ (GQ.g rfl rfl rfl rfl rfl (fun hg => Q.move_d rfl)) rfl ?_
            refine Chain.cons _ (GQ.g rfl rfl rfl rfl rfl (fun hg => Quiet.open 102 hg rfl (Q.idx_sl (r := x.enc) sl22 (by decide) rfl rfl (by have h := hg; first | omega | (simp only [Bool.and_eq_true, Bool.or_eq_true, Bool.or_eq_false_iff, Bool.and_eq_false_iff, beq_iff_eq, beq_eq_false_iff_ne, Bool.not_eq_true', Bool.not_eq_false', decide_eq_true_eq, decide_eq_false_iff_not, List.length_map, Int.natCast_eq_zero] at  h; first | omega | (have := h.1; omega) | (have := h.2; omega))) (hxa (by have h := hg; first | omega | (simp only [Bool.and_eq_true, Bool.or_eq_true, Bool.or_eq_false_iff, Bool.and_eq_false_iff, beq_iff_eq, beq_eq_false_iff_ne, Bool.not_eq_true', Bool.not_eq_false', decide_eq_true_eq, decide_eq_false_iff_not, List.length_map, Int.natCast_eq_zero] at  h; first | omega | (have := h.1; omega) | (have := h.2; omega)))).2))) rfl ?_
            refine Chain.cons _ (GQ.g rfl rfl rfl rfl rfl (fun hg => Quiet.open 103 hg rfl (Q.fld_dp fl48_0 rfl))) rfl ?_
            refine Chain.cons _ (GQ.g rfl rfl rfl rfl rfl (fun hg => Quiet.open 104 hg rfl (Q.ld_dp ag9 rfl rfl))) rfl ?_
            refine Chain.cons _ (GQ.g rfl rfl rfl rfl rfl (fun hg => Quiet.open 101 hg rfl (Quiet.open 105 hg rfl (Q.lss_str rfl rfl)))) rfl ?_
            refine Chain.cons _ (GQ.q rfl (Q.pick_or rfl rfl rfl (fun h => by first | (rw [h]; rfl) | (rw [hg, h]; rfl) | (simp [h, hg]; done)))) rfl ?_
            refine Chain.cons _ (GQ.q rfl (Q.assign_d rfl)) rfl ?_
            refine Chain.nil ?_
            refine XOps.nil ?_
            refine W.cond rfl (fun hc93 => ?_) (fun hc93 => ?_)
            · try simp only [Bool.or_eq_true, Bool.or_eq_false_iff, Bool.and_eq_true, Bool.and_eq_false_iff, decide_eq_true_eq, decide_eq_false_iff_not, Bool.not_eq_true', Bool.not_eq_false', Int.not_lt, Int.not_le, List.length_map] at hc93
              rw [less_cmpB] at hc93
              have hst := diff_b (a := a2) (hya hb0).1 (by
                rcases Nat.eq_zero_or_pos a2.length with h | h
                · exact .inl (List.eq_nil_of_length_eq_zero h)
                · refine .inr ⟨x, (hxa h).1, ?_, ?_⟩
                  · rcases hc59b with h2 | h2
                    · omega
                    · exact of_decide_eq_false h2
                  · rcases hc93 with h2 | h2
                    · omega
                    · exact of_decide_eq_true h2)
              refine W.drawTreg 12 [11] follows (by kernel_rfl) (by decide) ?_
              apply DT.moreE [.new, .new, .new, .new, .new, .new, .new, .new, .new, .new, .new, .now] (by kernel_rfl)
              refine PC.new _ rfl (GQ.q rfl (Q.move_vs rfl)) rfl ?_
              refine PC.new _ rfl (GQ.q rfl (Q.move_d rfl)) rfl ?_
              refine PC.new _ rfl (GQ.q rfl (Q.idx_sl (r := y.enc) sl22 (by decide) rfl rfl (by first | omega | (simp only [List.length_map]; omega)) (hya (by omega)).2)) rfl ?_
              refine PC.new _ rfl (GQ.q rfl (Q.fld_dp fl48_0 rfl)) rfl ?_
              refine PC.new _ rfl (GQ.q rfl (Q.ld_dp ag9 rfl rfl)) rfl ?_
              refine PC.new _ rfl (GQ.q rfl (Q.move_d rfl)) rfl ?_
              refine PC.new _ rfl (GQ.q rfl (Q.idx_sl (r := y.enc) sl22 (by decide) rfl rfl (by first | omega | (simp only [List.length_map]; omega)) (hya (by omega)).2)) rfl ?_
              refine PC.new _ rfl (GQ.q rfl (Q.fld_dp fl48_1 rfl)) rfl ?_
              refine PC.new _ rfl (GQ.q rfl (Q.ld_dp ag9 rfl rfl)) rfl ?_
              refine PC.new _ rfl (GQ.q rfl (Q.build pl40 tz40 tzd40 rfl)) rfl ?_
              refine PC.new _ rfl (GQ.q rfl (Q.bsl1n sl33 (by decide) zr33 rfl zrd33 rfl rfl (by decide))) rfl ?_
              refine PC.now rfl rfl (fun τ => Loud.to (L.app (k := 0) ap33 rfl rfl (by first | rfl | (simp; done)) rfl (by simp; omega) rfl) (fun _ _ ⟨v, h1, h2⟩ => ⟨_, h1, v, rfl, h2⟩)) ?_
              refine PC.nil ?_
              rintro _ _ ⟨v119, rfl, rfl⟩
              refine DT.last [.did, .did, .did, .did, .did, .did, .did, .did, .did, .did, .did, .did] (by kernel_rfl) ?_
              refine PC.did rfl ?_
              refine PC.did rfl ?_
              refine PC.did rfl ?_
              refine PC.did rfl ?_
              refine PC.did rfl ?_
              refine PC.did rfl ?_
              refine PC.did rfl ?_
              refine PC.did rfl ?_
              refine PC.did rfl ?_
              refine PC.did rfl ?_
              refine PC.did rfl ?_
              refine PC.did rfl ?_
              refine PC.nil ?_
              refine XOps.s rfl rfl rfl (Q.assign_vs rfl) ?_
              refine XOps.nil ?_
              refine W.region ?_
              refine XOps.s rfl rfl rfl (Q.move_d rfl) ?_
              refine XOps.s rfl rfl rfl (Q.cut_slm sl22 rfl rfl rfl (by first | omega | (simp only [List.length_map]; omega)) (by first | omega | (simp only [List.length_map]; omega)) (by first | omega | (simp only [List.length_map]; omega))) ?_
              refine XOps.s rfl rfl rfl (Q.assign_d rfl) ?_
              refine XOps.nil ?_
              refine ⟨(a2, b2.tail, v119, out ++ [⟨y.key, false, true, ⟨#[]⟩, y.val⟩]), ?_, ?_, ?_, ?_⟩
              · exact ⟨by dsimp only; rw [← hI, hst]; first | done | simp, by simp; omega⟩
              · show _ + _ < _ + _; simp; omega
              · exact ⟨by first | rfl | exact congrArg (fun z => AV.d (.sl 2 (z.map SR.enc))) (cut_tl _ _ rfl), by first | rfl | exact congrArg (fun z => AV.d (.sl 2 (z.map SR.enc))) (cut_tl _ _ rfl), by first | rfl | exact congrArg (fun z => AV.vs _ 0 z 5) (by simp), trivial⟩
              · exact HLe.cons' (congrArg (HO.lst 5) (by rw [List.map_append]; rfl)) (HLe.refl _)
            · try simp only [Bool.or_eq_true, Bool.or_eq_false_iff, Bool.and_eq_true, Bool.and_eq_false_iff, decide_eq_true_eq, decide_eq_false_iff_not, Bool.not_eq_true', Bool.not_eq_false', Int.not_lt, Int.not_le, List.length_map] at hc93
              rw [less_cmpB] at hc93
              obtain ⟨hc93a, hc93b⟩ := hc93
              have ha0 : 0 < a2.length := by omega
              have hst := diff_c (hxa ha0).1 (hya hb0).1 (by
                rcases hc59b with h2 | h2
                · omega
                · exact of_decide_eq_false h2) (of_decide_eq_false hc93b)
              refine W.seq ?_
              refine W.drawreg 9 follows (by kernel_rfl) ?_
              refine Chain.cons _ (GQ.q rfl (Q.move_d rfl)) rfl ?_
              refine Chain.cons _ (GQ.q rfl (Q.idx_sl (r := x.enc) sl22 (by decide) rfl rfl (by first | omega | (simp only [List.length_map]; omega)) (hxa (by omega)).2)) rfl ?_
              refine Chain.cons _ (GQ.q rfl (Q.fld_dp fl48_1 rfl)) rfl ?_
              refine Chain.cons _ (GQ.q rfl (Q.ld_dp ag9 rfl rfl)) rfl ?_
              refine Chain.cons _ (GQ.q rfl (Q.move_d rfl)) rfl ?_
              refine Chain.cons _ (GQ.q rfl (Q.idx_sl (r := y.enc) sl22 (by decide) rfl rfl (by first | omega | (simp only [List.length_map]; omega)) (hya (by omega)).2)) rfl ?_
              refine Chain.cons _ (GQ.q rfl (Q.fld_dp fl48_1 rfl)) rfl ?_
              refine Chain.cons _ (GQ.q rfl (Q.ld_dp ag9 rfl rfl)) rfl ?_
              refine Chain.cons _ (GQ.q rfl (Q.neq_str rfl rfl)) rfl ?_
              refine Chain.nil ?_
              refine XOps.nil ?_
              refine W.cond rfl (fun hc38 => ?_) (fun hc38 => ?_)
              · try simp only [Bool.or_eq_true, Bool.or_eq_false_iff, Bool.and_eq_true, Bool.and_eq_false_iff, decide_eq_true_eq, decide_eq_false_iff_not, Bool.not_eq_true', Bool.not_eq_false', Int.not_lt, Int.not_le, List.length_map] at hc38
                have h38 : seq x.val y.val = false := by first | exact hc38 | simpa [seq] using hc38
                rw [if_pos h38] at hst
                refine W.drawT 16 [15] follows (by kernel_rfl) (by decide) ?_
                apply DT.moreE [.new, .new, .new, .new, .new, .new, .new, .new, .new, .new, .new, .new, .new, .new, .new, .now] (by kernel_rfl)
                refine PC.new _ rfl (GQ.q rfl (Q.move_vs rfl)) rfl ?_
                refine PC.new _ rfl (GQ.q rfl (Q.move_d rfl)) rfl ?_
                refine PC.new _ rfl (GQ.q rfl (Q.idx_sl (r := x.enc) sl22 (by decide) rfl rfl (by first | omega | (simp only [List.length_map]; omega)) (hxa (by omega)).2)) rfl ?_
                refine PC.new _ rfl (GQ.q rfl (Q.fld_dp fl48_0 rfl)) rfl ?_
                refine PC.new _ rfl (GQ.q rfl (Q.ld_dp ag9 rfl rfl)) rfl ?_
                refine PC.new _ rfl (GQ.q rfl (Q.move_d rfl)) rfl ?_
                refine PC.new _ rfl (GQ.q rfl (Q.idx_sl (r := x.enc) sl22 (by decide) rfl rfl (by first | omega | (simp only [List.length_map]; omega)) (hxa (by omega)).2)) rfl ?_
                refine PC.new _ rfl (GQ.q rfl (Q.fld_dp fl48_1 rfl)) rfl ?_
                refine PC.new _ rfl (GQ.q rfl (Q.ld_dp ag9 rfl rfl)) rfl ?_
                refine PC.new _ rfl (GQ.q rfl (Q.move_d rfl)) rfl ?_
                refine PC.new _ rfl (GQ.q rfl (Q.idx_sl (r := y.enc) sl22 (by decide) rfl rfl (by first | omega | (simp only [List.length_map]; omega)) (hya (by omega)).2)) rfl ?_
                refine PC.new _ rfl (GQ.q rfl (Q.fld_dp fl48_1 rfl)) rfl ?_
                refine PC.new _ rfl (GQ.q rfl (Q.ld_dp ag9 rfl rfl)) rfl ?_
                refine PC.new _ rfl (GQ.q rfl (Q.build pl40 tz40 tzd40 rfl)) rfl ?_
                refine PC.new _ rfl (GQ.q rfl (Q.bsl1n sl33 (by decide) zr33 rfl zrd33 rfl rfl (by decide))) rfl ?_
                refine PC.now rfl rfl (fun τ => Loud.to (L.app (k := 0) ap33 rfl rfl (by first | rfl | (simp; done)) rfl (by simp; omega) rfl) (fun _ _ ⟨v, h1, h2⟩ => ⟨_, h1, v, rfl, h2⟩)) ?_
                refine PC.nil ?_
                rintro _ _ ⟨v54, rfl, rfl⟩
                refine DT.last [.did, .did, .did, .did, .did, .did, .did, .did, .did, .did, .did, .did, .did, .did, .did, .did] (by kernel_rfl) ?_
                refine PC.did rfl ?_
                refine PC.did rfl ?_
                refine PC.did rfl ?_
                refine PC.did rfl ?_
                refine PC.did rfl ?_
                refine PC.did rfl ?_
                refine PC.did rfl ?_
                refine PC.did rfl ?_
                refine PC.did rfl ?_
                refine PC.did rfl ?_
                refine PC.did rfl ?_
                refine PC.did rfl ?_
                refine PC.did rfl ?_
                refine PC.did rfl ?_
                refine PC.did rfl ?_
                refine PC.did rfl ?_
                refine PC.nil ?_
                refine XOps.s rfl rfl rfl (Q.assign_vs rfl) ?_
                refine XOps.nil ?_
                refine W.draw 5 follows (by kernel_rfl) ?_
                refine Chain.cons _ (GQ.q rfl (Q.move_d rfl)) rfl ?_
                refine Chain.cons _ (GQ.q rfl (Q.cut_slm sl22 rfl rfl rfl (by first | omega | (simp only [List.length_map]; omega)) (by first | omega | (simp only [List.length_map]; omega)) (by first | omega | (simp only [List.length_map]; omega)))) rfl ?_
                refine Chain.cons _ (GQ.q rfl (Q.move_d rfl)) rfl ?_
                refine Chain.cons _ (GQ.q rfl (Q.cut_slm sl22 rfl rfl rfl (by first | omega | (simp only [List.length_map]; omega)) (by first | omega | (simp only [List.length_map]; omega)) (by first | omega | (simp only [List.length_map]; omega)))) rfl ?_
                refine Chain.cons _ (GQ.q rfl (Q.assign_d rfl)) rfl ?_
                refine Chain.nil ?_
                refine XOps.s rfl rfl rfl (Q.assign_d rfl) ?_
                refine XOps.nil ?_
                refine ⟨(a2.tail, b2.tail, v54, out ++ [⟨x.key, true, true, x.val, y.val⟩]), ?_, ?_, ?_, ?_⟩
                · exact ⟨by dsimp only; rw [← hI, hst]; first | done | simp, by simp; omega⟩
                · show _ + _ < _ + _; simp; omega
                · exact ⟨by first | rfl | exact congrArg (fun z => AV.d (.sl 2 (z.map SR.enc))) (cut_tl _ _ rfl), by first | rfl | exact congrArg (fun z => AV.d (.sl 2 (z.map SR.enc))) (cut_tl _ _ rfl), by first | rfl | exact congrArg (fun z => AV.vs _ 0 z 5) (by simp), trivial⟩
                · exact HLe.cons' (congrArg (HO.lst 5) (by rw [List.map_append]; rfl)) (HLe.refl _)
              · try simp only [Bool.or_eq_true, Bool.or_eq_false_iff, Bool.and_eq_true, Bool.and_eq_false_iff, decide_eq_true_eq, decide_eq_false_iff_not, Bool.not_eq_true', Bool.not_eq_false', Int.not_lt, Int.not_le, List.length_map] at hc38
                have h38 : ¬ seq x.val y.val = false := by first | (rw [show seq x.val y.val = true from hc38]; simp) | simpa [seq] using hc38
                rw [if_neg h38] at hst
                refine W.skip ?_
                refine W.draw 5 follows (by kernel_rfl) ?_
                refine Chain.cons _ (GQ.q rfl (Q.move_d rfl)) rfl ?_
                refine Chain.cons _ (GQ.q rfl (Q.cut_slm sl22 rfl rfl rfl (by first | omega | (simp only [List.length_map]; omega)) (by first | omega | (simp only [List.length_map]; omega)) (by first | omega | (simp only [List.length_map]; omega)))) rfl ?_
                refine Chain.cons _ (GQ.q rfl (Q.move_d rfl)) rfl ?_
                refine Chain.cons _ (GQ.q rfl (Q.cut_slm sl22 rfl rfl rfl (by first | omega | (simp only [List.length_map]; omega)) (by first | omega | (simp only [List.length_map]; omega)) (by first | omega | (simp only [List.length_map]; omega)))) rfl ?_
                refine Chain.cons _ (GQ.q rfl (Q.assign_d rfl)) rfl ?_
                refine Chain.nil ?_
                refine XOps.s rfl rfl rfl (Q.assign_d rfl) ?_
                refine XOps.nil ?_
                refine ⟨(a2.tail, b2.tail, v, out), ?_, ?_, ?_, ?_⟩
                · exact ⟨by dsimp only; rw [← hI, hst]; first | done | simp, by simp; omega⟩
                · show _ + _ < _ + _; simp; omega
                · exact ⟨by first | rfl | exact congrArg (fun z => AV.d (.sl 2 (z.map SR.enc))) (cut_tl _ _ rfl), by first | rfl | exact congrArg (fun z => AV.d (.sl 2 (z.map SR.enc))) (cut_tl _ _ rfl), by first | rfl | exact congrArg (fun z => AV.vs _ 0 z 5) (by simp), trivial⟩
                · exact HLe.refl _
        · try simp only [Bool.or_eq_true, Bool.or_eq_false_iff, Bool.and_eq_true, Bool.and_eq_false_iff, decide_eq_true_eq, decide_eq_false_iff_not, Bool.not_eq_true', Bool.not_eq_false', Int.not_lt, Int.not_le, List.length_map] at hc29
          obtain ⟨ra, rb⟩ : a2.length = 0 ∧ b2.length = 0 := by first | omega | (simpa using hc29)
          obtain rfl := List.eq_nil_of_length_eq_zero ra
          obtain rfl := List.eq_nil_of_length_eq_zero rb
          rw [diffR, List.append_nil] at hI
          subst hI
          refine W.exit ?_
          refine W.reg ?_
          refine XOps.s rfl rfl rfl (Q.move_vs rfl) ?_
          refine XOps.s rfl rfl rfl (Q.assign_vs rfl) ?_
          refine XOps.s rfl rfl rfl (Q.assign_d rfl) ?_
          refine XOps.nil ?_
          refine W.freeze 4 0 rfl rfl (by simp) ?_
          refine W.ret ?_
          refine ⟨_, hs, rfl, by repeat (first | exact HLe.refl _ | refine HLe.skip _ ?_), ?_, rfl⟩
          rfl
end Go.Proofs.YtohckiiadkibkaaDoorA
