/- console.Complete, strings.HasPrefix, slices.IsSorted and slices.Equal of strings, the law ConsoleCompletes. -/
import Derived.Test.YtdddebheolmldaaBase
import Derived.Test.YtdddebheolmldaaSpec
set_option linter.unusedVariables false
set_option linter.unusedSimpArgs false
set_option linter.unnecessarySimpa false
namespace Go.Proofs.YtdddebheolmldaaA.FWalkA
open Go
theorem ag31 : tAgg P 31 = some ((true, 5)) := by kernel_rfl
theorem ag9 : tAgg P 9 = some ((false, 1)) := by kernel_rfl
theorem ap22 : tApp P 22 = some ((1, 16)) := by kernel_rfl
theorem fl31_0 : tFld P 31 0 = some (0) := by kernel_rfl
theorem go10 : callGo Go.Proofs.Try.f10 = true := by kernel_rfl
theorem go11 : callGo Go.Proofs.Try.f11 = true := by kernel_rfl
theorem go4 : callGo Go.Proofs.Try.f4 = true := by kernel_rfl
theorem go5 : callGo Go.Proofs.Try.f5 = true := by kernel_rfl
theorem go6 : callGo Go.Proofs.Try.f6 = true := by kernel_rfl
theorem go7 : callGo Go.Proofs.Try.f7 = true := by kernel_rfl
theorem go8 : callGo Go.Proofs.Try.f8 = true := by kernel_rfl
theorem go9 : callGo Go.Proofs.Try.f9 = true := by kernel_rfl
theorem isl22 : isSl P 22 = true := by kernel_rfl
theorem isl28 : isSl P 28 = true := by kernel_rfl
theorem ist9 : isStr P 9 = true := by kernel_rfl
theorem pl31 : tPl P 31 = some ([(0, 1), (1, 1), (2, 1), (3, 1), (4, 1)]) := by kernel_rfl
theorem sl22 : tSl P 22 = some (1) := by kernel_rfl
theorem sl28 : tSl P 28 = some (5) := by kernel_rfl
theorem tz31 : tZero P 31 = some ([.string ⟨#[]⟩, .bool false, .bool false, .int .i64 0, .int .i64 0]) := by kernel_rfl
theorem tzd31 : cellsD [.string ⟨#[]⟩, .bool false, .bool false, .int .i64 0, .int .i64 0] = some ([.str ⟨#[]⟩, .bool false, .bool false, .int .i64 0, .int .i64 0]) := rfl
theorem zr22 : tZrow P 22 = some ([.string ⟨#[]⟩]) := by kernel_rfl
theorem zr28 : tZrow P 28 = some ([.string ⟨#[]⟩, .bool false, .bool false, .int .i64 0, .int .i64 0]) := by kernel_rfl
theorem zrd22 : cellsD [.string ⟨#[]⟩] = some ([.str ⟨#[]⟩]) := rfl
theorem zrd28 : cellsD [.string ⟨#[]⟩, .bool false, .bool false, .int .i64 0, .int .i64 0] = some ([.str ⟨#[]⟩, .bool false, .bool false, .int .i64 0, .int .i64 0]) := rfl
end Go.Proofs.YtdddebheolmldaaA.FWalkA
namespace Go.Proofs.YtdddebheolmldaaA
open Go FWalkA
def vl : List Verb := [⟨⟨#[97, 99, 99, 101, 112, 116]⟩, false, false, 0, -1⟩, ⟨⟨#[99, 111, 110, 116, 97, 99, 116]⟩, false, true, 0, 5⟩, ⟨⟨#[100, 105, 114, 101, 99, 116]⟩, false, true, 0, 3⟩, ⟨⟨#[100, 114, 111, 112]⟩, false, false, 0, -1⟩, ⟨⟨#[104, 101, 97, 100, 105, 110, 103]⟩, true, false, 4095, 1⟩, ⟨⟨#[104, 101, 105, 103, 104, 116]⟩, true, false, 60000, 0⟩, ⟨⟨#[104, 111, 108, 100]⟩, false, true, 0, 4⟩, ⟨⟨#[108, 97, 110, 100]⟩, false, true, 0, 6⟩, ⟨⟨#[111, 102, 102, 101, 114]⟩, false, true, 0, -1⟩, ⟨⟨#[115, 112, 101, 101, 100]⟩, true, false, 400, 2⟩]
def names : List ByteArray := [⟨#[97, 99, 99, 101, 112, 116]⟩, ⟨#[99, 111, 110, 116, 97, 99, 116]⟩, ⟨#[100, 105, 114, 101, 99, 116]⟩, ⟨#[100, 114, 111, 112]⟩, ⟨#[104, 101, 97, 100, 105, 110, 103]⟩, ⟨#[104, 101, 105, 103, 104, 116]⟩, ⟨#[104, 111, 108, 100]⟩, ⟨#[108, 97, 110, 100]⟩, ⟨#[111, 102, 102, 101, 114]⟩, ⟨#[115, 112, 101, 101, 100]⟩]

set_option maxHeartbeats 1000000 in
set_option maxRecDepth 100000 in
theorem pre_c (s p : ByteArray) (hs : Hp) : AC P 10 [.d (.str s), .d (.str p)] hs (fun r h => r = .d (.bool (hasP s p)) ∧ h = hs) := by
  refine AC.of 18 Try.func10 rfl rfl rfl ?_
  refine W.reg ?_
  refine XOps.s rfl rfl rfl (Q.assign_d rfl) ?_
  refine XOps.nil ?_
  refine W.reg ?_
  refine XOps.s rfl rfl rfl (Q.move_d rfl) ?_
  refine XOps.s rfl rfl rfl (Q.len_str ist9 rfl) ?_
  refine XOps.s rfl rfl rfl (Q.move_d rfl) ?_
  refine XOps.s rfl rfl rfl (Q.len_str ist9 rfl) ?_
  refine XOps.s rfl rfl rfl (Q.geq rfl rfl) ?_
  refine XOps.s rfl rfl rfl (Q.move_d rfl) ?_
  refine XOps.gs rfl rfl rfl rfl rfl rfl rfl (fun hg => Q.move_d rfl) ?_
  refine XOps.gs rfl rfl rfl rfl rfl rfl rfl (fun hg => Q.move_d rfl) ?_
  refine XOps.gs rfl rfl rfl rfl rfl rfl rfl (fun hg => Quiet.open 12 hg rfl (Q.len_str ist9 rfl)) ?_
  refine XOps.gs rfl rfl rfl rfl rfl rfl rfl (fun hg => Quiet.open 11 hg rfl (Quiet.open 13 hg rfl (Q.cut_str ist9 rfl rfl rfl (by omega) (by omega) (by have h := hg; simp at h; omega)))) ?_
  refine XOps.gs rfl rfl rfl rfl rfl rfl rfl (fun hg => Q.move_d rfl) ?_
  refine XOps.gs rfl rfl rfl rfl rfl rfl rfl (fun hg => Quiet.open 14 hg rfl (Quiet.open 15 hg rfl (Q.eql_str rfl rfl))) ?_
  refine XOps.s rfl rfl rfl (Q.pick_and rfl rfl rfl (fun h => by rw [h]; rfl)) ?_
  refine XOps.s rfl rfl rfl (Q.assign_d rfl) ?_
  refine XOps.nil ?_
  refine W.ret ?_
  refine ⟨_, hs, rfl, by repeat (first | exact HLe.refl _ | refine HLe.cons' (by first | rfl | (simp; done)) ?_ | refine HLe.skip _ ?_), ?_, rfl⟩
  rfl

set_option maxHeartbeats 1000000 in
set_option maxRecDepth 100000 in
theorem prefix_c (s p : ByteArray) (hs : Hp) : AC P 6 [.d (.str s), .d (.str p)] hs (fun r h => r = .d (.bool (hasP s p)) ∧ h = hs) := by
  refine AC.of 8 Try.func6 rfl rfl rfl ?_
  refine W.reg ?_
  refine XOps.s rfl rfl rfl (Q.assign_d rfl) ?_
  refine XOps.nil ?_
  refine W.reg ?_
  refine XOps.s rfl rfl rfl (Q.move_d rfl) ?_
  refine XOps.s rfl rfl rfl (Q.move_d rfl) ?_
  refine XOps.s rfl rfl rfl (Q.call rfl Try.func10 go10 rfl (pre_c s p _)) ?_
  refine XOps.s rfl rfl rfl (Q.assign_d rfl) ?_
  refine XOps.nil ?_
  refine W.ret ?_
  refine ⟨_, hs, rfl, by repeat (first | exact HLe.refl _ | refine HLe.cons' (by first | rfl | (simp; done)) ?_ | refine HLe.skip _ ?_), ?_, rfl⟩
  rfl

set_option maxHeartbeats 1000000 in
set_option maxRecDepth 100000 in
theorem nan_c (s : ByteArray) (hs : Hp) : AC P 11 [.d (.str s)] hs (fun r h => r = .d (.bool false) ∧ h = hs) := by
  refine AC.of 6 Try.func11 rfl rfl rfl ?_
  refine W.reg ?_
  refine XOps.s rfl rfl rfl (Q.assign_d rfl) ?_
  refine XOps.nil ?_
  refine W.reg ?_
  refine XOps.s rfl rfl rfl (Q.move_d rfl) ?_
  refine XOps.s rfl rfl rfl (Q.move_d rfl) ?_
  refine XOps.s rfl rfl rfl (Q.neq_str rfl rfl) ?_
  refine XOps.s rfl rfl rfl (Q.assign_d rfl) ?_
  refine XOps.nil ?_
  refine W.ret ?_
  refine ⟨_, hs, rfl, by repeat (first | exact HLe.refl _ | refine HLe.cons' (by first | rfl | (simp; done)) ?_ | refine HLe.skip _ ?_), ?_, rfl⟩
  show AV.d (.bool (!(s.toList == s.toList))) = _
  rw [beq_self_eq_true]; rfl

set_option maxHeartbeats 1000000 in
set_option maxRecDepth 100000 in
theorem less_c (s p : ByteArray) (hs : Hp) : AC P 9 [.d (.str s), .d (.str p)] hs (fun r h => r = .d (.bool (Op.bytesLess s.toList p.toList)) ∧ h = hs) := by
  refine AC.of 17 Try.func9 rfl rfl rfl ?_
  refine W.reg ?_
  refine XOps.s rfl rfl rfl (Q.assign_d rfl) ?_
  refine XOps.nil ?_
  refine W.reg ?_
  refine XOps.s rfl rfl rfl (Q.move_d rfl) ?_
  refine XOps.s rfl rfl rfl (Q.call rfl Try.func11 go11 rfl (nan_c s _)) ?_
  refine XOps.s rfl rfl rfl (Q.move_d rfl) ?_
  refine XOps.gs rfl rfl rfl rfl rfl rfl rfl (fun hg => Q.move_d rfl) ?_
  refine XOps.gs rfl rfl rfl rfl rfl rfl rfl (fun hg => Quiet.open 8 hg rfl (Q.call rfl Try.func11 go11 rfl (nan_c p _))) ?_
  refine XOps.gs rfl rfl rfl rfl rfl rfl rfl (fun hg => Quiet.open 9 hg rfl (Q.not rfl)) ?_
  refine XOps.s rfl rfl rfl (Q.pick_and rfl rfl rfl (fun h => by rw [h]; rfl)) ?_
  refine XOps.s rfl rfl rfl (Q.move_d rfl) ?_
  refine XOps.gs rfl rfl rfl rfl rfl rfl rfl (fun hg => Q.move_d rfl) ?_
  refine XOps.gs rfl rfl rfl rfl rfl rfl rfl (fun hg => Q.move_d rfl) ?_
  refine XOps.gs rfl rfl rfl rfl rfl rfl rfl (fun hg => Quiet.open 13 hg rfl (Quiet.open 14 hg rfl (Q.lss_str rfl rfl))) ?_
  refine XOps.s rfl rfl rfl (Q.pick_or rfl rfl rfl (fun h => by rw [h]; rfl)) ?_
  refine XOps.s rfl rfl rfl (Q.assign_d rfl) ?_
  refine XOps.nil ?_
  refine W.ret ?_
  refine ⟨_, hs, rfl, by repeat (first | exact HLe.refl _ | refine HLe.cons' (by first | rfl | (simp; done)) ?_ | refine HLe.skip _ ?_), ?_, rfl⟩
  rfl

set_option maxHeartbeats 1000000 in
set_option maxRecDepth 100000 in
theorem sorted_c (l : List ByteArray) (hs : Hp) (hL : l.length ≤ 140737488351232) (hno : ∀ i a b, l[i]? = some a → l[i + 1]? = some b → Op.bytesLess b.toList a.toList = false) : AC P 5 [.d (.sl 1 (l.map se))] hs (fun r h => r = .d (.bool true) ∧ h = hs) := by
  have hLm : (l.map se).length = l.length := List.length_map _
  refine AC.of 21 Try.func5 rfl rfl rfl ?_
  refine W.reg ?_
  refine XOps.s rfl rfl rfl (Q.assign_d rfl) ?_
  refine XOps.nil ?_
  refine W.seq ?_
  refine W.reg ?_
  refine XOps.s rfl rfl rfl (Q.move_d rfl) ?_
  refine XOps.s rfl rfl rfl (Q.len_sl isl22 rfl) ?_
  refine XOps.s rfl rfl rfl (Q.sub rfl rfl (wi64 (by omega) (by omega))) ?_
  refine XOps.s rfl rfl rfl (Q.assign_d rfl) ?_
  refine XOps.nil ?_
  refine W.block ?_
  refine W.loop (ι := Nat) (fun k => [(0, .d (.sl 1 (l.map se))), (3, .d (.int .i64 ((k : Int) - 1)))]) (fun k => hs) (fun k => k ≤ l.length) (fun k => k) l.length ?_ ?_ ?_ ?_
  · exact Nat.le_refl _
  · exact ⟨by first | rfl | exact int_eq (by omega) | exact len_eq (by simp) | exact int_eq (by simp; done), by exact int_eq (by simp), trivial⟩
  · repeat (first | exact HLe.refl _ | refine HLe.cons' (by first | rfl | (simp; done)) ?_ | refine HLe.skip _ ?_)
  · rintro k hk
    try dsimp only
    refine W.seq ?_
    refine W.reg ?_
    refine XOps.s rfl rfl rfl (Q.move_d rfl) ?_
    refine XOps.s rfl rfl rfl (Q.gtr rfl rfl) ?_
    refine XOps.nil ?_
    refine W.cond rfl (fun hc8 => ?_) (fun hc8 => ?_)
    · try simp only [Bool.or_eq_true, Bool.or_eq_false_iff, Bool.and_eq_true, Bool.and_eq_false_iff, decide_eq_true_eq, decide_eq_false_iff_not, Bool.not_eq_true', Bool.not_eq_false', Int.not_lt, Int.not_le, List.length_map] at hc8
      obtain ⟨b, hb⟩ : ∃ b, l[k - 1]? = some b := ⟨_, List.getElem?_eq_getElem (by omega)⟩
      obtain ⟨a, ha⟩ : ∃ a, l[k - 2]? = some a := ⟨_, List.getElem?_eq_getElem (by omega)⟩
      have hab := hno (k - 2) a b ha (by rw [show k - 2 + 1 = k - 1 by omega]; exact hb)
      refine W.skip ?_
      refine W.seq ?_
      refine W.block ?_
      refine W.drawreg 10 follows (by kernel_rfl) ?_
      refine Chain.cons _ (GQ.q rfl (Q.move_d rfl)) rfl ?_
      refine Chain.cons _ (GQ.q rfl (Q.move_d rfl)) rfl ?_
      refine Chain.cons _ (GQ.q rfl (Q.idx_sl sl22 (by decide) rfl rfl (by omega) (by rw [show ((k : Int) - 1).toNat = ((k - 1 : Nat) : Int).toNat from by omega]; exact map_at hb))) rfl ?_
      refine Chain.cons _ (GQ.q rfl (Q.ld_dp ag9 rfl rfl)) rfl ?_
      refine Chain.cons _ (GQ.q rfl (Q.move_d rfl)) rfl ?_
      refine Chain.cons _ (GQ.q rfl (Q.move_d rfl)) rfl ?_
      refine Chain.cons _ (GQ.q rfl (Q.sub rfl rfl (wi64 (by omega) (by omega)))) rfl ?_
      refine Chain.cons _ (GQ.q rfl (Q.idx_sl sl22 (by decide) rfl rfl (by omega) (by rw [show ((k : Int) - 1 - 1).toNat = ((k - 2 : Nat) : Int).toNat from by omega]; exact map_at ha))) rfl ?_
      refine Chain.cons _ (GQ.q rfl (Q.ld_dp ag9 rfl rfl)) rfl ?_
      refine Chain.cons _ (GQ.q rfl (Q.call rfl Try.func9 go9 rfl (less_c b a _))) rfl ?_
      refine Chain.nil ?_
      refine XOps.nil ?_
      refine W.cond rfl (fun hc20 => ?_) (fun hc20 => ?_)
      · try simp only [Bool.or_eq_true, Bool.or_eq_false_iff, Bool.and_eq_true, Bool.and_eq_false_iff, decide_eq_true_eq, decide_eq_false_iff_not, Bool.not_eq_true', Bool.not_eq_false', Int.not_lt, Int.not_le, List.length_map] at hc20
        exact absurd hc20 (by rw [hab]; simp)
      · try simp only [Bool.or_eq_true, Bool.or_eq_false_iff, Bool.and_eq_true, Bool.and_eq_false_iff, decide_eq_true_eq, decide_eq_false_iff_not, Bool.not_eq_true', Bool.not_eq_false', Int.not_lt, Int.not_le, List.length_map] at hc20
        refine W.skip ?_
        refine W.region ?_
        refine XOps.s rfl rfl rfl (Q.move_d rfl) ?_
        refine XOps.s rfl rfl rfl (Q.sub rfl rfl (wi64 (by omega) (by omega))) ?_
        refine XOps.s rfl rfl rfl (Q.assign_d rfl) ?_
        refine XOps.nil ?_
        refine ⟨k - 1, ?_, ?_, ?_, ?_⟩
        · omega
        · omega
        · exact ⟨by first | rfl | exact int_eq (by omega) | exact len_eq (by simp) | exact int_eq (by simp; done), by exact int_eq (by omega), trivial⟩
        · repeat (first | exact HLe.refl _ | refine HLe.cons' (by first | rfl | (simp; done)) ?_ | refine HLe.skip _ ?_)
    · try simp only [Bool.or_eq_true, Bool.or_eq_false_iff, Bool.and_eq_true, Bool.and_eq_false_iff, decide_eq_true_eq, decide_eq_false_iff_not, Bool.not_eq_true', Bool.not_eq_false', Int.not_lt, Int.not_le, List.length_map] at hc8
      refine W.exit ?_
      refine W.reg ?_
      refine XOps.s rfl rfl rfl (Q.assign_d rfl) ?_
      refine XOps.nil ?_
      refine W.ret ?_
      refine ⟨_, hs, rfl, by repeat (first | exact HLe.refl _ | refine HLe.cons' (by first | rfl | (simp; done)) ?_ | refine HLe.skip _ ?_), ?_, rfl⟩
      rfl

set_option maxHeartbeats 1000000 in
set_option maxRecDepth 100000 in
theorem equal_c (l : List ByteArray) (hs : Hp) (hL : l.length ≤ 140737488351232) : AC P 7 [.d (.sl 1 (l.map se)), .d (.sl 1 (l.map se))] hs (fun r h => r = .d (.bool true) ∧ h = hs) := by
  refine AC.of 26 Try.func7 rfl rfl rfl ?_
  refine W.reg ?_
  refine XOps.s rfl rfl rfl (Q.assign_d rfl) ?_
  refine XOps.nil ?_
  refine W.seq ?_
  refine W.reg ?_
  refine XOps.s rfl rfl rfl (Q.move_d rfl) ?_
  refine XOps.s rfl rfl rfl (Q.len_sl isl22 rfl) ?_
  refine XOps.s rfl rfl rfl (Q.move_d rfl) ?_
  refine XOps.s rfl rfl rfl (Q.len_sl isl22 rfl) ?_
  refine XOps.s rfl rfl rfl (Q.neq rfl rfl) ?_
  refine XOps.nil ?_
  refine W.cond rfl (fun hc10 => ?_) (fun hc10 => ?_)
  · try simp only [Bool.or_eq_true, Bool.or_eq_false_iff, Bool.and_eq_true, Bool.and_eq_false_iff, decide_eq_true_eq, decide_eq_false_iff_not, Bool.not_eq_true', Bool.not_eq_false', Int.not_lt, Int.not_le, List.length_map] at hc10
    exact absurd hc10 (by simp)
  · try simp only [Bool.or_eq_true, Bool.or_eq_false_iff, Bool.and_eq_true, Bool.and_eq_false_iff, decide_eq_true_eq, decide_eq_false_iff_not, Bool.not_eq_true', Bool.not_eq_false', Int.not_lt, Int.not_le, List.length_map] at hc10
    refine W.skip ?_
    refine W.seq ?_
    refine W.reg ?_
    refine XOps.s rfl rfl rfl (Q.move_d rfl) ?_
    refine XOps.s rfl rfl rfl (Q.len_sl isl22 rfl) ?_
    refine XOps.s rfl rfl rfl (Q.move_d rfl) ?_
    refine XOps.nil ?_
    refine W.block ?_
    refine W.loop (ι := Nat) (fun k => [(0, .d (.sl 1 (l.map se))), (1, .d (.sl 1 (l.map se))), (11, .d (.sl 1 (l.map se))), (12, .d (.int .i64 l.length)), (13, .d (.int .i64 k))]) (fun k => hs) (fun k => k ≤ l.length) (fun k => l.length - k) 0 ?_ ?_ ?_ ?_
    · exact Nat.zero_le _
    · exact ⟨by first | rfl | exact int_eq (by omega) | exact len_eq (by simp) | exact int_eq (by simp; done), by first | rfl | exact int_eq (by omega) | exact len_eq (by simp) | exact int_eq (by simp; done), by first | rfl | exact int_eq (by omega) | exact len_eq (by simp) | exact int_eq (by simp; done), by first | rfl | exact int_eq (by omega) | exact len_eq (by simp) | exact int_eq (by simp; done), by first | rfl | exact int_eq (by omega) | exact len_eq (by simp) | exact int_eq (by simp; done), trivial⟩
    · repeat (first | exact HLe.refl _ | refine HLe.cons' (by first | rfl | (simp; done)) ?_ | refine HLe.skip _ ?_)
    · rintro k hk
      try dsimp only
      refine W.reg ?_
      refine XOps.s rfl rfl rfl (Q.lss rfl rfl) ?_
      refine XOps.nil ?_
      refine W.seq ?_
      refine W.cond rfl (fun hc14 => ?_) (fun hc14 => ?_)
      · try simp only [Bool.or_eq_true, Bool.or_eq_false_iff, Bool.and_eq_true, Bool.and_eq_false_iff, decide_eq_true_eq, decide_eq_false_iff_not, Bool.not_eq_true', Bool.not_eq_false', Int.not_lt, Int.not_le, List.length_map] at hc14
        obtain ⟨x, hx⟩ : ∃ x, l[k]? = some x := ⟨_, List.getElem?_eq_getElem (by omega)⟩
        refine W.skip ?_
        refine W.seq ?_
        refine W.block ?_
        refine W.reg ?_
        refine XOps.s rfl rfl rfl (Q.move_d rfl) ?_
        refine XOps.s rfl rfl rfl (Q.assign_d rfl) ?_
        refine XOps.nil ?_
        refine W.drawreg 9 follows (by kernel_rfl) ?_
        refine Chain.cons _ (GQ.q rfl (Q.move_d rfl)) rfl ?_
        refine Chain.cons _ (GQ.q rfl (Q.move_d rfl)) rfl ?_
        refine Chain.cons _ (GQ.q rfl (Q.idx_sl sl22 (by decide) rfl rfl (by omega) (by first | exact map_at (by assumption) | exact map_at0 (by assumption) | assumption))) rfl ?_
        refine Chain.cons _ (GQ.q rfl (Q.ld_dp ag9 rfl rfl)) rfl ?_
        refine Chain.cons _ (GQ.q rfl (Q.move_d rfl)) rfl ?_
        refine Chain.cons _ (GQ.q rfl (Q.move_d rfl)) rfl ?_
        refine Chain.cons _ (GQ.q rfl (Q.idx_sl sl22 (by decide) rfl rfl (by omega) (by first | exact map_at (by assumption) | exact map_at0 (by assumption) | assumption))) rfl ?_
        refine Chain.cons _ (GQ.q rfl (Q.ld_dp ag9 rfl rfl)) rfl ?_
        refine Chain.cons _ (GQ.q rfl (Q.neq_str rfl rfl)) rfl ?_
        refine Chain.nil ?_
        refine XOps.nil ?_
        refine W.cond rfl (fun hc24 => ?_) (fun hc24 => ?_)
        · try simp only [Bool.or_eq_true, Bool.or_eq_false_iff, Bool.and_eq_true, Bool.and_eq_false_iff, decide_eq_true_eq, decide_eq_false_iff_not, Bool.not_eq_true', Bool.not_eq_false', Int.not_lt, Int.not_le, List.length_map] at hc24
          exact absurd hc24 (by simp)
        · try simp only [Bool.or_eq_true, Bool.or_eq_false_iff, Bool.and_eq_true, Bool.and_eq_false_iff, decide_eq_true_eq, decide_eq_false_iff_not, Bool.not_eq_true', Bool.not_eq_false', Int.not_lt, Int.not_le, List.length_map] at hc24
          refine W.skip ?_
          refine W.region ?_
          refine XOps.s rfl rfl rfl (Q.add rfl rfl (wi64 (by omega) (by omega))) ?_
          refine XOps.s rfl rfl rfl (Q.move_d rfl) ?_
          refine XOps.nil ?_
          refine ⟨k + 1, ?_, ?_, ?_, ?_⟩
          · omega
          · omega
          · exact ⟨by first | rfl | exact int_eq (by omega) | exact len_eq (by simp) | exact int_eq (by simp; done), by first | rfl | exact int_eq (by omega) | exact len_eq (by simp) | exact int_eq (by simp; done), by first | rfl | exact int_eq (by omega) | exact len_eq (by simp) | exact int_eq (by simp; done), by first | rfl | exact int_eq (by omega) | exact len_eq (by simp) | exact int_eq (by simp; done), by first | rfl | exact int_eq (by omega) | exact len_eq (by simp) | exact int_eq (by simp; done), trivial⟩
          · repeat (first | exact HLe.refl _ | refine HLe.cons' (by first | rfl | (simp; done)) ?_ | refine HLe.skip _ ?_)
      · try simp only [Bool.or_eq_true, Bool.or_eq_false_iff, Bool.and_eq_true, Bool.and_eq_false_iff, decide_eq_true_eq, decide_eq_false_iff_not, Bool.not_eq_true', Bool.not_eq_false', Int.not_lt, Int.not_le, List.length_map] at hc14
        refine W.exit ?_
        refine W.reg ?_
        refine XOps.s rfl rfl rfl (Q.assign_d rfl) ?_
        refine XOps.nil ?_
        refine W.ret ?_
        refine ⟨_, hs, rfl, by repeat (first | exact HLe.refl _ | refine HLe.cons' (by first | rfl | (simp; done)) ?_ | refine HLe.skip _ ?_), ?_, rfl⟩
        rfl

set_option maxHeartbeats 1000000 in
set_option maxRecDepth 100000 in
theorem verbs_c (hs : Hp) : AC P 8 [] hs (fun r h => r = .d (.sl 5 (vl.map Verb.enc)) ∧ h = hs) := by
  refine AC.of 12 Try.func8 rfl rfl rfl ?_
  refine W.reg ?_
  refine XOps.s rfl rfl rfl (Q.assign_nilsl rfl) ?_
  refine XOps.nil ?_
  refine W.reg ?_
  refine XOps.s rfl rfl rfl (Q.build pl31 tz31 tzd31 rfl) ?_
  refine XOps.s rfl rfl rfl (Q.build pl31 tz31 tzd31 rfl) ?_
  refine XOps.s rfl rfl rfl (Q.build pl31 tz31 tzd31 rfl) ?_
  refine XOps.s rfl rfl rfl (Q.build pl31 tz31 tzd31 rfl) ?_
  refine XOps.s rfl rfl rfl (Q.build pl31 tz31 tzd31 rfl) ?_
  refine XOps.s rfl rfl rfl (Q.build pl31 tz31 tzd31 rfl) ?_
  refine XOps.s rfl rfl rfl (Q.build pl31 tz31 tzd31 rfl) ?_
  refine XOps.s rfl rfl rfl (Q.build pl31 tz31 tzd31 rfl) ?_
  refine XOps.s rfl rfl rfl (Q.build pl31 tz31 tzd31 rfl) ?_
  refine XOps.s rfl rfl rfl (Q.build pl31 tz31 tzd31 rfl) ?_
  refine XOps.s rfl rfl rfl (Q.bsl sl28 (by decide) zr28 rfl zrd28 (by decide) rfl rfl) ?_
  refine XOps.s rfl rfl rfl (Q.assign_d rfl) ?_
  refine XOps.nil ?_
  refine W.ret ?_
  refine ⟨_, hs, rfl, by repeat (first | exact HLe.refl _ | refine HLe.cons' (by first | rfl | (simp; done)) ?_ | refine HLe.skip _ ?_), ?_, rfl⟩
  rfl

set_option maxHeartbeats 1000000 in
set_option maxRecDepth 100000 in
theorem complete_own (s : ByteArray) (hs : Hp) : AC P 4 [.d (.str s)] hs (fun r h => ∃ v, r = .vs v 0 (compl vl s 10).length 1 ∧ h = (v, .lst 1 ((compl vl s 10).map se)) :: hs) := by
  have hvl : vl.length = 10 := rfl
  have hcl := compl_len vl s
  refine AC.of 23 Try.func4 rfl rfl rfl ?_
  refine W.reg ?_
  refine XOps.s rfl rfl rfl (Q.assign_nilsl rfl) ?_
  refine XOps.nil ?_
  refine W.reg ?_
  refine XOps.s rfl rfl rfl (Q.assign_nilsl rfl) ?_
  refine XOps.nil ?_
  refine W.seq ?_
  refine W.ghost 3 1 (by decide) rfl (by decide) (fun v3 => ?_)
  refine W.reg ?_
  refine XOps.s rfl rfl rfl (Q.call rfl Try.func8 go8 rfl (verbs_c _)) ?_
  refine XOps.s rfl rfl rfl (Q.len_sl isl28 rfl) ?_
  refine XOps.s rfl rfl rfl (Q.move_d rfl) ?_
  refine XOps.nil ?_
  refine W.block ?_
  refine W.loop (ι := Nat × Nat) (fun p => [(0, .d (.str s)), (3, .vs p.2 0 (compl vl s p.1).length 1), (6, .d (.sl 5 (vl.map Verb.enc))), (7, .d (.int .i64 vl.length)), (8, .d (.int .i64 p.1))]) (fun p => (p.2, .lst 1 ((compl vl s p.1).map se)) :: hs) (fun p => p.1 ≤ vl.length) (fun p => vl.length - p.1) (0, v3) ?_ ?_ ?_ ?_
  · exact Nat.zero_le _
  · exact ⟨by first | rfl | exact int_eq (by omega) | exact len_eq (by simp) | exact int_eq (by simp; done), by first | rfl | exact int_eq (by omega) | exact len_eq (by simp) | exact int_eq (by simp; done), by first | rfl | exact int_eq (by omega) | exact len_eq (by simp) | exact int_eq (by simp; done), by first | rfl | exact int_eq (by omega) | exact len_eq (by simp) | exact int_eq (by simp; done), by first | rfl | exact int_eq (by omega) | exact len_eq (by simp) | exact int_eq (by simp; done), trivial⟩
  · repeat (first | exact HLe.refl _ | refine HLe.cons' (by first | rfl | (simp [se]; done)) ?_ | refine HLe.skip _ ?_)
  · rintro ⟨k, u⟩ hk
    try dsimp only at hk ⊢
    refine W.reg ?_
    refine XOps.s rfl rfl rfl (Q.lss rfl rfl) ?_
    refine XOps.nil ?_
    refine W.seq ?_
    refine W.cond rfl (fun hc9 => ?_) (fun hc9 => ?_)
    · try simp only [Bool.or_eq_true, Bool.or_eq_false_iff, Bool.and_eq_true, Bool.and_eq_false_iff, decide_eq_true_eq, decide_eq_false_iff_not, Bool.not_eq_true', Bool.not_eq_false', Int.not_lt, Int.not_le, List.length_map] at hc9
      obtain ⟨v, hv⟩ : ∃ v, vl[k]? = some v := ⟨_, List.getElem?_eq_getElem (by omega)⟩
      have hlS := compl_succ (s := s) hv
      have hck := hcl k
      refine W.skip ?_
      refine W.seq ?_
      refine W.block ?_
      refine W.reg ?_
      refine XOps.s rfl rfl rfl (Q.idx_sl sl28 (by decide) rfl rfl (by omega) (by first | exact map_at (by assumption) | exact map_at0 (by assumption) | assumption)) ?_
      refine XOps.s rfl rfl rfl (Q.ld_dpn ag31 rfl rfl) ?_
      (refine XOps.loud rfl (L.alloc tz31 rfl rfl) ?_; rintro _ _ ⟨b5, rfl, rfl⟩)
      refine XOps.loud rfl (L.storen (k := 0) ag31 rfl rfl rfl rfl rfl) ?_
      rintro _ _ ⟨rfl, rfl⟩
      refine XOps.nil ?_
      refine W.reg ?_
      refine XOps.s rfl rfl rfl (Q.fld_ptr fl31_0 rfl) ?_
      refine XOps.s rfl rfl rfl (Q.ld_ptr (k := 0) ag9 rfl rfl rfl) ?_
      refine XOps.s rfl rfl rfl (Q.move_d rfl) ?_
      refine XOps.s rfl rfl rfl (Q.call rfl Try.func6 go6 rfl (prefix_c v.name s _)) ?_
      refine XOps.nil ?_
      refine W.cond rfl (fun hc15 => ?_) (fun hc15 => ?_)
      · try simp only [Bool.or_eq_true, Bool.or_eq_false_iff, Bool.and_eq_true, Bool.and_eq_false_iff, decide_eq_true_eq, decide_eq_false_iff_not, Bool.not_eq_true', Bool.not_eq_false', Int.not_lt, Int.not_le, List.length_map] at hc15
        rw [if_pos hc15] at hlS
        refine W.region ?_
        refine XOps.s rfl rfl rfl (Q.move_vs rfl) ?_
        refine XOps.s rfl rfl rfl (Q.fld_ptr fl31_0 rfl) ?_
        refine XOps.s rfl rfl rfl (Q.ld_ptr (k := 0) ag9 rfl rfl rfl) ?_
        refine XOps.s rfl rfl rfl (Q.bsl1 sl22 zr22 rfl zrd22 rfl rfl) ?_
        refine XOps.loud rfl (L.app (k := 1) ap22 rfl rfl (by first | rfl | (simp [List.length_map]; done)) rfl (by simp; omega) rfl) ?_
        rintro _ _ ⟨v20, rfl, rfl⟩
        refine XOps.s rfl rfl rfl (Q.assign_vs rfl) ?_
        refine XOps.nil ?_
        obtain ⟨wn, rfl⟩ : ∃ x : Nat, x = v20 := ⟨_, rfl⟩
        refine W.region ?_
        refine XOps.s rfl rfl rfl (Q.add rfl rfl (wi64 (by omega) (by omega))) ?_
        refine XOps.s rfl rfl rfl (Q.move_d rfl) ?_
        refine XOps.nil ?_
        refine ⟨(k + 1, wn), ?_, ?_, ?_, ?_⟩
        · show k + 1 ≤ vl.length; omega
        · show vl.length - (k + 1) < vl.length - k; omega
        · exact ⟨by first | rfl | exact int_eq (by omega) | exact len_eq (by simp) | exact int_eq (by simp; done), by (show AV.vs _ 0 _ 1 = .vs _ 0 _ 1; first | (rw [hlS]; done) | (rw [hlS]; simp; done)), by first | rfl | exact int_eq (by omega) | exact len_eq (by simp) | exact int_eq (by simp; done), by first | rfl | exact int_eq (by omega) | exact len_eq (by simp) | exact int_eq (by simp; done), by first | rfl | exact int_eq (by omega) | exact len_eq (by simp) | exact int_eq (by simp; done), trivial⟩
        · exact HLe.cons' (by first | (rw [hlS]; done) | (rw [hlS]; simp [se]; done)) (HLe.skip _ (HLe.refl _))
      · try simp only [Bool.or_eq_true, Bool.or_eq_false_iff, Bool.and_eq_true, Bool.and_eq_false_iff, decide_eq_true_eq, decide_eq_false_iff_not, Bool.not_eq_true', Bool.not_eq_false', Int.not_lt, Int.not_le, List.length_map] at hc15
        rw [if_neg (by simpa using hc15)] at hlS
        obtain ⟨wn, rfl⟩ : ∃ x : Nat, x = u := ⟨_, rfl⟩
        refine W.skip ?_
        refine W.region ?_
        refine XOps.s rfl rfl rfl (Q.add rfl rfl (wi64 (by omega) (by omega))) ?_
        refine XOps.s rfl rfl rfl (Q.move_d rfl) ?_
        refine XOps.nil ?_
        refine ⟨(k + 1, wn), ?_, ?_, ?_, ?_⟩
        · show k + 1 ≤ vl.length; omega
        · show vl.length - (k + 1) < vl.length - k; omega
        · exact ⟨by first | rfl | exact int_eq (by omega) | exact len_eq (by simp) | exact int_eq (by simp; done), by (show AV.vs _ 0 _ 1 = .vs _ 0 _ 1; first | (rw [hlS]; done) | (rw [hlS]; simp; done)), by first | rfl | exact int_eq (by omega) | exact len_eq (by simp) | exact int_eq (by simp; done), by first | rfl | exact int_eq (by omega) | exact len_eq (by simp) | exact int_eq (by simp; done), by first | rfl | exact int_eq (by omega) | exact len_eq (by simp) | exact int_eq (by simp; done), trivial⟩
        · exact HLe.skip _ (HLe.cons' (by first | (rw [hlS]; done) | (rw [hlS]; simp [se]; done)) (HLe.refl _))
    · try simp only [Bool.or_eq_true, Bool.or_eq_false_iff, Bool.and_eq_true, Bool.and_eq_false_iff, decide_eq_true_eq, decide_eq_false_iff_not, Bool.not_eq_true', Bool.not_eq_false', Int.not_lt, Int.not_le, List.length_map] at hc9
      refine W.exit ?_
      refine W.reg ?_
      refine XOps.s rfl rfl rfl (Q.move_vs rfl) ?_
      refine XOps.s rfl rfl rfl (Q.assign_vs rfl) ?_
      refine XOps.nil ?_
      refine W.ret ?_
      obtain rfl : k = 10 := by omega
      refine ⟨_, (u, .lst 1 ((compl vl s 10).map se)) :: hs, rfl, by repeat (first | exact HLe.refl _ | refine HLe.cons' (by first | rfl | (simp [se]; done)) ?_ | refine HLe.skip _ ?_), u, rfl, rfl⟩

theorem complete_c (s : ByteArray) (hs : Hp) : AC P 4 [.d (.str s)] hs (fun r h => r = .d (.sl 1 ((compl vl s 10).map se)) ∧ h = hs) :=
  AC.frz ((complete_own s hs).mono fun r h ⟨v, h1, h2⟩ => ⟨v, h2, h1 ▸ .vs (by simp)⟩)
theorem all_names : compl vl ⟨#[]⟩ 10 = names := by decide +kernel
theorem names_sorted : ∀ i a b, names[i]? = some a → names[i + 1]? = some b → Op.bytesLess b.toList a.toList = false := by
  intro i a b ha hb
  have hi : i < 9 := by have := (List.getElem?_eq_some_iff.1 hb).1; have h : names.length = 10 := rfl; omega
  have key : ∀ i, i < 9 → Op.bytesLess ((names[i + 1]?).getD ⟨#[]⟩).toList ((names[i]?).getD ⟨#[]⟩).toList = false := by decide +kernel
  have := key i hi
  rw [ha, hb] at this
  exact this
theorem compl_filt (s : ByteArray) : compl vl s 10 = filt names s 10 := rfl

set_option maxHeartbeats 1000000 in
set_option maxRecDepth 100000 in
theorem completes_c (s : ByteArray) (hs : Hp) : AC P 3 [.d (.str s)] hs (fun r _ => r = .d (.bool true)) := by
  have hnl : names.length = 10 := rfl
  have hcl := filt_len names s
  refine AC.of 34 Try.func3 rfl rfl rfl ?_
  refine W.reg ?_
  refine XOps.s rfl rfl rfl (Q.assign_d rfl) ?_
  refine XOps.nil ?_
  refine W.reg ?_
  refine XOps.s rfl rfl rfl (Q.call rfl Try.func4 go4 rfl (complete_c ⟨#[]⟩ _)) ?_
  refine XOps.s rfl rfl rfl (Q.assign_d rfl) ?_
  refine XOps.nil ?_
  refine W.as 3 (v' := .d (.sl 1 (names.map se))) (by decide) rfl (fun κ w O u h => by rw [← all_names]; exact h) ?_
  refine W.seq ?_
  refine W.reg ?_
  refine XOps.s rfl rfl rfl (Q.move_d rfl) ?_
  refine XOps.s rfl rfl rfl (Q.len_sl isl22 rfl) ?_
  refine XOps.s rfl rfl rfl (Q.neq rfl rfl) ?_
  refine XOps.s rfl rfl rfl (Q.move_d rfl) ?_
  refine XOps.gs rfl rfl rfl rfl rfl rfl rfl (fun hg => Q.move_d rfl) ?_
  refine XOps.gs rfl rfl rfl rfl rfl rfl rfl (fun hg => Quiet.open 12 hg rfl (Q.call rfl Try.func5 go5 rfl (sorted_c names _ (by decide) names_sorted))) ?_
  refine XOps.gs rfl rfl rfl rfl rfl rfl rfl (fun hg => Quiet.open 13 hg rfl (Q.not rfl)) ?_
  refine XOps.s rfl rfl rfl (Q.pick_or rfl rfl rfl (fun h => by rw [h]; rfl)) ?_
  refine XOps.nil ?_
  refine W.cond rfl (fun hc15 => ?_) (fun hc15 => ?_)
  · try simp only [Bool.or_eq_true, Bool.or_eq_false_iff, Bool.and_eq_true, Bool.and_eq_false_iff, decide_eq_true_eq, decide_eq_false_iff_not, Bool.not_eq_true', Bool.not_eq_false', Int.not_lt, Int.not_le, List.length_map] at hc15
    exact absurd hc15 (by decide)
  · try simp only [Bool.or_eq_true, Bool.or_eq_false_iff, Bool.and_eq_true, Bool.and_eq_false_iff, decide_eq_true_eq, decide_eq_false_iff_not, Bool.not_eq_true', Bool.not_eq_false', Int.not_lt, Int.not_le, List.length_map] at hc15
    refine W.skip ?_
    refine W.reg ?_
    refine XOps.s rfl rfl rfl (Q.assign_nilsl rfl) ?_
    refine XOps.nil ?_
    refine W.seq ?_
    refine W.ghost 4 1 (by decide) rfl (by decide) (fun v4 => ?_)
    refine W.reg ?_
    refine XOps.s rfl rfl rfl (Q.move_d rfl) ?_
    refine XOps.s rfl rfl rfl (Q.len_sl isl22 rfl) ?_
    refine XOps.s rfl rfl rfl (Q.move_d rfl) ?_
    refine XOps.nil ?_
    refine W.block ?_
    refine W.loop (ι := Nat × Nat) (fun p => [(0, .d (.str s)), (4, .vs p.2 0 (filt names s p.1).length 1), (16, .d (.sl 1 (names.map se))), (17, .d (.int .i64 names.length)), (18, .d (.int .i64 p.1))]) (fun p => (p.2, .lst 1 ((filt names s p.1).map se)) :: hs) (fun p => p.1 ≤ names.length) (fun p => names.length - p.1) (0, v4) ?_ ?_ ?_ ?_
    · exact Nat.zero_le _
    · exact ⟨by first | rfl | exact int_eq (by omega) | exact len_eq (by simp) | exact int_eq (by simp; done), by first | rfl | exact int_eq (by omega) | exact len_eq (by simp) | exact int_eq (by simp; done), by first | rfl | exact int_eq (by omega) | exact len_eq (by simp) | exact int_eq (by simp; done), by first | rfl | exact int_eq (by omega) | exact len_eq (by simp) | exact int_eq (by simp; done), by first | rfl | exact int_eq (by omega) | exact len_eq (by simp) | exact int_eq (by simp; done), trivial⟩
    · repeat (first | exact HLe.refl _ | refine HLe.cons' (by first | rfl | (simp [se]; done)) ?_ | refine HLe.skip _ ?_)
    · rintro ⟨k, u⟩ hk
      try dsimp only at hk ⊢
      refine W.reg ?_
      refine XOps.s rfl rfl rfl (Q.lss rfl rfl) ?_
      refine XOps.nil ?_
      refine W.seq ?_
      refine W.cond rfl (fun hc19 => ?_) (fun hc19 => ?_)
      · try simp only [Bool.or_eq_true, Bool.or_eq_false_iff, Bool.and_eq_true, Bool.and_eq_false_iff, decide_eq_true_eq, decide_eq_false_iff_not, Bool.not_eq_true', Bool.not_eq_false', Int.not_lt, Int.not_le, List.length_map] at hc19
        obtain ⟨x, hx⟩ : ∃ v, names[k]? = some v := ⟨_, List.getElem?_eq_getElem (by omega)⟩
        have hlS := filt_succ (s := s) hx
        have hck := hcl k
        refine W.skip ?_
        refine W.seq ?_
        refine W.block ?_
        refine W.reg ?_
        refine XOps.s rfl rfl rfl (Q.idx_sl sl22 (by decide) rfl rfl (by omega) (by first | exact map_at (by assumption) | exact map_at0 (by assumption) | assumption)) ?_
        refine XOps.s rfl rfl rfl (Q.ld_dp ag9 rfl rfl) ?_
        refine XOps.s rfl rfl rfl (Q.assign_d rfl) ?_
        refine XOps.nil ?_
        refine W.reg ?_
        refine XOps.s rfl rfl rfl (Q.move_d rfl) ?_
        refine XOps.s rfl rfl rfl (Q.move_d rfl) ?_
        refine XOps.s rfl rfl rfl (Q.call rfl Try.func6 go6 rfl (prefix_c x s _)) ?_
        refine XOps.nil ?_
        refine W.cond rfl (fun hc24 => ?_) (fun hc24 => ?_)
        · try simp only [Bool.or_eq_true, Bool.or_eq_false_iff, Bool.and_eq_true, Bool.and_eq_false_iff, decide_eq_true_eq, decide_eq_false_iff_not, Bool.not_eq_true', Bool.not_eq_false', Int.not_lt, Int.not_le, List.length_map] at hc24
          rw [if_pos hc24] at hlS
          refine W.region ?_
          refine XOps.s rfl rfl rfl (Q.move_vs rfl) ?_
          refine XOps.s rfl rfl rfl (Q.move_d rfl) ?_
          refine XOps.s rfl rfl rfl (Q.bsl1 sl22 zr22 rfl zrd22 rfl rfl) ?_
          refine XOps.loud rfl (L.app (k := 0) ap22 rfl rfl (by first | rfl | (simp [List.length_map]; done)) rfl (by simp; omega) rfl) ?_
          rintro _ _ ⟨v28, rfl, rfl⟩
          refine XOps.s rfl rfl rfl (Q.assign_vs rfl) ?_
          refine XOps.nil ?_
          obtain ⟨wn, rfl⟩ : ∃ x : Nat, x = v28 := ⟨_, rfl⟩
          refine W.region ?_
          refine XOps.s rfl rfl rfl (Q.add rfl rfl (wi64 (by omega) (by omega))) ?_
          refine XOps.s rfl rfl rfl (Q.move_d rfl) ?_
          refine XOps.nil ?_
          refine ⟨(k + 1, wn), ?_, ?_, ?_, ?_⟩
          · show k + 1 ≤ names.length; omega
          · show names.length - (k + 1) < names.length - k; omega
          · exact ⟨by first | rfl | exact int_eq (by omega) | exact len_eq (by simp) | exact int_eq (by simp; done), by (show AV.vs _ 0 _ 1 = .vs _ 0 _ 1; first | (rw [hlS]; done) | (rw [hlS]; simp; done)), by first | rfl | exact int_eq (by omega) | exact len_eq (by simp) | exact int_eq (by simp; done), by first | rfl | exact int_eq (by omega) | exact len_eq (by simp) | exact int_eq (by simp; done), by first | rfl | exact int_eq (by omega) | exact len_eq (by simp) | exact int_eq (by simp; done), trivial⟩
          · exact HLe.cons' (by first | (rw [hlS]; done) | (rw [hlS]; simp [se]; done)) (HLe.refl _)
        · try simp only [Bool.or_eq_true, Bool.or_eq_false_iff, Bool.and_eq_true, Bool.and_eq_false_iff, decide_eq_true_eq, decide_eq_false_iff_not, Bool.not_eq_true', Bool.not_eq_false', Int.not_lt, Int.not_le, List.length_map] at hc24
          rw [if_neg (by simpa using hc24)] at hlS
          obtain ⟨wn, rfl⟩ : ∃ x : Nat, x = u := ⟨_, rfl⟩
          refine W.skip ?_
          refine W.region ?_
          refine XOps.s rfl rfl rfl (Q.add rfl rfl (wi64 (by omega) (by omega))) ?_
          refine XOps.s rfl rfl rfl (Q.move_d rfl) ?_
          refine XOps.nil ?_
          refine ⟨(k + 1, wn), ?_, ?_, ?_, ?_⟩
          · show k + 1 ≤ names.length; omega
          · show names.length - (k + 1) < names.length - k; omega
          · exact ⟨by first | rfl | exact int_eq (by omega) | exact len_eq (by simp) | exact int_eq (by simp; done), by (show AV.vs _ 0 _ 1 = .vs _ 0 _ 1; first | (rw [hlS]; done) | (rw [hlS]; simp; done)), by first | rfl | exact int_eq (by omega) | exact len_eq (by simp) | exact int_eq (by simp; done), by first | rfl | exact int_eq (by omega) | exact len_eq (by simp) | exact int_eq (by simp; done), by first | rfl | exact int_eq (by omega) | exact len_eq (by simp) | exact int_eq (by simp; done), trivial⟩
          · exact HLe.cons' (by first | (rw [hlS]; done) | (rw [hlS]; simp [se]; done)) (HLe.refl _)
      · try simp only [Bool.or_eq_true, Bool.or_eq_false_iff, Bool.and_eq_true, Bool.and_eq_false_iff, decide_eq_true_eq, decide_eq_false_iff_not, Bool.not_eq_true', Bool.not_eq_false', Int.not_lt, Int.not_le, List.length_map] at hc19
        refine W.exit ?_
        obtain rfl : k = 10 := by omega
        refine W.freeze 4 0 rfl rfl (by simp) ?_
        refine W.reg ?_
        refine XOps.s rfl rfl rfl (Q.move_d rfl) ?_
        refine XOps.s rfl rfl rfl (Q.call rfl Try.func4 go4 rfl (complete_c s _)) ?_
        refine XOps.s rfl rfl rfl (Q.move_d rfl) ?_
        refine XOps.s rfl rfl rfl (Q.call rfl Try.func7 go7 rfl (equal_c (filt names s 10) _ (by have := hcl 10; omega))) ?_
        refine XOps.s rfl rfl rfl (Q.assign_d rfl) ?_
        refine XOps.nil ?_
        refine W.ret ?_
        refine ⟨_, hs, rfl, by repeat (first | exact HLe.refl _ | refine HLe.cons' (by first | rfl | (simp [se]; done)) ?_ | refine HLe.skip _ ?_), ?_⟩
        rfl
end Go.Proofs.YtdddebheolmldaaA
