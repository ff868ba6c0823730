/- Names; who is responsible: finding, cloning, inserting, deleting. -/
import Derived.Test.YtaegeaajhbfkgaaGreatDoorFrB
import Derived.Test.YtaegeaajhbfkgaaGreatDoorCen4
set_option linter.unusedVariables false
set_option linter.unusedSimpArgs false
set_option linter.unnecessarySimpa false
namespace Go.Proofs.YtaegeaajhbfkgaaGreatDoorA.FCeG
open Go
theorem ag57 : tAgg P 57 = some ((true, 3)) := by kernel_rfl
theorem ag9 : tAgg P 9 = some ((false, 1)) := by kernel_rfl
theorem ap55 : tApp P 55 = some ((3, 48)) := by kernel_rfl
theorem fl57_0 : tFld P 57 0 = some (0) := by kernel_rfl
theorem fl57_1 : tFld P 57 1 = some (1) := by kernel_rfl
theorem fl57_2 : tFld P 57 2 = some (2) := by kernel_rfl
theorem go107 : callGo Go.Proofs.Tryz.f107 = true := by kernel_rfl
theorem go117 : callGo Go.Proofs.Tryz.f117 = true := by kernel_rfl
theorem go118 : callGo Go.Proofs.Tryz.f118 = true := by kernel_rfl
theorem go119 : callGo Go.Proofs.Tryz.f119 = true := by kernel_rfl
theorem go123 : callGo Go.Proofs.Tryz.f123 = true := by kernel_rfl
theorem go127 : callGo Go.Proofs.Tryz.f127 = true := by kernel_rfl
theorem go96 : callGo Go.Proofs.Tryz.f96 = true := by kernel_rfl
theorem go97 : callGo Go.Proofs.Tryz.f97 = true := by kernel_rfl
theorem go98 : callGo Go.Proofs.Tryz.f98 = true := by kernel_rfl
theorem ik167 : tInt P 167 = some (.u64) := by kernel_rfl
theorem ik3 : tInt P 3 = some (.i64) := by kernel_rfl
theorem isl55 : isSl P 55 = true := by kernel_rfl
theorem ist9 : isStr P 9 = true := by kernel_rfl
theorem sl55 : tSl P 55 = some (3) := by kernel_rfl
theorem tz57 : tZero P 57 = some ([.string ⟨#[]⟩, .string ⟨#[]⟩, .string ⟨#[]⟩]) := by kernel_rfl
theorem zr55 : tZrow P 55 = some ([.string ⟨#[]⟩, .string ⟨#[]⟩, .string ⟨#[]⟩]) := by kernel_rfl
theorem zrd55 : cellsD [.string ⟨#[]⟩, .string ⟨#[]⟩, .string ⟨#[]⟩] = some ([.str ⟨#[]⟩, .str ⟨#[]⟩, .str ⟨#[]⟩]) := rfl
end Go.Proofs.YtaegeaajhbfkgaaGreatDoorA.FCeG
namespace Go.Proofs.YtaegeaajhbfkgaaGreatDoorA
open Go FCeG
attribute [local irreducible] XOps Quiet Loud W AC GQ DT
set_option maxHeartbeats 1000000 in
set_option maxRecDepth 100000 in
theorem cmps_c (a b : ByteArray) (hs : Hp) : AC P 123 [.d (.str a), .d (.str b)] hs (fun r h => r = .d (.int .i64 (cmpB a b)) ∧ h = hs) := by
  refine AC.of 8 Tryz.func123 rfl rfl rfl ?_
  refine W.reg ?_
  refine XOps.s rfl rfl rfl (Q.assign_d rfl) ?_
  refine XOps.nil ?_
  refine W.reg ?_
  refine XOps.s rfl rfl rfl (Q.move_d rfl) ?_
  refine XOps.s rfl rfl rfl (Q.move_d rfl) ?_
  refine XOps.s rfl rfl rfl (Q.cmpstr rfl (run_callFunc_extern (e := Extern.BytealgCompare.compare) Tryz.func129 (by kernel_rfl) (by kernel_rfl) (by kernel_rfl) (by kernel_rfl)) rfl rfl) ?_
  refine XOps.s rfl rfl rfl (Q.assign_d rfl) ?_
  refine XOps.nil ?_
  refine W.ret ?_
  refine ⟨_, hs, rfl, by repeat (first | exact HLe.refl _ | refine HLe.cons' (by first | rfl | (simp [Nd.enc]; done)) ?_ | refine HLe.pick 1 rfl (by first | rfl | (simp [Nd.enc]; done)) ?_ | refine HLe.pick 2 rfl (by first | rfl | (simp [Nd.enc]; done)) ?_ | refine HLe.pick 3 rfl (by first | rfl | (simp [Nd.enc]; done)) ?_ | refine HLe.pick 4 rfl (by first | rfl | (simp [Nd.enc]; done)) ?_ | refine HLe.pick 5 rfl (by first | rfl | (simp [Nd.enc]; done)) ?_ | refine HLe.skip _ ?_), ?_, rfl⟩
  rfl
set_option maxHeartbeats 1000000 in
set_option maxRecDepth 100000 in
theorem compare_c (a b : ByteArray) (hs : Hp) : AC P 107 [.d (.str a), .d (.str b)] hs (fun r h => r = .d (.int .i64 (cmpB a b)) ∧ h = hs) := by
  refine AC.of 8 Tryz.func107 rfl rfl rfl ?_
  refine W.reg ?_
  refine XOps.s rfl rfl rfl (Q.assign_d rfl) ?_
  refine XOps.nil ?_
  refine W.reg ?_
  refine XOps.s rfl rfl rfl (Q.move_d rfl) ?_
  refine XOps.s rfl rfl rfl (Q.move_d rfl) ?_
  refine XOps.s rfl rfl rfl (Q.call rfl Tryz.func123 go123 rfl (cmps_c a b _)) ?_
  refine XOps.s rfl rfl rfl (Q.assign_d rfl) ?_
  refine XOps.nil ?_
  refine W.ret ?_
  refine ⟨_, hs, rfl, by repeat (first | exact HLe.refl _ | refine HLe.cons' (by first | rfl | (simp [Nd.enc]; done)) ?_ | refine HLe.pick 1 rfl (by first | rfl | (simp [Nd.enc]; done)) ?_ | refine HLe.pick 2 rfl (by first | rfl | (simp [Nd.enc]; done)) ?_ | refine HLe.pick 3 rfl (by first | rfl | (simp [Nd.enc]; done)) ?_ | refine HLe.pick 4 rfl (by first | rfl | (simp [Nd.enc]; done)) ?_ | refine HLe.pick 5 rfl (by first | rfl | (simp [Nd.enc]; done)) ?_ | refine HLe.skip _ ?_), ?_, rfl⟩
  rfl
set_option maxHeartbeats 4000000 in
set_option maxRecDepth 100000 in
theorem cname_c (s : ByteArray) (hs : Hp) (hL : s.size ≤ 4611686018427387904) : AC P 127 [.d (.str s)] hs (fun r h => r = .d (.bool (nameS s)) ∧ h = hs) := by
  refine AC.of 46 Tryz.func127 rfl rfl rfl ?_
  refine W.reg ?_
  refine XOps.s rfl rfl rfl (Q.assign_d rfl) ?_
  refine XOps.nil ?_
  refine W.seq ?_
  refine W.reg ?_
  refine XOps.s rfl rfl rfl (Q.move_d rfl) ?_
  refine XOps.s rfl rfl rfl (Q.len_str ist9 rfl) ?_
  refine XOps.s rfl rfl rfl (Q.eql rfl rfl) ?_
  refine XOps.s rfl rfl rfl (Q.move_d rfl) ?_
  refine XOps.gs rfl rfl rfl rfl rfl rfl rfl (fun hg => Q.move_d rfl) ?_
  refine XOps.gs rfl rfl rfl rfl rfl rfl rfl (fun hg => Quiet.open 9 hg rfl (Q.len_str ist9 rfl)) ?_
  refine XOps.gs rfl rfl rfl rfl rfl rfl rfl (fun hg => Quiet.open 10 hg rfl (Q.gtr rfl rfl)) ?_
  refine XOps.s rfl rfl rfl (Q.pick_or rfl rfl rfl (fun h => by first | (rw [h]; rfl) | (rw [hg, h]; rfl) | (simp [h, hg]; done))) ?_
  refine XOps.s rfl rfl rfl (Q.move_d rfl) ?_
  refine XOps.gs rfl rfl rfl rfl rfl rfl rfl (fun hg => Q.move_d rfl) ?_
  refine XOps.gs rfl rfl rfl rfl rfl rfl rfl (fun hg => Quiet.open 14 hg rfl (Q.idx_str ist9 rfl rfl (by decide) (by have h : (decide ((s.size : Int) = 0) || decide ((8 : Int) < (s.size : Nat))) = false := beq_iff_eq.1 hg; simp only [Bool.or_eq_false_iff, decide_eq_false_iff_not] at h; omega))) ?_
  refine XOps.gs rfl rfl rfl rfl rfl rfl rfl (fun hg => Quiet.open 15 hg rfl (Q.lss rfl rfl)) ?_
  refine XOps.s rfl rfl rfl (Q.pick_or rfl rfl rfl (fun h => by first | (rw [h]; rfl) | (rw [hg, h]; rfl) | (simp [h, hg]; done))) ?_
  refine XOps.s rfl rfl rfl (Q.move_d rfl) ?_
  refine XOps.gs rfl rfl rfl rfl rfl rfl rfl (fun hg => Q.move_d rfl) ?_
  refine XOps.gs rfl rfl rfl rfl rfl rfl rfl (fun hg => Quiet.open 19 hg rfl (Q.idx_str ist9 rfl rfl (by decide) (by have h : (decide ((s.size : Int) = 0) || decide ((8 : Int) < (s.size : Nat))) = false := (Bool.or_eq_false_iff.1 (beq_iff_eq.1 hg)).1; simp only [Bool.or_eq_false_iff, decide_eq_false_iff_not] at h; omega))) ?_
  refine XOps.gs rfl rfl rfl rfl rfl rfl rfl (fun hg => Quiet.open 20 hg rfl (Q.gtr rfl rfl)) ?_
  refine XOps.s rfl rfl rfl (Q.pick_or rfl rfl rfl (fun h => by first | (rw [h]; rfl) | (rw [hg, h]; rfl) | (simp [h, hg]; done))) ?_
  refine XOps.nil ?_
  refine W.cond rfl (fun hc22 => ?_) (fun hc22 => ?_)
  · try simp only [Bool.or_eq_true, Bool.or_eq_false_iff, Bool.and_eq_true, Bool.and_eq_false_iff, decide_eq_true_eq, decide_eq_false_iff_not, Bool.not_eq_true', Bool.not_eq_false', Int.not_lt, Int.not_le, List.length_map] at hc22
    have hE : nameS s = false := by
      by_cases h0 : s.size = 0 ∨ 8 < s.size
      · exact name_no h0
      · refine name_bad (k := 0) (by omega) ?_
        cases h : okB 0 (byteAt s 0) with
        | false => rfl
        | true => have h2 := (okB_iff _ _).1 h; unfold byteAt at h2; simp only [Int.toNat_zero] at hc22; omega
    rw [hE]
    refine W.reg ?_
    refine XOps.s rfl rfl rfl (Q.assign_d rfl) ?_
    refine XOps.nil ?_
    refine W.ret ?_
    exact ⟨_, hs, rfl, HLe.refl _, rfl, rfl⟩
  · try simp only [Bool.or_eq_true, Bool.or_eq_false_iff, Bool.and_eq_true, Bool.and_eq_false_iff, decide_eq_true_eq, decide_eq_false_iff_not, Bool.not_eq_true', Bool.not_eq_false', Int.not_lt, Int.not_le, List.length_map] at hc22
    have hsz : s.size ≠ 0 ∧ s.size ≤ 8 := by omega
    have h0 : okB 0 (byteAt s 0) = true := (okB_iff _ _).2 (by unfold byteAt; simp only [Int.toNat_zero] at hc22; omega)
    refine W.skip ?_
    refine W.seq ?_
    refine W.reg ?_
    refine XOps.s rfl rfl rfl (Q.move_d rfl) ?_
    refine XOps.s rfl rfl rfl (Q.len_str ist9 rfl) ?_
    refine XOps.s rfl rfl rfl (Q.move_d rfl) ?_
    refine XOps.nil ?_
    refine W.block ?_
    refine W.loop (ι := Nat) (fun k => [(0, .d (.str s)), (24, .d (.int .i64 s.size)), (25, .d (.int .i64 (k : Nat)))]) (fun k => hs) (fun k => k ≤ s.size ∧ ∀ i, i < k → okB i (byteAt s i) = true) (fun k => s.size - k) 0 ?_ ?_ ?_ ?_
    · exact ⟨Nat.zero_le _, fun i hi => absurd hi (Nat.not_lt_zero _)⟩
    · exact ⟨by first | rfl | exact int_eq (by omega) | exact len_eq (by simp) | exact int_eq (by simp; done), by first | rfl | exact int_eq (by omega) | exact len_eq (by simp) | exact int_eq (by simp; done), by first | rfl | exact int_eq (by omega) | exact len_eq (by simp) | exact int_eq (by simp; done), trivial⟩
    · exact HLe.refl _
    · rintro k ⟨hk, hI⟩
      refine W.reg ?_
      refine XOps.s rfl rfl rfl (Q.lss rfl rfl) ?_
      refine XOps.nil ?_
      refine W.seq ?_
      refine W.cond rfl (fun hc26 => ?_) (fun hc26 => ?_)
      · try simp only [Bool.or_eq_true, Bool.or_eq_false_iff, Bool.and_eq_true, Bool.and_eq_false_iff, decide_eq_true_eq, decide_eq_false_iff_not, Bool.not_eq_true', Bool.not_eq_false', Int.not_lt, Int.not_le, List.length_map] at hc26
        refine W.skip ?_
        refine W.seq ?_
        refine W.block ?_
        refine W.reg ?_
        refine XOps.s rfl rfl rfl (Q.move_d rfl) ?_
        refine XOps.s rfl rfl rfl (Q.assign_d rfl) ?_
        refine XOps.nil ?_
        refine W.reg ?_
        refine XOps.s rfl rfl rfl (Q.move_d rfl) ?_
        refine XOps.s rfl rfl rfl (Q.move_d rfl) ?_
        refine XOps.s rfl rfl rfl (Q.idx_str ist9 rfl rfl (by first | omega | (simp at hg; omega)) (by first | omega | (simp at hg; omega))) ?_
        refine XOps.s rfl rfl rfl (Q.assign_d rfl) ?_
        refine XOps.nil ?_
        refine W.reg ?_
        refine XOps.s rfl rfl rfl (Q.move_d rfl) ?_
        refine XOps.s rfl rfl rfl (Q.lss rfl rfl) ?_
        refine XOps.s rfl rfl rfl (Q.move_d rfl) ?_
        refine XOps.gs rfl rfl rfl rfl rfl rfl rfl (fun hg => Q.move_d rfl) ?_
        refine XOps.gs rfl rfl rfl rfl rfl rfl rfl (fun hg => Quiet.open 34 hg rfl (Q.gtr rfl rfl)) ?_
        refine XOps.s rfl rfl rfl (Q.pick_or rfl rfl rfl (fun h => by first | (rw [h]; rfl) | (rw [hg, h]; rfl) | (simp [h, hg]; done))) ?_
        refine XOps.s rfl rfl rfl (Q.move_d rfl) ?_
        refine XOps.gs rfl rfl rfl rfl rfl rfl rfl (fun hg => Q.move_d rfl) ?_
        refine XOps.gs rfl rfl rfl rfl rfl rfl rfl (fun hg => Quiet.open 38 hg rfl (Q.lss rfl rfl)) ?_
        refine XOps.gs rfl rfl rfl rfl rfl rfl rfl (fun hg => Quiet.open 39 hg rfl (Q.move_d rfl)) ?_
        refine XOps.gsw rfl rfl rfl rfl rfl rfl rfl (fun hg => Q.move_d rfl) ?_
        refine XOps.gsw rfl rfl rfl rfl rfl rfl rfl (fun hg => Quiet.open 41 hg rfl (Q.gtr rfl rfl)) ?_
        refine XOps.gs rfl rfl rfl rfl rfl rfl rfl (fun hg => Quiet.open 40 hg rfl (Q.pick_or rfl rfl rfl (fun h => by first | (rw [h]; rfl) | (rw [hg, h]; rfl) | (simp [h, hg]; done)))) ?_
        refine XOps.s rfl rfl rfl (Q.pick_and rfl rfl rfl (fun h => by first | (rw [h]; rfl) | (rw [hg, h]; rfl) | (simp [h, hg]; done))) ?_
        refine XOps.nil ?_
        refine W.cond rfl (fun hc44 => ?_) (fun hc44 => ?_)
        · try simp only [Bool.or_eq_true, Bool.or_eq_false_iff, Bool.and_eq_true, Bool.and_eq_false_iff, decide_eq_true_eq, decide_eq_false_iff_not, Bool.not_eq_true', Bool.not_eq_false', Int.not_lt, Int.not_le, List.length_map] at hc44
          have hE : nameS s = false := name_bad (k := k) (by omega) (by
            cases h : okB k (byteAt s k) with
            | false => rfl
            | true => have h2 := (okB_iff _ _).1 h; unfold byteAt at h2; simp only [Int.toNat_natCast] at hc44; omega)
          rw [hE]
          refine W.reg ?_
          refine XOps.s rfl rfl rfl (Q.assign_d rfl) ?_
          refine XOps.nil ?_
          refine W.ret ?_
          exact ⟨_, hs, rfl, HLe.refl _, rfl, rfl⟩
        · try simp only [Bool.or_eq_true, Bool.or_eq_false_iff, Bool.and_eq_true, Bool.and_eq_false_iff, decide_eq_true_eq, decide_eq_false_iff_not, Bool.not_eq_true', Bool.not_eq_false', Int.not_lt, Int.not_le, List.length_map] at hc44
          have hok : okB k (byteAt s k) = true := by
            by_cases hk0 : k = 0
            · subst hk0; exact h0
            · refine (okB_iff _ _).2 ?_
              unfold byteAt
              simp only [Int.toNat_natCast] at hc44
              omega
          refine W.skip ?_
          refine W.region ?_
          refine XOps.s rfl rfl rfl (Q.add rfl rfl (wi64 (by first | omega | (dsimp only; omega) | (simp only [List.length_map]; omega)) (by first | omega | (dsimp only; omega) | (simp only [List.length_map]; omega)))) ?_
          refine XOps.s rfl rfl rfl (Q.move_d rfl) ?_
          refine XOps.nil ?_
          refine ⟨k + 1, ?_, ?_, ?_, ?_⟩
          · refine ⟨by omega, fun i hi => ?_⟩
            by_cases h : i = k
            · subst h; exact hok
            · exact hI i (by omega)
          · omega
          · exact ⟨by first | rfl | exact int_eq (by omega) | exact len_eq (by simp) | exact int_eq (by simp; done), by first | rfl | exact int_eq (by omega) | exact len_eq (by simp) | exact int_eq (by simp; done), by first | rfl | exact int_eq (by omega) | exact len_eq (by simp) | exact int_eq (by simp; done), trivial⟩
          · exact HLe.refl _
      · try simp only [Bool.or_eq_true, Bool.or_eq_false_iff, Bool.and_eq_true, Bool.and_eq_false_iff, decide_eq_true_eq, decide_eq_false_iff_not, Bool.not_eq_true', Bool.not_eq_false', Int.not_lt, Int.not_le, List.length_map] at hc26
        have hE : nameS s = true := name_ok hsz.1 hsz.2 fun i hi => hI i (by omega)
        rw [hE]
        refine W.exit ?_
        refine W.reg ?_
        refine XOps.s rfl rfl rfl (Q.assign_d rfl) ?_
        refine XOps.nil ?_
        refine W.ret ?_
        exact ⟨_, hs, rfl, HLe.refl _, rfl, rfl⟩
set_option maxHeartbeats 1000000 in
set_option maxRecDepth 100000 in
theorem sname_c (s : ByteArray) (hs : Hp) (hL : s.size ≤ 4611686018427387904) : AC P 117 [.d (.str s)] hs (fun r h => r = .d (.bool (nameS s)) ∧ h = hs) := by
  refine AC.of 5 Tryz.func117 rfl rfl rfl ?_
  refine W.reg ?_
  refine XOps.s rfl rfl rfl (Q.assign_d rfl) ?_
  refine XOps.nil ?_
  refine W.reg ?_
  refine XOps.s rfl rfl rfl (Q.move_d rfl) ?_
  refine XOps.s rfl rfl rfl (Q.call rfl Tryz.func127 go127 rfl (cname_c s _ hL)) ?_
  refine XOps.s rfl rfl rfl (Q.assign_d rfl) ?_
  refine XOps.nil ?_
  refine W.ret ?_
  exact ⟨_, hs, rfl, HLe.refl _, rfl, rfl⟩
set_option maxHeartbeats 1000000 in
set_option maxRecDepth 100000 in
theorem name_c (s : ByteArray) (hs : Hp) (hL : s.size ≤ 4611686018427387904) : AC P 97 [.d (.str s)] hs (fun r h => r = .d (.bool (nameS s)) ∧ h = hs) := by
  refine AC.of 5 Tryz.func97 rfl rfl rfl ?_
  refine W.reg ?_
  refine XOps.s rfl rfl rfl (Q.assign_d rfl) ?_
  refine XOps.nil ?_
  refine W.reg ?_
  refine XOps.s rfl rfl rfl (Q.move_d rfl) ?_
  refine XOps.s rfl rfl rfl (Q.call rfl Tryz.func117 go117 rfl (sname_c s _ hL)) ?_
  refine XOps.s rfl rfl rfl (Q.assign_d rfl) ?_
  refine XOps.nil ?_
  refine W.ret ?_
  exact ⟨_, hs, rfl, HLe.refl _, rfl, rfl⟩
theorem prevO_row {l : List OE} {k : Nat} (hk : k < l.length) (h0 : 0 < k) : (l.map OE.enc)[((k : Int) - 1).toNat]? = some (l.getD (k - 1) OE.zero).enc := by
  rw [show ((k : Int) - 1).toNat = k - 1 by omega, List.getElem?_map, List.getD_eq_getElem?_getD, List.getElem?_eq_getElem (by omega)]; rfl
theorem prevO_lt {l : List OE} {k : Nat} {x : OE} (h : SrtK OE.call l) (hx : l[k]? = some x) (h0 : 0 < k) : ¬ cmpB x.call (l.getD (k - 1) OE.zero).call ≤ 0 := by
  obtain ⟨hk, rfl⟩ := List.getElem?_eq_some_iff.1 hx
  have hp := List.pairwise_iff_getElem.1 h (k - 1) k (by omega) hk (by omega)
  rw [List.getD_eq_getElem?_getD, List.getElem?_eq_getElem (by omega), Option.getD_some, cmpB_anti]
  omega
set_option maxHeartbeats 4000000 in
set_option maxRecDepth 100000 in
theorem ochk_c (l : List OE) (hs : Hp) (o : OwOk l) : AC P 96 [.d (.sl 3 ((l).map OE.enc))] hs (fun r h => r = .d (.int .i64 (0)) ∧ h = hs) := by
  have hlen := o.len
  have hml : (l.map OE.enc).length = l.length := List.length_map _
  refine AC.of 55 Tryz.func96 rfl rfl rfl ?_
  refine W.reg ?_
  refine XOps.s rfl rfl rfl (Q.assign_d rfl) ?_
  refine XOps.nil ?_
  refine W.seq ?_
  refine W.reg ?_
  refine XOps.s rfl rfl rfl (Q.move_d rfl) ?_
  refine XOps.s rfl rfl rfl (Q.len_sl isl55 rfl) ?_
  refine XOps.s rfl rfl rfl (Q.gtr rfl rfl) ?_
  refine XOps.nil ?_
  refine W.cond rfl (fun hc7 => ?_) (fun hc7 => ?_)
  · skip
    exact absurd (of_decide_eq_true hc7) (by rw [List.length_map]; omega)
  · skip
    refine W.skip ?_
    refine W.seq ?_
    refine W.reg ?_
    refine XOps.s rfl rfl rfl (Q.move_d rfl) ?_
    refine XOps.s rfl rfl rfl (Q.len_sl isl55 rfl) ?_
    refine XOps.s rfl rfl rfl (Q.move_d rfl) ?_
    refine XOps.nil ?_
    refine W.block ?_
    refine W.loop (ι := Nat) (fun k => [(0, .d (.sl 3 ((l).map OE.enc))), (8, .d (.sl 3 ((l).map OE.enc))), (9, .d (.int .i64 l.length)), (10, .d (.int .i64 (k : Nat)))]) (fun k => hs) (fun k => k ≤ l.length) (fun k => l.length - k) 0 ?_ ?_ ?_ ?_
    · exact Nat.zero_le _
    · exact ⟨by first | rfl | exact int_eq (by omega) | exact len_eq (by simp) | exact int_eq (by simp; done), by first | rfl | exact int_eq (by omega) | exact len_eq (by simp) | exact int_eq (by simp; done), by exact int_eq (by rw [List.length_map]), by first | rfl | exact int_eq (by omega) | exact len_eq (by simp) | exact int_eq (by simp; done), trivial⟩
    · exact HLe.refl _
    · rintro k hk
      refine W.reg ?_
      refine XOps.s rfl rfl rfl (Q.lss rfl rfl) ?_
      refine XOps.nil ?_
      refine W.seq ?_
      refine W.cond rfl (fun hc11 => ?_) (fun hc11 => ?_)
      · skip
        have h11 : (k : Int) < (l.length : Nat) := of_decide_eq_true hc11
        obtain ⟨x, hx⟩ : ∃ x, l[k]? = some x := ⟨_, List.getElem?_eq_getElem (by omega)⟩
        have hkl : k < l.length := by omega
        have o1 := o.one x (List.mem_of_getElem? hx)
        refine W.skip ?_
        refine W.seq ?_
        refine W.block ?_
        refine W.reg ?_
        refine XOps.s rfl rfl rfl (Q.move_d rfl) ?_
        refine XOps.s rfl rfl rfl (Q.idx_sl sl55 (by decide) rfl rfl (by first | omega | (simp only [List.length_map]; omega)) (by exact map_at hx)) ?_
        refine XOps.s rfl rfl rfl (Q.ld_dpn ag57 rfl rfl) ?_
        (refine XOps.loud rfl (L.alloc tz57 rfl rfl) ?_; rintro _ _ ⟨b4, rfl, rfl⟩)
        refine XOps.s rfl rfl rfl (Q.assign_d rfl) ?_
        refine XOps.loud rfl (L.storen (k := 0) ag57 rfl rfl rfl rfl rfl) ?_
        rintro _ _ ⟨rfl, rfl⟩
        refine XOps.nil ?_
        refine W.seq ?_
        refine W.reg ?_
        refine XOps.s rfl rfl rfl (Q.fld_ptr fl57_0 rfl) ?_
        refine XOps.s rfl rfl rfl (Q.ld_ptr (k := 0) ag9 rfl rfl rfl) ?_
        refine XOps.s rfl rfl rfl (Q.call rfl Tryz.func97 go97 rfl (name_c x.call _ (by have := (name_size o1.call).2; omega))) ?_
        refine XOps.s rfl rfl rfl (Q.not rfl) ?_
        refine XOps.s rfl rfl rfl (Q.move_d rfl) ?_
        refine XOps.gs rfl rfl rfl rfl rfl rfl rfl (fun hg => Q.fld_ptr fl57_1 rfl) ?_
        refine XOps.gs rfl rfl rfl rfl rfl rfl rfl (fun hg => Quiet.open 20 hg rfl (Q.ld_ptr (k := 0) ag9 rfl rfl rfl)) ?_
        refine XOps.gs rfl rfl rfl rfl rfl rfl rfl (fun hg => Quiet.open 21 hg rfl (Q.call rfl Tryz.func97 go97 rfl (name_c x.own _ (by have := (name_size o1.own).2; omega)))) ?_
        refine XOps.gs rfl rfl rfl rfl rfl rfl rfl (fun hg => Quiet.open 22 hg rfl (Q.not rfl)) ?_
        refine XOps.s rfl rfl rfl (Q.pick_or rfl rfl rfl (fun h => by first | (rw [h]; rfl) | (rw [hg, h]; rfl) | (simp [h, hg]; done))) ?_
        refine XOps.s rfl rfl rfl (Q.move_d rfl) ?_
        refine XOps.gs rfl rfl rfl rfl rfl rfl rfl (fun hg => Q.fld_ptr fl57_2 rfl) ?_
        refine XOps.gs rfl rfl rfl rfl rfl rfl rfl (fun hg => Quiet.open 26 hg rfl (Q.ld_ptr (k := 0) ag9 rfl rfl rfl)) ?_
        refine XOps.gs rfl rfl rfl rfl rfl rfl rfl (fun hg => Quiet.open 27 hg rfl (Q.neq_str rfl rfl)) ?_
        refine XOps.gs rfl rfl rfl rfl rfl rfl rfl (fun hg => Quiet.open 28 hg rfl (Q.move_d rfl)) ?_
        refine XOps.gsw rfl rfl rfl rfl rfl rfl rfl (fun hg => Q.fld_ptr fl57_2 rfl) ?_
        refine XOps.gsw rfl rfl rfl rfl rfl rfl rfl (fun hg => Quiet.open 30 hg rfl (Q.ld_ptr (k := 0) ag9 rfl rfl rfl)) ?_
        refine XOps.gsw rfl rfl rfl rfl rfl rfl rfl (fun hg => Quiet.open 31 hg rfl (Q.call rfl Tryz.func97 go97 rfl (name_c x.off _ (o1.off.elim (fun h => by rw [h]; exact Nat.zero_le _) (fun h => by have := (name_size h).2; omega))))) ?_
        refine XOps.gsw rfl rfl rfl rfl rfl rfl rfl (fun hg => Quiet.open 32 hg rfl (Q.not rfl)) ?_
        refine XOps.gs rfl rfl rfl rfl rfl rfl rfl (fun hg => Quiet.open 29 hg rfl (Q.pick_and rfl rfl rfl (fun h => by first | (rw [h]; rfl) | (rw [hg, h]; rfl) | (simp [h, hg]; done)))) ?_
        refine XOps.s rfl rfl rfl (Q.pick_or rfl rfl rfl (fun h => by first | (rw [h]; rfl) | (rw [hg, h]; rfl) | (simp [h, hg]; done))) ?_
        refine XOps.nil ?_
        refine W.cond rfl (fun hc35 => ?_) (fun hc35 => ?_)
        · skip
          exfalso
          rw [o1.call, o1.own] at hc35
          rcases o1.off with h | h
          · rw [h] at hc35; simp [emB] at hc35
          · rw [h] at hc35; simp at hc35 --done
        · skip
          refine W.skip ?_
          refine W.seq ?_
          refine W.reg ?_
          refine XOps.s rfl rfl rfl (Q.fld_ptr fl57_2 rfl) ?_
          refine XOps.s rfl rfl rfl (Q.ld_ptr (k := 0) ag9 rfl rfl rfl) ?_
          refine XOps.s rfl rfl rfl (Q.fld_ptr fl57_1 rfl) ?_
          refine XOps.s rfl rfl rfl (Q.ld_ptr (k := 0) ag9 rfl rfl rfl) ?_
          refine XOps.s rfl rfl rfl (Q.eql_str rfl rfl) ?_
          refine XOps.nil ?_
          refine W.cond rfl (fun hc40 => ?_) (fun hc40 => ?_)
          · skip
            exact absurd ((seq_iff _ _).1 hc40) o1.ne
          · skip
            refine W.skip ?_
            refine W.drawreg 13 follows (by kernel_rfl) ?_
            refine Chain.cons _ (GQ.q rfl (Q.move_d rfl)) rfl ?_
            refine Chain.cons _ (GQ.q rfl (Q.gtr rfl rfl)) rfl ?_
            refine Chain.cons _ (GQ.q rfl (Q.move_d rfl)) rfl ?_
            refine Chain.cons _ (GQ.g rfl rfl rfl rfl rfl (fun hg => Q.fld_ptr fl57_0 rfl)) rfl ?_
            refine Chain.cons _ (GQ.g rfl rfl rfl rfl rfl (fun hg => Quiet.open 44 hg rfl (Q.ld_ptr (k := 0) ag9 rfl rfl rfl))) rfl ?_
            refine Chain.cons _ (GQ.g rfl rfl rfl rfl rfl (fun hg => Q.move_d rfl)) rfl ?_
            refine Chain.cons _ (GQ.g rfl rfl rfl rfl rfl (fun hg => Q.move_d rfl)) rfl ?_
            refine Chain.cons _ (GQ.g rfl rfl rfl rfl rfl (fun hg => Quiet.open 47 hg rfl (Q.sub rfl rfl (wi64 (by first | omega | (dsimp only; omega) | (simp only [List.length_map]; omega)) (by first | omega | (dsimp only; omega) | (simp only [List.length_map]; omega)))))) rfl ?_
            refine Chain.cons _ (GQ.g rfl rfl rfl rfl rfl (fun hg => Quiet.open 46 hg rfl (Quiet.open 48 hg rfl (Q.idx_sl sl55 (by decide) rfl rfl (by simp at hg; omega) (prevO_row hkl (by simp at hg; omega)))))) rfl ?_
            refine Chain.cons _ (GQ.g rfl rfl rfl rfl rfl (fun hg => Quiet.open 49 hg rfl (Q.fld_dp fl57_0 rfl))) rfl ?_
            refine Chain.cons _ (GQ.g rfl rfl rfl rfl rfl (fun hg => Quiet.open 50 hg rfl (Q.ld_dp ag9 rfl rfl))) rfl ?_
            refine Chain.cons _ (GQ.g rfl rfl rfl rfl rfl (fun hg => Quiet.open 45 hg rfl (Quiet.open 51 hg rfl (Q.leq_str rfl rfl)))) rfl ?_
            refine Chain.cons _ (GQ.q rfl (Q.pick_and rfl rfl rfl (fun h => by first | (rw [h]; rfl) | (rw [hg, h]; rfl) | (simp [h, hg]; done)))) rfl ?_
            refine Chain.nil ?_
            refine XOps.nil ?_
            refine W.cond rfl (fun hc53 => ?_) (fun hc53 => ?_)
            · skip
              exfalso
              have h53 := hc53
              rw [leq_cmpB] at h53
              simp only [Bool.and_eq_true, decide_eq_true_eq] at h53
              exact prevO_lt o.srt hx (by omega) h53.2 --done
            · skip
              refine W.skip ?_
              refine W.region ?_
              refine XOps.s rfl rfl rfl (Q.add rfl rfl (wi64 (by first | omega | (dsimp only; omega) | (simp only [List.length_map]; omega)) (by first | omega | (dsimp only; omega) | (simp only [List.length_map]; omega)))) ?_
              refine XOps.s rfl rfl rfl (Q.move_d rfl) ?_
              refine XOps.nil ?_
              refine ⟨k + 1, ?_, ?_, ?_, ?_⟩
              · omega
              · omega
              · exact ⟨by first | rfl | exact int_eq (by omega) | exact len_eq (by simp) | exact int_eq (by simp; done), by first | rfl | exact int_eq (by omega) | exact len_eq (by simp) | exact int_eq (by simp; done), by first | rfl | exact int_eq (by omega) | exact len_eq (by simp) | exact int_eq (by simp; done), by first | rfl | exact int_eq (by omega) | exact len_eq (by simp) | exact int_eq (by simp; done), trivial⟩
              · exact HLe.skip _ (HLe.refl _)
      · skip
        refine W.exit ?_
        refine W.reg ?_
        refine XOps.s rfl rfl rfl (Q.assign_d rfl) ?_
        refine XOps.nil ?_
        refine W.ret ?_
        exact ⟨_, hs, rfl, HLe.refl _, rfl, rfl⟩
set_option maxHeartbeats 1000000 in
set_option maxRecDepth 100000 in
theorem cO_c (c : ByteArray) (x : OE) (hs : Hp) : AC P 119 [.d (.agg x.enc), .d (.str c)] hs (fun r h => r = .d (.int .i64 (cmpB x.call c)) ∧ h = hs) := by
  refine AC.of 9 Tryz.func119 rfl rfl rfl ?_
  refine W.reg ?_
  refine XOps.loud rfl (L.boxn rfl rfl) ?_
  rintro _ _ ⟨b2, rfl, rfl⟩
  refine XOps.s rfl rfl rfl (Q.assign_d rfl) ?_
  refine XOps.nil ?_
  refine W.reg ?_
  refine XOps.s rfl rfl rfl (Q.fld_ptr fl57_0 rfl) ?_
  refine XOps.s rfl rfl rfl (Q.ld_ptr (k := 0) ag9 rfl rfl rfl) ?_
  refine XOps.s rfl rfl rfl (Q.move_d rfl) ?_
  refine XOps.s rfl rfl rfl (Q.call rfl Tryz.func107 go107 rfl (compare_c x.call c _)) ?_
  refine XOps.s rfl rfl rfl (Q.assign_d rfl) ?_
  refine XOps.nil ?_
  refine W.ret ?_
  exact ⟨_, hs, rfl, HLe.skip _ (HLe.refl _), rfl, rfl⟩
set_option maxHeartbeats 1000000 in
set_option maxRecDepth 100000 in
theorem bsO_c (c0 : ByteArray) {fn : Func} (f : Nat) (caps : List AV) (x0 : OE) (c : OE → Int) (l : List OE) (hs : Hp) (hL : l.length ≤ 4611686018427387903) (hf : P.funcs[f]? = some fn) (hgo : callGo fn = true) (hp : ∀ x ∈ l, AC P f ([.d (.agg (OE.enc x)), .d (.str c0)] ++ caps) hs (fun r h => r = .d (.int .i64 (c x)) ∧ h = hs)) (hm : ∀ (i j : Nat) (x y : OE), i ≤ j → l[i]? = some x → l[j]? = some y → c y < 0 → c x < 0) : AC P 118 [.d (.sl 3 (l.map OE.enc)), .d (.str c0), .fn f caps] hs (fun r h => r = .tup [.d (.int .i64 (bsK c l : Nat)), .d (.bool (bsF c l))] ∧ h = hs) := by
  refine AC.of 49 Tryz.func118 rfl rfl rfl ?_
  refine W.reg ?_
  refine XOps.s rfl rfl rfl (Q.assign_d rfl) ?_
  refine XOps.s rfl rfl rfl (Q.assign_d rfl) ?_
  refine XOps.nil ?_
  refine W.reg ?_
  refine XOps.s rfl rfl rfl (Q.move_d rfl) ?_
  refine XOps.s rfl rfl rfl (Q.len_sl isl55 rfl) ?_
  refine XOps.s rfl rfl rfl (Q.assign_d rfl) ?_
  refine XOps.nil ?_
  refine W.reg ?_
  refine XOps.s rfl rfl rfl (Q.move_d rfl) ?_
  refine XOps.s rfl rfl rfl (Q.assign_d rfl) ?_
  refine XOps.s rfl rfl rfl (Q.assign_d rfl) ?_
  refine XOps.nil ?_
  refine W.seq ?_
  refine W.block ?_
  refine W.loop (ι := Nat × Nat) (fun p => [(0, .d (.sl 3 (l.map OE.enc))), (1, .d (.str c0)), (2, .fn f caps), (8, .d (.int .i64 l.length)), (9, .d (.int .i64 p.1)), (10, .d (.int .i64 p.2))]) (fun p => hs) (fun p => p.1 ≤ p.2 ∧ p.2 ≤ l.length ∧ (∀ (q : Nat) x, q < p.1 → l[q]? = some x → c x < 0) ∧ (∀ (q : Nat) x, p.2 ≤ q → l[q]? = some x → ¬ c x < 0)) (fun p => p.2 - p.1) (0, l.length) ?_ ?_ ?_ ?_
  · exact ⟨Nat.zero_le _, Nat.le_refl _, fun q x h => absurd h (Nat.not_lt_zero _), fun q x h hx => absurd (List.getElem?_eq_some_iff.1 hx).1 (by dsimp only at h; omega)⟩
  · exact ⟨by first | rfl | exact int_eq (by omega) | exact len_eq (by simp) | exact int_eq (by simp; done), by first | rfl | exact int_eq (by omega) | exact len_eq (by simp) | exact int_eq (by simp; done), by first | rfl | exact int_eq (by omega) | exact len_eq (by simp) | exact int_eq (by simp; done), by first | rfl | exact int_eq (by omega) | exact len_eq (by simp) | exact int_eq (by simp; done), by first | rfl | exact int_eq (by omega) | exact len_eq (by simp) | exact int_eq (by simp; done), by first | rfl | exact int_eq (by omega) | exact len_eq (by simp) | exact int_eq (by simp; done), trivial⟩
  · repeat (first | exact HLe.refl _ | refine HLe.cons' (by first | rfl | (simp [Nd.enc]; done)) ?_ | refine HLe.pick 1 rfl (by first | rfl | (simp [Nd.enc]; done)) ?_ | refine HLe.pick 2 rfl (by first | rfl | (simp [Nd.enc]; done)) ?_ | refine HLe.pick 3 rfl (by first | rfl | (simp [Nd.enc]; done)) ?_ | refine HLe.pick 4 rfl (by first | rfl | (simp [Nd.enc]; done)) ?_ | refine HLe.pick 5 rfl (by first | rfl | (simp [Nd.enc]; done)) ?_ | refine HLe.skip _ ?_)
  · rintro ⟨i, j⟩ hI
    try dsimp only at hI ⊢
    refine W.seq ?_
    refine W.reg ?_
    refine XOps.s rfl rfl rfl (Q.move_d rfl) ?_
    refine XOps.s rfl rfl rfl (Q.move_d rfl) ?_
    refine XOps.s rfl rfl rfl (Q.lss rfl rfl) ?_
    refine XOps.nil ?_
    refine W.cond rfl (fun hc17 => ?_) (fun hc17 => ?_)
    · try simp only [Bool.or_eq_true, Bool.or_eq_false_iff, Bool.and_eq_true, Bool.and_eq_false_iff, decide_eq_true_eq, decide_eq_false_iff_not, Bool.not_eq_true', Bool.not_eq_false', Int.not_lt, Int.not_le, List.length_map] at hc17
      obtain ⟨x, hx⟩ : ∃ x, l[(i + j) / 2]? = some x := ⟨_, List.getElem?_eq_getElem (by omega)⟩
      refine W.skip ?_
      refine W.block ?_
      refine W.reg ?_
      refine XOps.s rfl rfl rfl (Q.move_d rfl) ?_
      refine XOps.s rfl rfl rfl (Q.move_d rfl) ?_
      refine XOps.s rfl rfl rfl (Q.add rfl rfl (wi64 (by first | omega | (dsimp only; omega) | (simp only [List.length_map]; omega)) (by first | omega | (dsimp only; omega) | (simp only [List.length_map]; omega)))) ?_
      refine XOps.s rfl rfl rfl (Q.conv_cnt ik167 rfl (und_int ik3) (by omega) (by omega) (.inl rfl)) ?_
      refine XOps.s rfl rfl rfl (Q.shr1 (n := i + j) rfl rfl) ?_
      refine XOps.s rfl rfl rfl (Q.conv_cnt ik3 rfl (und_int ik167) (by omega) (by omega) (.inr rfl)) ?_
      refine XOps.s rfl rfl rfl (Q.assign_d rfl) ?_
      refine XOps.nil ?_
      refine W.reg ?_
      refine XOps.s rfl rfl rfl (Q.move_fn rfl) ?_
      refine XOps.s rfl rfl rfl (Q.move_d rfl) ?_
      refine XOps.s rfl rfl rfl (Q.move_d rfl) ?_
      refine XOps.s rfl rfl rfl (Q.idx_sl sl55 (by decide) rfl rfl (by first | omega | (simp only [List.length_map]; omega)) (by first | exact map_at hx | exact map_at (hx (by first | omega | (simp at hg; omega))))) ?_
      refine XOps.s rfl rfl rfl (Q.ld_dpn ag57 rfl rfl) ?_
      refine XOps.s rfl rfl rfl (Q.move_d rfl) ?_
      refine XOps.s rfl rfl rfl (Q.call rfl hf hgo rfl (hp x (List.mem_of_getElem? hx))) ?_
      refine XOps.s rfl rfl rfl (Q.lss rfl rfl) ?_
      refine XOps.nil ?_
      refine W.cond rfl (fun hc31 => ?_) (fun hc31 => ?_)
      · try simp only [Bool.or_eq_true, Bool.or_eq_false_iff, Bool.and_eq_true, Bool.and_eq_false_iff, decide_eq_true_eq, decide_eq_false_iff_not, Bool.not_eq_true', Bool.not_eq_false', Int.not_lt, Int.not_le, List.length_map] at hc31
        have hlo := hc31
        refine W.region ?_
        refine XOps.s rfl rfl rfl (Q.move_d rfl) ?_
        refine XOps.s rfl rfl rfl (Q.add rfl rfl (wi64 (by first | omega | (dsimp only; omega) | (simp only [List.length_map]; omega)) (by first | omega | (dsimp only; omega) | (simp only [List.length_map]; omega)))) ?_
        refine XOps.s rfl rfl rfl (Q.assign_d rfl) ?_
        refine XOps.nil ?_
        refine ⟨by clear hlo; exact ((i + j) / 2 + 1, j), ?_, ?_, ?_, ?_⟩
        · exact ⟨by dsimp only; omega, hI.2.1, fun q y hq hy => hm q _ y x (by dsimp only at hq; omega) hy hx hc31, hI.2.2.2⟩
        · dsimp only; omega
        · exact ⟨by first | rfl | exact int_eq (by omega) | exact len_eq (by simp) | exact int_eq (by simp; done), by first | rfl | exact int_eq (by omega) | exact len_eq (by simp) | exact int_eq (by simp; done), by first | rfl | exact int_eq (by omega) | exact len_eq (by simp) | exact int_eq (by simp; done), by first | rfl | exact int_eq (by omega) | exact len_eq (by simp) | exact int_eq (by simp; done), by first | rfl | exact int_eq (by omega) | exact len_eq (by simp) | exact int_eq (by simp; done), by first | rfl | exact int_eq (by omega) | exact len_eq (by simp) | exact int_eq (by simp; done), trivial⟩
        · repeat (first | exact HLe.refl _ | refine HLe.cons' (by first | rfl | (simp [Nd.enc]; done)) ?_ | refine HLe.pick 1 rfl (by first | rfl | (simp [Nd.enc]; done)) ?_ | refine HLe.pick 2 rfl (by first | rfl | (simp [Nd.enc]; done)) ?_ | refine HLe.pick 3 rfl (by first | rfl | (simp [Nd.enc]; done)) ?_ | refine HLe.pick 4 rfl (by first | rfl | (simp [Nd.enc]; done)) ?_ | refine HLe.pick 5 rfl (by first | rfl | (simp [Nd.enc]; done)) ?_ | refine HLe.skip _ ?_)
      · try simp only [Bool.or_eq_true, Bool.or_eq_false_iff, Bool.and_eq_true, Bool.and_eq_false_iff, decide_eq_true_eq, decide_eq_false_iff_not, Bool.not_eq_true', Bool.not_eq_false', Int.not_lt, Int.not_le, List.length_map] at hc31
        have hhi := hc31
        refine W.region ?_
        refine XOps.s rfl rfl rfl (Q.move_d rfl) ?_
        refine XOps.s rfl rfl rfl (Q.assign_d rfl) ?_
        refine XOps.nil ?_
        refine ⟨by clear hhi; exact (i, (i + j) / 2), ?_, ?_, ?_, ?_⟩
        · exact ⟨by dsimp only; omega, by dsimp only; omega, hI.2.2.1, fun q y hq hy hn => absurd (hm _ q x y hq hx hy hn) (by omega)⟩
        · dsimp only; omega
        · exact ⟨by first | rfl | exact int_eq (by omega) | exact len_eq (by simp) | exact int_eq (by simp; done), by first | rfl | exact int_eq (by omega) | exact len_eq (by simp) | exact int_eq (by simp; done), by first | rfl | exact int_eq (by omega) | exact len_eq (by simp) | exact int_eq (by simp; done), by first | rfl | exact int_eq (by omega) | exact len_eq (by simp) | exact int_eq (by simp; done), by first | rfl | exact int_eq (by omega) | exact len_eq (by simp) | exact int_eq (by simp; done), by first | rfl | exact int_eq (by omega) | exact len_eq (by simp) | exact int_eq (by simp; done), trivial⟩
        · repeat (first | exact HLe.refl _ | refine HLe.cons' (by first | rfl | (simp [Nd.enc]; done)) ?_ | refine HLe.pick 1 rfl (by first | rfl | (simp [Nd.enc]; done)) ?_ | refine HLe.pick 2 rfl (by first | rfl | (simp [Nd.enc]; done)) ?_ | refine HLe.pick 3 rfl (by first | rfl | (simp [Nd.enc]; done)) ?_ | refine HLe.pick 4 rfl (by first | rfl | (simp [Nd.enc]; done)) ?_ | refine HLe.pick 5 rfl (by first | rfl | (simp [Nd.enc]; done)) ?_ | refine HLe.skip _ ?_)
    · try simp only [Bool.or_eq_true, Bool.or_eq_false_iff, Bool.and_eq_true, Bool.and_eq_false_iff, decide_eq_true_eq, decide_eq_false_iff_not, Bool.not_eq_true', Bool.not_eq_false', Int.not_lt, Int.not_le, List.length_map] at hc17
      obtain rfl : i = j := by omega
      have hK : bsK c l = i := bsK_eq c hI.2.2.1 (fun x hx => hI.2.2.2 i x (Nat.le_refl _) hx) hI.2.1
      obtain ⟨x, hx⟩ : ∃ x, i < l.length → l[i]? = some x := by
        rcases Nat.lt_or_ge i l.length with h | h
        · exact ⟨l[i], fun _ => List.getElem?_eq_getElem h⟩
        · exact ⟨x0, fun h2 => absurd h2 (by omega)⟩
      have hF : bsF c l = (decide ((i : Int) < (l.length : Nat)) && decide (c x = 0)) := by
        unfold bsF; rw [hK]
        rcases Nat.lt_or_ge i l.length with h | h
        · rw [hx h, decide_eq_true (show (i : Int) < (l.length : Nat) by omega)]; rfl
        · rw [List.getElem?_eq_none h, decide_eq_false (show ¬ (i : Int) < (l.length : Nat) by omega)]; rfl
      refine W.exit ?_
      refine W.reg ?_
      refine XOps.s rfl rfl rfl (Q.move_d rfl) ?_
      refine XOps.s rfl rfl rfl (Q.move_d rfl) ?_
      refine XOps.s rfl rfl rfl (Q.move_d rfl) ?_
      refine XOps.s rfl rfl rfl (Q.lss rfl rfl) ?_
      refine XOps.s rfl rfl rfl (Q.move_d rfl) ?_
      refine XOps.gs rfl rfl rfl rfl rfl rfl rfl (fun hg => Q.move_fn rfl) ?_
      refine XOps.gs rfl rfl rfl rfl rfl rfl rfl (fun hg => Q.move_d rfl) ?_
      refine XOps.gs rfl rfl rfl rfl rfl rfl rfl (fun hg => Q.move_d rfl) ?_
      refine XOps.gs rfl rfl rfl rfl rfl rfl rfl (fun hg => Quiet.open 41 hg rfl (Quiet.open 42 hg rfl (Q.idx_sl sl55 (by decide) rfl rfl (by first | omega | (simp only [List.length_map]; omega)) (by first | exact map_at hx | exact map_at (hx (by first | omega | (simp at hg; omega))))))) ?_
      refine XOps.gs rfl rfl rfl rfl rfl rfl rfl (fun hg => Quiet.open 43 hg rfl (Q.ld_dpn ag57 rfl rfl)) ?_
      refine XOps.gs rfl rfl rfl rfl rfl rfl rfl (fun hg => Q.move_d rfl) ?_
      refine XOps.gs rfl rfl rfl rfl rfl rfl rfl (fun hg => Quiet.open 40 hg rfl (Quiet.open 44 hg rfl (Quiet.open 45 hg rfl (Q.call rfl hf hgo rfl (hp x (List.mem_of_getElem? (hx (by first | omega | (simp at hg; omega))))))))) ?_
      refine XOps.gs rfl rfl rfl rfl rfl rfl rfl (fun hg => Quiet.open 46 hg rfl (Q.eql rfl rfl)) ?_
      refine XOps.s rfl rfl rfl (Q.pick_and rfl rfl rfl (fun h => by first | (rw [h]; rfl) | (rw [hg, h]; rfl) | (simp [h, hg]; done))) ?_
      refine XOps.s rfl rfl rfl (Q.assign_d rfl) ?_
      refine XOps.s rfl rfl rfl (Q.assign_d rfl) ?_
      refine XOps.nil ?_
      refine W.ret ?_
      refine ⟨_, hs, rfl, by repeat (first | exact HLe.refl _ | refine HLe.cons' (by first | rfl | (simp [Nd.enc]; done)) ?_ | refine HLe.pick 1 rfl (by first | rfl | (simp [Nd.enc]; done)) ?_ | refine HLe.pick 2 rfl (by first | rfl | (simp [Nd.enc]; done)) ?_ | refine HLe.pick 3 rfl (by first | rfl | (simp [Nd.enc]; done)) ?_ | refine HLe.pick 4 rfl (by first | rfl | (simp [Nd.enc]; done)) ?_ | refine HLe.pick 5 rfl (by first | rfl | (simp [Nd.enc]; done)) ?_ | refine HLe.skip _ ?_), ?_, rfl⟩
      rw [hK, hF]; rfl
set_option maxHeartbeats 1000000 in
set_option maxRecDepth 100000 in
theorem ofind_c (l : List OE) (c : ByteArray) (hs : Hp) (o : OwOk l) : AC P 98 [.d (.sl 3 ((l).map OE.enc)), .d (.str c)] hs (fun r h => r = .tup [.d (.int .i64 (posO l c : Nat)), .d (.bool (hasO l c))] ∧ h = hs) := by
  have hlen := o.len
  refine AC.of 11 Tryz.func98 rfl rfl rfl ?_
  refine W.reg ?_
  refine XOps.s rfl rfl rfl (Q.assign_d rfl) ?_
  refine XOps.s rfl rfl rfl (Q.assign_d rfl) ?_
  refine XOps.nil ?_
  refine W.reg ?_
  refine XOps.s rfl rfl rfl (Q.move_d rfl) ?_
  refine XOps.s rfl rfl rfl (Q.move_d rfl) ?_
  refine XOps.s rfl rfl rfl (Q.call rfl Tryz.func118 go118 rfl (bsO_c c 119 [] OE.zero (fun x => cmpB x.call c) l _ (by omega) Tryz.func119 go119 (fun x _ => cO_c c x _) (o.srt.mono c))) ?_
  refine XOps.s rfl rfl rfl (Q.extract rfl rfl) ?_
  refine XOps.s rfl rfl rfl (Q.extract rfl rfl) ?_
  refine XOps.s rfl rfl rfl (Q.assign_d rfl) ?_
  refine XOps.s rfl rfl rfl (Q.assign_d rfl) ?_
  refine XOps.nil ?_
  refine W.ret ?_
  exact ⟨_, hs, rfl, HLe.refl _, rfl, rfl⟩
set_option maxHeartbeats 1000000 in
set_option maxRecDepth 100000 in
theorem oat_c (l : List OE) (c : ByteArray) (hs : Hp) (o : OwOk l) : AC P 110 [.d (.sl 3 ((l).map OE.enc)), .d (.str c)] hs (fun r h => r = .tup [.d (.int .i64 (if hasO l c = true then (posO l c : Nat) else 0)), .d (.int .i64 (if hasO l c = true then 0 else 8))] ∧ h = hs) := by
  refine AC.of 23 Tryz.func110 rfl rfl rfl ?_
  refine W.reg ?_
  refine XOps.s rfl rfl rfl (Q.assign_d rfl) ?_
  refine XOps.s rfl rfl rfl (Q.assign_d rfl) ?_
  refine XOps.nil ?_
  refine W.seq ?_
  refine W.reg ?_
  refine XOps.s rfl rfl rfl (Q.move_d rfl) ?_
  refine XOps.s rfl rfl rfl (Q.call rfl Tryz.func96 go96 rfl (ochk_c l _ o)) ?_
  refine XOps.s rfl rfl rfl (Q.assign_d rfl) ?_
  refine XOps.nil ?_
  refine W.reg ?_
  refine XOps.s rfl rfl rfl (Q.move_d rfl) ?_
  refine XOps.s rfl rfl rfl (Q.neq rfl rfl) ?_
  refine XOps.nil ?_
  refine W.cond_f rfl ?_
  refine W.skip ?_
  refine W.reg ?_
  refine XOps.s rfl rfl rfl (Q.move_d rfl) ?_
  refine XOps.s rfl rfl rfl (Q.move_d rfl) ?_
  refine XOps.s rfl rfl rfl (Q.call rfl Tryz.func98 go98 rfl (ofind_c l c _ o)) ?_
  refine XOps.s rfl rfl rfl (Q.move_tup rfl) ?_
  refine XOps.s rfl rfl rfl (Q.extract rfl rfl) ?_
  refine XOps.s rfl rfl rfl (Q.extract rfl rfl) ?_
  refine XOps.s rfl rfl rfl (Q.assign_d rfl) ?_
  refine XOps.s rfl rfl rfl (Q.assign_d rfl) ?_
  refine XOps.nil ?_
  refine W.seq ?_
  refine W.reg ?_
  refine XOps.s rfl rfl rfl (Q.move_d rfl) ?_
  refine XOps.s rfl rfl rfl (Q.not rfl) ?_
  refine XOps.nil ?_
  refine W.cond rfl (fun hc21 => ?_) (fun hc21 => ?_)
  · try simp only [Bool.or_eq_true, Bool.or_eq_false_iff, Bool.and_eq_true, Bool.and_eq_false_iff, decide_eq_true_eq, decide_eq_false_iff_not, Bool.not_eq_true', Bool.not_eq_false', Int.not_lt, Int.not_le, List.length_map] at hc21
    have h21 : hasO l c = false := by simpa using hc21
    rw [h21]
    refine W.reg ?_
    refine XOps.s rfl rfl rfl (Q.assign_d rfl) ?_
    refine XOps.s rfl rfl rfl (Q.assign_d rfl) ?_
    refine XOps.nil ?_
    refine W.ret ?_
    exact ⟨_, hs, rfl, HLe.refl _, rfl, rfl⟩
  · try simp only [Bool.or_eq_true, Bool.or_eq_false_iff, Bool.and_eq_true, Bool.and_eq_false_iff, decide_eq_true_eq, decide_eq_false_iff_not, Bool.not_eq_true', Bool.not_eq_false', Int.not_lt, Int.not_le, List.length_map] at hc21
    have h21 : hasO l c = true := by simpa using hc21
    rw [h21]
    refine W.skip ?_
    refine W.reg ?_
    refine XOps.s rfl rfl rfl (Q.move_d rfl) ?_
    refine XOps.s rfl rfl rfl (Q.assign_d rfl) ?_
    refine XOps.s rfl rfl rfl (Q.assign_d rfl) ?_
    refine XOps.nil ?_
    refine W.ret ?_
    exact ⟨_, hs, rfl, HLe.refl _, rfl, rfl⟩
set_option maxHeartbeats 1000000 in
set_option maxRecDepth 100000 in
theorem cloneO_c (l : List OE) (hs : Hp) (hL : l.length * 48 ≤ 140737488355328) : AC P 45 [.d (.sl 3 (l.map OE.enc))] hs (fun r h => ∃ v, r = .vs v 0 l.length 3 ∧ h = (v, .lst 3 (l.map OE.enc)) :: hs) := by
  refine AC.of 8 Tryz.func45 rfl rfl rfl ?_
  refine W.reg ?_
  refine XOps.s rfl rfl rfl (Q.assign_nilsl rfl) ?_
  refine XOps.nil ?_
  refine W.seq ?_
  refine W.reg ?_
  refine XOps.s rfl rfl rfl (Q.move_d rfl) ?_
  (refine XOps.loud rfl (L.eqnil sl55 (by decide) rfl rfl rfl) ?_; rintro _ _ ⟨bb, hbb, rfl, hh⟩; obtain rfl := hh.symm)
  refine XOps.nil ?_
  refine W.cond rfl (fun hc4 => ?_) (fun hc4 => ?_)
  · try simp only [Bool.or_eq_true, Bool.or_eq_false_iff, Bool.and_eq_true, Bool.and_eq_false_iff, decide_eq_true_eq, decide_eq_false_iff_not, Bool.not_eq_true', Bool.not_eq_false', Int.not_lt, Int.not_le, List.length_map] at hc4
    have hle : l = [] := by simpa using hbb hc4
    subst hle
    refine W.reg ?_
    refine XOps.s rfl rfl rfl (Q.assign_nilsl rfl) ?_
    refine XOps.nil ?_
    refine W.ghost 2 3 (by decide) rfl rfl (fun v2 => ?_)
    refine W.ret ?_
    exact ⟨_, (v2, .lst 3 []) :: hs, rfl, by repeat (first | exact HLe.refl _ | refine HLe.cons' (by first | rfl | (simp [Nd.enc]; done)) ?_ | refine HLe.pick 1 rfl (by first | rfl | (simp [Nd.enc]; done)) ?_ | refine HLe.pick 2 rfl (by first | rfl | (simp [Nd.enc]; done)) ?_ | refine HLe.pick 3 rfl (by first | rfl | (simp [Nd.enc]; done)) ?_ | refine HLe.pick 4 rfl (by first | rfl | (simp [Nd.enc]; done)) ?_ | refine HLe.pick 5 rfl (by first | rfl | (simp [Nd.enc]; done)) ?_ | refine HLe.skip _ ?_), v2, rfl, rfl⟩
  · try simp only [Bool.or_eq_true, Bool.or_eq_false_iff, Bool.and_eq_true, Bool.and_eq_false_iff, decide_eq_true_eq, decide_eq_false_iff_not, Bool.not_eq_true', Bool.not_eq_false', Int.not_lt, Int.not_le, List.length_map] at hc4
    refine W.skip ?_
    refine W.reg ?_
    refine XOps.s rfl rfl rfl (Q.bsl0 sl55) ?_
    refine XOps.s rfl rfl rfl (Q.move_d rfl) ?_
    refine XOps.loud rfl (L.app_new ap55 (.inl rfl) (by first | exact .inl rfl | exact .inr (by simp)) rfl (by simp; omega) rfl) ?_
    rintro _ _ ⟨v7, rfl, rfl⟩
    refine XOps.s rfl rfl rfl (Q.assign_vs rfl) ?_
    refine XOps.nil ?_
    refine W.ret ?_
    exact ⟨_, (v7, .lst 3 (l.map OE.enc)) :: hs, rfl, by repeat (first | exact HLe.refl _ | refine HLe.cons' (by first | rfl | (simp [Nd.enc]; done)) ?_ | refine HLe.pick 1 rfl (by first | rfl | (simp [Nd.enc]; done)) ?_ | refine HLe.pick 2 rfl (by first | rfl | (simp [Nd.enc]; done)) ?_ | refine HLe.pick 3 rfl (by first | rfl | (simp [Nd.enc]; done)) ?_ | refine HLe.pick 4 rfl (by first | rfl | (simp [Nd.enc]; done)) ?_ | refine HLe.pick 5 rfl (by first | rfl | (simp [Nd.enc]; done)) ?_ | refine HLe.skip _ ?_), v7, by show AV.vs _ _ _ _ = _; congr 1; simp, rfl⟩
theorem ins_end {α : Type} (rows : List α) (x : α) (i : Nat) (h : i = rows.length) : rows ++ [x] = rows.take i ++ x :: rows.drop i := by subst h; simp
theorem ins_rep {α : Type} (rows : List α) (x z : α) (i m : Nat) (hi : i < rows.length) (hm : m = rows.length + 1 - i) :
    ((rows.take i ++ List.replicate m z).take i ++ [x] ++ (rows.take i ++ List.replicate m z).drop (i + 1)).take (i + 1) ++ (rows.drop i).take (rows.length - i) ++ ((rows.take i ++ List.replicate m z).take i ++ [x] ++ (rows.take i ++ List.replicate m z).drop (i + 1)).drop (i + 1 + (rows.length - i)) = rows.take i ++ x :: rows.drop i := by
  have e0 : (rows.take i ++ List.replicate m z).take i = rows.take i := by rw [List.take_append_of_le_length (by simp; omega), List.take_take, Nat.min_self]
  rw [e0]
  have e1 : (rows.take i ++ [x] ++ (rows.take i ++ List.replicate m z).drop (i + 1)).take (i + 1) = rows.take i ++ [x] := by
    rw [List.take_append_of_le_length (by simp; omega), List.take_of_length_le (by simp; omega)]
  have e2 : (rows.take i ++ [x] ++ (rows.take i ++ List.replicate m z).drop (i + 1)).drop (i + 1 + (rows.length - i)) = [] := List.drop_eq_nil_of_le (by simp; omega)
  rw [e1, e2, List.append_nil, List.take_of_length_le (l := rows.drop i) (by simp), List.append_assoc]; rfl
theorem ins_in {α : Type} (rows : List α) (x : α) (i : Nat) (hi : i < rows.length) :
    (rows.take (i + 1) ++ (rows.drop i).take (rows.length - i) ++ rows.drop (i + 1 + (rows.length - i))).take i ++ [x] ++ (rows.take (i + 1) ++ (rows.drop i).take (rows.length - i) ++ rows.drop (i + 1 + (rows.length - i))).drop (i + 1) = rows.take i ++ x :: rows.drop i := by
  have e1 : rows.drop (i + 1 + (rows.length - i)) = [] := List.drop_eq_nil_of_le (by omega)
  have e2 : (rows.drop i).take (rows.length - i) = rows.drop i := List.take_of_length_le (by simp)
  have e3 : (rows.take (i + 1)).length = i + 1 := by rw [List.length_take]; omega
  rw [e1, e2, List.append_nil, List.take_append_of_le_length (by omega), List.take_take, show min i (i + 1) = i by omega, List.drop_left' e3, List.append_assoc]
  rfl
set_option maxHeartbeats 4000000 in
set_option maxRecDepth 100000 in
theorem insO_c_raw (vid id i : Nat) (x : List D) (rows : List (List D)) (hs : Hp) (hi : i ≤ rows.length) (hn : rows.length ≤ 100000) (hx3 : x.length = 3) (hx1 : ∀ d ∈ x, d.one = true) : AC P 99 [.vs id 0 rows.length 3, .d (.int .i64 i), .vs vid 0 1 3] ((vid, .lst 3 [x]) :: (id, .lst 3 rows) :: hs) (fun r h => ∃ id2, r = .vs id2 0 (rows.length + 1) 3 ∧ h = (id2, .lst 3 (rows.take i ++ x :: rows.drop i)) :: hs) := by
  refine AC.of 95 Tryz.func99 rfl rfl rfl ?_
  refine W.reg ?_
  refine XOps.s rfl rfl rfl (Q.assign_nilsl rfl) ?_
  refine XOps.nil ?_
  refine W.reg ?_
  refine XOps.s rfl rfl rfl (Q.move_vs rfl) ?_
  refine XOps.s rfl rfl rfl (Q.move_d rfl) ?_
  refine XOps.s rfl rfl rfl (Q.cut_vs2 (kk := 1) sl55 rfl rfl rfl rfl (by omega) (by omega) (by omega)) ?_
  refine XOps.nil ?_
  refine W.reg ?_
  refine XOps.s rfl rfl rfl (Q.move_vs rfl) ?_
  refine XOps.s rfl rfl rfl (Q.len_vs isl55 rfl) ?_
  refine XOps.s rfl rfl rfl (Q.assign_d rfl) ?_
  refine XOps.nil ?_
  refine W.seq ?_
  refine W.reg ?_
  refine XOps.s rfl rfl rfl (Q.move_d rfl) ?_
  refine XOps.s rfl rfl rfl (Q.eql rfl rfl) ?_
  refine XOps.nil ?_
  refine W.cond rfl (fun hc16 => ?_) (fun hc16 => ?_)
  · try simp only [Bool.or_eq_true, Bool.or_eq_false_iff, Bool.and_eq_true, Bool.and_eq_false_iff, decide_eq_true_eq, decide_eq_false_iff_not, Bool.not_eq_true', Bool.not_eq_false', Int.not_lt, Int.not_le, List.length_map] at hc16
    exact absurd hc16 (by decide)
  · try simp only [Bool.or_eq_true, Bool.or_eq_false_iff, Bool.and_eq_true, Bool.and_eq_false_iff, decide_eq_true_eq, decide_eq_false_iff_not, Bool.not_eq_true', Bool.not_eq_false', Int.not_lt, Int.not_le, List.length_map] at hc16
    refine W.skip ?_
    refine W.reg ?_
    refine XOps.s rfl rfl rfl (Q.move_vs rfl) ?_
    refine XOps.s rfl rfl rfl (Q.len_vs isl55 rfl) ?_
    refine XOps.s rfl rfl rfl (Q.assign_d rfl) ?_
    refine XOps.nil ?_
    refine W.seq ?_
    refine W.reg ?_
    refine XOps.s rfl rfl rfl (Q.move_d rfl) ?_
    refine XOps.s rfl rfl rfl (Q.move_d rfl) ?_
    refine XOps.s rfl rfl rfl (Q.eql rfl rfl) ?_
    refine XOps.nil ?_
    refine W.cond rfl (fun hc22 => ?_) (fun hc22 => ?_)
    · try simp only [Bool.or_eq_true, Bool.or_eq_false_iff, Bool.and_eq_true, Bool.and_eq_false_iff, decide_eq_true_eq, decide_eq_false_iff_not, Bool.not_eq_true', Bool.not_eq_false', Int.not_lt, Int.not_le, List.length_map] at hc22
      refine W.freeze 2 0 rfl rfl rfl ?_
      refine W.reg ?_
      refine XOps.s rfl rfl rfl (Q.move_vs rfl) ?_
      refine XOps.s rfl rfl rfl (Q.move_d rfl) ?_
      (refine XOps.loud rfl (L.app (k := 0) ap55 rfl rfl rfl rfl (by simp; omega) rfl) ?_; rintro _ _ ⟨v25, rfl, rfl⟩)
      refine XOps.s rfl rfl rfl (Q.assign_vs rfl) ?_
      refine XOps.nil ?_
      refine W.ret ?_
      exact ⟨_, (v25, .lst 3 (rows ++ [x])) :: hs, rfl, HLe.refl _, v25, rfl, by rw [ins_end rows x i (by omega)]⟩
    · try simp only [Bool.or_eq_true, Bool.or_eq_false_iff, Bool.and_eq_true, Bool.and_eq_false_iff, decide_eq_true_eq, decide_eq_false_iff_not, Bool.not_eq_true', Bool.not_eq_false', Int.not_lt, Int.not_le, List.length_map] at hc22
      refine W.skip ?_
      refine W.seq ?_
      refine W.reg ?_
      refine XOps.s rfl rfl rfl (Q.move_d rfl) ?_
      refine XOps.s rfl rfl rfl (Q.move_d rfl) ?_
      refine XOps.s rfl rfl rfl (Q.add rfl rfl (wi64 (by first | omega | (dsimp only; omega) | (simp only [List.length_map]; omega)) (by first | omega | (dsimp only; omega) | (simp only [List.length_map]; omega)))) ?_
      refine XOps.s rfl rfl rfl (Q.move_vs rfl) ?_
      (refine XOps.loud rfl (L.cap (k := 1) isl55 rfl rfl rfl) ?_; rintro _ _ ⟨idc, c, ⟨hcp1, hcp2⟩, rfl, rfl⟩)
      refine XOps.s rfl rfl rfl (Q.gtr rfl rfl) ?_
      refine XOps.nil ?_
      refine W.cond rfl (fun hc31 => ?_) (fun hc31 => ?_)
      · try simp only [Bool.or_eq_true, Bool.or_eq_false_iff, Bool.and_eq_true, Bool.and_eq_false_iff, decide_eq_true_eq, decide_eq_false_iff_not, Bool.not_eq_true', Bool.not_eq_false', Int.not_lt, Int.not_le, List.length_map] at hc31
        refine W.reg ?_
        refine XOps.s rfl rfl rfl (Q.move_vs rfl) ?_
        refine XOps.s rfl rfl rfl (Q.move_d rfl) ?_
        refine XOps.s rfl rfl rfl (Q.cut_vs2 (kk := 2) sl55 rfl rfl rfl rfl (by omega) (by omega) (by omega)) ?_
        refine XOps.s rfl rfl rfl (Q.move_d rfl) ?_
        refine XOps.s rfl rfl rfl (Q.move_d rfl) ?_
        refine XOps.s rfl rfl rfl (Q.add rfl rfl (wi64 (by first | omega | (dsimp only; omega) | (simp only [List.length_map]; omega)) (by first | omega | (dsimp only; omega) | (simp only [List.length_map]; omega)))) ?_
        refine XOps.s rfl rfl rfl (Q.move_d rfl) ?_
        refine XOps.s rfl rfl rfl (Q.sub rfl rfl (wi64 (by first | omega | (dsimp only; omega) | (simp only [List.length_map]; omega)) (by first | omega | (dsimp only; omega) | (simp only [List.length_map]; omega)))) ?_
        (refine XOps.loud rfl (L.app_mk2 (k := 2) (kk := 0) (i := i) (m := rows.length + 1 - i) (n := rows.length + 1 - i) ap55 zr55 zrd55 ik3 rfl rfl (by omega) rfl (by exact int_eq (by omega)) rfl (by omega) (by omega) (by omega) rfl) ?_; rintro _ _ ⟨v40, rfl, rfl⟩)
        refine XOps.s rfl rfl rfl (Q.assign_vs rfl) ?_
        refine XOps.nil ?_
        refine W.reg ?_
        refine XOps.s rfl rfl rfl (Q.move_vs rfl) ?_
        refine XOps.s rfl rfl rfl (Q.move_d rfl) ?_
        refine XOps.s rfl rfl rfl (Q.cut_vs2 (kk := 0) sl55 rfl rfl rfl rfl (by omega) (by omega) (by simp; omega)) ?_
        refine XOps.s rfl rfl rfl (Q.move_vs rfl) ?_
        (refine XOps.loud rfl (L.copy_own (k := 0) (k2 := 2) 1 sl55 rfl rfl (by simp; omega) rfl rfl (by omega) (by simp) rfl) ?_; rintro _ _ ⟨rfl, rfl⟩)
        refine XOps.nil ?_
        refine W.drawTreg 9 [8] follows (by kernel_rfl) (by decide) ?_
        apply DT.moreF [.new, .new, .new, .new, .new, .new, .new, .new, .now] (by kernel_rfl)
        refine PC.new _ rfl (GQ.q rfl (Q.move_vs rfl)) rfl ?_
        refine PC.new _ rfl (GQ.q rfl (Q.move_d rfl)) rfl ?_
        refine PC.new _ rfl (GQ.q rfl (Q.move_d rfl)) rfl ?_
        refine PC.new _ rfl (GQ.q rfl (Q.add rfl rfl (wi64 (by first | omega | (dsimp only; omega) | (simp only [List.length_map]; omega)) (by first | omega | (dsimp only; omega) | (simp only [List.length_map]; omega))))) rfl ?_
        refine PC.new _ rfl (GQ.q rfl (Q.cut_vs2 (kk := 0) sl55 rfl rfl rfl rfl (by omega) (by omega) (by simp; omega))) rfl ?_
        refine PC.new _ rfl (GQ.q rfl (Q.move_vs rfl)) rfl ?_
        refine PC.new _ rfl (GQ.q rfl (Q.move_d rfl)) rfl ?_
        refine PC.new _ rfl (GQ.q rfl (Q.cut_vs2 (kk := 3) sl55 rfl rfl rfl rfl (by omega) (by omega) (by simp))) rfl ?_
        refine PC.now rfl rfl (fun τ => Loud.to (L.copy_own (k := 0) (k2 := 3) (rows.length - i) sl55 rfl rfl (by simp; omega) rfl rfl (by omega) (by omega) rfl) (fun _ _ h => ⟨_, h.1, rfl, h.2⟩)) ?_
        refine PC.nil ?_
        rintro _ _ ⟨rfl, rfl⟩
        refine DT.last [.did, .did, .did, .did, .did, .did, .did, .did, .did] (by kernel_rfl) ?_
        refine PC.did rfl ?_
        refine PC.did rfl ?_
        refine PC.did rfl ?_
        refine PC.did rfl ?_
        refine PC.did rfl ?_
        refine PC.did rfl ?_
        refine PC.did rfl ?_
        refine PC.did rfl ?_
        refine PC.did rfl ?_
        refine PC.nil ?_
        refine XOps.nil ?_
        refine W.reg ?_
        refine XOps.s rfl rfl rfl (Q.move_vs rfl) ?_
        refine XOps.s rfl rfl rfl (Q.assign_vs rfl) ?_
        refine XOps.nil ?_
        refine W.ret ?_
        exact ⟨_, (v40, .lst 3 (rows.take i ++ x :: rows.drop i)) :: hs, rfl, HLe.cons' (by refine (congrArg (HO.lst 3) (ins_rep rows x [.str ⟨#[]⟩, .str ⟨#[]⟩, .str ⟨#[]⟩] i _ (by omega) rfl).symm).trans ?_; simp only [Nat.zero_add, (show ((i : Int) + ((1 : Nat) : Int)).toNat = i + 1 by omega), Int.toNat_natCast]; rfl) (HLe.skip _ (HLe.skip _ (HLe.skip _ (HLe.refl _)))), v40, (by show AV.vs _ _ _ _ = _; exact vs_eq (by omega)), rfl⟩
      · try simp only [Bool.or_eq_true, Bool.or_eq_false_iff, Bool.and_eq_true, Bool.and_eq_false_iff, decide_eq_true_eq, decide_eq_false_iff_not, Bool.not_eq_true', Bool.not_eq_false', Int.not_lt, Int.not_le, List.length_map] at hc31
        refine W.skip ?_
        refine W.reg ?_
        refine XOps.s rfl rfl rfl (Q.move_vs rfl) ?_
        refine XOps.s rfl rfl rfl (Q.move_d rfl) ?_
        refine XOps.s rfl rfl rfl (Q.move_d rfl) ?_
        refine XOps.s rfl rfl rfl (Q.add rfl rfl (wi64 (by first | omega | (dsimp only; omega) | (simp only [List.length_map]; omega)) (by first | omega | (dsimp only; omega) | (simp only [List.length_map]; omega)))) ?_
        refine XOps.s rfl rfl rfl (Q.cut_cap (kk := 0) sl55 rfl rfl rfl rfl (by omega) (by omega) (by omega)) ?_
        refine XOps.s rfl rfl rfl (Q.assign_vs rfl) ?_
        refine XOps.nil ?_
        refine W.seq ?_
        refine W.reg ?_
        refine XOps.s rfl rfl rfl (Q.move_vs rfl) ?_
        refine XOps.s rfl rfl rfl (Q.move_vs rfl) ?_
        refine XOps.s rfl rfl rfl (Q.move_d rfl) ?_
        refine XOps.s rfl rfl rfl (Q.move_d rfl) ?_
        refine XOps.s rfl rfl rfl (Q.add rfl rfl (wi64 (by first | omega | (dsimp only; omega) | (simp only [List.length_map]; omega)) (by first | omega | (dsimp only; omega) | (simp only [List.length_map]; omega)))) ?_
        refine XOps.s rfl rfl rfl (Q.cut_cap (kk := 0) sl55 rfl rfl rfl rfl (by omega) (by omega) (by omega)) ?_
        refine XOps.s rfl rfl rfl (Q.overlaps (k := 1) (k2 := 2) sl55 rfl (run_callFunc_extern (e := Extern.SlicesOverlaps.overlaps #[55, 55] #[4]) Tryz.func120 (by kernel_rfl) (by kernel_rfl) (by kernel_rfl) (by kernel_rfl)) rfl rfl rfl rfl (by decide) (by decide) (by omega)) ?_
        refine XOps.s rfl rfl rfl (Q.not rfl) ?_
        refine XOps.nil ?_
        refine W.cond_t rfl ?_
        refine W.drawTreg 9 [8] follows (by kernel_rfl) (by decide) ?_
        apply DT.moreF [.new, .new, .new, .new, .new, .new, .new, .new, .now] (by kernel_rfl)
        refine PC.new _ rfl (GQ.q rfl (Q.move_vs rfl)) rfl ?_
        refine PC.new _ rfl (GQ.q rfl (Q.move_d rfl)) rfl ?_
        refine PC.new _ rfl (GQ.q rfl (Q.move_d rfl)) rfl ?_
        refine PC.new _ rfl (GQ.q rfl (Q.add rfl rfl (wi64 (by first | omega | (dsimp only; omega) | (simp only [List.length_map]; omega)) (by first | omega | (dsimp only; omega) | (simp only [List.length_map]; omega))))) rfl ?_
        refine PC.new _ rfl (GQ.q rfl (Q.cut_cap (kk := 0) sl55 rfl rfl rfl rfl (by omega) (by omega) (by omega))) rfl ?_
        refine PC.new _ rfl (GQ.q rfl (Q.move_vs rfl)) rfl ?_
        refine PC.new _ rfl (GQ.q rfl (Q.move_d rfl)) rfl ?_
        refine PC.new _ rfl (GQ.q rfl (Q.cut_cap (kk := 0) sl55 rfl rfl rfl rfl (by omega) (by omega) (by omega))) rfl ?_
        refine PC.now rfl rfl (fun τ => Loud.to (L.copy_own (k := 2) (k2 := 2) (rows.length - i) sl55 rfl rfl (by omega) rfl rfl (by omega) (by omega) rfl) (fun _ _ h => ⟨_, h.1, rfl, h.2⟩)) ?_
        refine PC.nil ?_
        rintro _ _ ⟨rfl, rfl⟩
        refine DT.last [.did, .did, .did, .did, .did, .did, .did, .did, .did] (by kernel_rfl) ?_
        refine PC.did rfl ?_
        refine PC.did rfl ?_
        refine PC.did rfl ?_
        refine PC.did rfl ?_
        refine PC.did rfl ?_
        refine PC.did rfl ?_
        refine PC.did rfl ?_
        refine PC.did rfl ?_
        refine PC.did rfl ?_
        refine PC.nil ?_
        refine XOps.nil ?_
        refine W.reg ?_
        refine XOps.s rfl rfl rfl (Q.move_vs rfl) ?_
        refine XOps.s rfl rfl rfl (Q.move_d rfl) ?_
        refine XOps.s rfl rfl rfl (Q.cut_cap (kk := 0) sl55 rfl rfl rfl rfl (by omega) (by omega) (by omega)) ?_
        refine XOps.s rfl rfl rfl (Q.move_vs rfl) ?_
        (refine XOps.loud rfl (L.copy_own (k := 2) (k2 := 1) 1 sl55 rfl rfl (by simp; omega) rfl rfl (by omega) (by simp) rfl) ?_; rintro _ _ ⟨rfl, rfl⟩)
        refine XOps.nil ?_
        refine W.reg ?_
        refine XOps.s rfl rfl rfl (Q.move_vs rfl) ?_
        refine XOps.s rfl rfl rfl (Q.assign_vs rfl) ?_
        refine XOps.nil ?_
        refine W.ret ?_
        exact ⟨_, (id, .lst 3 (rows.take i ++ x :: rows.drop i)) :: hs, rfl, HLe.skip _ (HLe.skip _ (HLe.cons' (by refine (congrArg (HO.lst 3) (ins_in rows x i (by omega)).symm).trans ?_; simp only [Nat.zero_add, (show ((i : Int) + ((1 : Nat) : Int)).toNat = i + 1 by omega), Int.toNat_natCast]; rfl) (HLe.refl _))), id, (by show AV.vs _ _ _ _ = _; exact vs_eq (by omega)), rfl⟩
theorem insO_c (vid id i : Nat) (x : OE) (l : List OE) (hs : Hp) (hi : i ≤ l.length) (hn : l.length ≤ 100000) : AC P 99 [.vs id 0 l.length 3, .d (.int .i64 i), .vs vid 0 1 3] ((vid, .lst 3 [OE.enc x]) :: (id, .lst 3 (l.map OE.enc)) :: hs)
    (fun r h => ∃ id2, r = .vs id2 0 (l.length + 1) 3 ∧ h = (id2, .lst 3 ((l.take i ++ x :: l.drop i).map OE.enc)) :: hs) := by
  have h := insO_c_raw vid id i (OE.enc x) (l.map OE.enc) hs (by simpa using hi) (by simpa using hn) rfl (by simp [OE.enc, D.one])
  rw [List.length_map] at h
  exact h.mono fun r h' ⟨id2, h1, h2⟩ => ⟨id2, h1, by rw [h2]; simp⟩
set_option maxHeartbeats 1000000 in
set_option maxRecDepth 100000 in
theorem delO_c (m i j : Nat) (rows : List (List D)) (hs : Hp) (hij : i < j) (hj : j ≤ rows.length) (hn : rows.length ≤ 4611686018427387904) : AC P 111 [.vs m 0 rows.length 3, .d (.int .i64 i), .d (.int .i64 j)] ((m, .lst 3 rows) :: hs) (fun r h => r = .vs m 0 (rows.length - (j - i)) 3 ∧ h = (m, .lst 3 (rows.take i ++ rows.drop j)) :: hs) := by
  refine AC.of 33 Tryz.func111 rfl rfl rfl ?_
  refine W.reg ?_
  refine XOps.s rfl rfl rfl (Q.assign_nilsl rfl) ?_
  refine XOps.nil ?_
  refine W.reg ?_
  refine XOps.s rfl rfl rfl (Q.move_vs rfl) ?_
  refine XOps.s rfl rfl rfl (Q.move_d rfl) ?_
  refine XOps.s rfl rfl rfl (Q.move_d rfl) ?_
  refine XOps.s rfl rfl rfl (Q.move_vs rfl) ?_
  refine XOps.s rfl rfl rfl (Q.len_vs isl55 rfl) ?_
  refine XOps.s rfl rfl rfl (Q.cut3_vs sl55 rfl rfl rfl rfl (by first | omega | (simp at hg; omega)) (by first | omega | (simp at hg; omega)) (by first | omega | (simp at hg; omega)) (by first | omega | (simp at hg; omega))) ?_
  refine XOps.nil ?_
  refine W.seq ?_
  refine W.reg ?_
  refine XOps.s rfl rfl rfl (Q.move_d rfl) ?_
  refine XOps.s rfl rfl rfl (Q.move_d rfl) ?_
  refine XOps.s rfl rfl rfl (Q.eql rfl rfl) ?_
  refine XOps.nil ?_
  refine W.cond rfl (fun hc16 => ?_) (fun hc16 => ?_)
  · try simp only [Bool.or_eq_true, Bool.or_eq_false_iff, Bool.and_eq_true, Bool.and_eq_false_iff, decide_eq_true_eq, decide_eq_false_iff_not, Bool.not_eq_true', Bool.not_eq_false', Int.not_lt, Int.not_le, List.length_map] at hc16
    exact absurd hc16 (by omega)
  · try simp only [Bool.or_eq_true, Bool.or_eq_false_iff, Bool.and_eq_true, Bool.and_eq_false_iff, decide_eq_true_eq, decide_eq_false_iff_not, Bool.not_eq_true', Bool.not_eq_false', Int.not_lt, Int.not_le, List.length_map] at hc16
    refine W.skip ?_
    refine W.reg ?_
    refine XOps.s rfl rfl rfl (Q.move_vs rfl) ?_
    refine XOps.s rfl rfl rfl (Q.len_vs isl55 rfl) ?_
    refine XOps.s rfl rfl rfl (Q.assign_d rfl) ?_
    refine XOps.nil ?_
    refine W.drawTreg 8 [6] follows (by kernel_rfl) (by decide) ?_
    refine DT.more (Rp := fun v h => v = .vs m 0 (i + (rows.length - j)) 3 ∧ h = (m, .lst 3 (rows.take i ++ (rows.drop j).take (rows.length - j) ++ rows.drop (i + (rows.length - j)))) :: hs) [.new, .new, .new, .new, .new, .new, .now, .later] (by kernel_rfl) ?_
    refine PC.new _ rfl (GQ.q rfl (Q.move_vs rfl)) rfl ?_
    refine PC.new _ rfl (GQ.q rfl (Q.move_d rfl)) rfl ?_
    refine PC.new _ rfl (GQ.q rfl (Q.cut_vs sl55 rfl rfl rfl (by first | omega | (simp only [List.length_map]; omega)) (by first | omega | (simp only [List.length_map]; omega)) (by first | omega | (simp only [List.length_map]; omega)))) rfl ?_
    refine PC.new _ rfl (GQ.q rfl (Q.move_vs rfl)) rfl ?_
    refine PC.new _ rfl (GQ.q rfl (Q.move_d rfl)) rfl ?_
    refine PC.new _ rfl (GQ.q rfl (Q.cut_vs sl55 rfl rfl rfl (by first | omega | (simp only [List.length_map]; omega)) (by first | omega | (simp only [List.length_map]; omega)) (by first | omega | (simp only [List.length_map]; omega)))) rfl ?_
    refine PC.now rfl rfl (fun τ => Loud.to (L.app_in (k := 0) ap55 rfl rfl rfl (by simp; omega) (by simp; omega) rfl) (fun _ _ h => ⟨_, h.1, rfl, by simpa using h.2⟩)) ?_
    refine PC.later rfl ?_
    refine PC.nil ?_
    rintro _ _ ⟨rfl, rfl⟩
    refine DT.last [.did, .did, .did, .did, .did, .did, .did, .new] (by kernel_rfl) ?_
    refine PC.did rfl ?_
    refine PC.did rfl ?_
    refine PC.did rfl ?_
    refine PC.did rfl ?_
    refine PC.did rfl ?_
    refine PC.did rfl ?_
    refine PC.did rfl ?_
    refine PC.new _ rfl (GQ.q rfl (Q.assign_vs rfl)) rfl ?_
    refine PC.nil ?_
    refine XOps.nil ?_
    refine W.reg ?_
    refine XOps.s rfl rfl rfl (Q.move_vs rfl) ?_
    refine XOps.s rfl rfl rfl (Q.move_vs rfl) ?_
    refine XOps.s rfl rfl rfl (Q.len_vs isl55 rfl) ?_
    refine XOps.s rfl rfl rfl (Q.move_d rfl) ?_
    refine XOps.s rfl rfl rfl (Q.cut_vs2 (kk := 0) sl55 rfl rfl rfl rfl (by omega) (by omega) (by simp; omega)) ?_
    refine XOps.loud rfl (L.clear (k := 0) sl55 zr55 rfl zrd55 (by decide) rfl rfl (by simp; omega)) ?_
    rintro _ _ ⟨rfl, rfl⟩
    refine XOps.nil ?_
    refine W.front_of 0 (rows.length - (j - i)) rfl ?_
    refine W.reg ?_
    refine XOps.s rfl rfl rfl (Q.move_vs rfl) ?_
    refine XOps.s rfl rfl rfl (Q.assign_vs rfl) ?_
    refine XOps.nil ?_
    refine W.ret ?_
    refine ⟨_, (m, .lst 3 (rows.take i ++ rows.drop j)) :: hs, rfl, HLe.cons' ?_ (HLe.refl _), ?_, rfl⟩
    · congr 1
      rw [List.append_assoc]
      exact (del_rows rows i j _ _ hij hj (by omega) (by omega) _ _).symm
    · show AV.vs _ _ _ _ = _
      congr 1
      omega
end Go.Proofs.YtaegeaajhbfkgaaGreatDoorA

