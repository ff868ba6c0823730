/- Get, Set and Cut of package snapshot. -/
import Derived.Test.YtodbcbojkfndiaaGreatDoorFrB
import Derived.Test.YtodbcbojkfndiaaGreatDoorSnA
import Derived.Test.YtodbcbojkfndiaaGreatDoorFrC
set_option linter.unusedVariables false
set_option linter.unusedSimpArgs false
set_option linter.unnecessarySimpa false
namespace Go.Proofs.YtodbcbojkfndiaaGreatDoorA.FSnB
open Go
theorem ag9 : tAgg P 9 = some ((false, 1)) := by kernel_rfl
theorem ap28 : tApp P 28 = some ((2, 32)) := by kernel_rfl
theorem fl50_1 : tFld P 50 1 = some (1) := by kernel_rfl
theorem go21 : callGo Go.Proofs.Tryz.f21 = true := by kernel_rfl
theorem go32 : callGo Go.Proofs.Tryz.f32 = true := by kernel_rfl
theorem go33 : callGo Go.Proofs.Tryz.f33 = true := by kernel_rfl
theorem go34 : callGo Go.Proofs.Tryz.f34 = true := by kernel_rfl
theorem go40 : callGo Go.Proofs.Tryz.f40 = true := by kernel_rfl
theorem go41 : callGo Go.Proofs.Tryz.f41 = true := by kernel_rfl
theorem go42 : callGo Go.Proofs.Tryz.f42 = true := by kernel_rfl
theorem ik3 : tInt P 3 = some (.i64) := by kernel_rfl
theorem isl28 : isSl P 28 = true := by kernel_rfl
theorem pl50 : tPl P 50 = some ([(0, 1), (1, 1)]) := by kernel_rfl
theorem sl28 : tSl P 28 = some (2) := by kernel_rfl
theorem tz50 : tZero P 50 = some ([.string ⟨#[]⟩, .string ⟨#[]⟩]) := by kernel_rfl
theorem tzd50 : cellsD [.string ⟨#[]⟩, .string ⟨#[]⟩] = some ([.str ⟨#[]⟩, .str ⟨#[]⟩]) := rfl
theorem zr28 : tZrow P 28 = some ([.string ⟨#[]⟩, .string ⟨#[]⟩]) := by kernel_rfl
theorem zrd28 : cellsD [.string ⟨#[]⟩, .string ⟨#[]⟩] = some ([.str ⟨#[]⟩, .str ⟨#[]⟩]) := rfl
end Go.Proofs.YtodbcbojkfndiaaGreatDoorA.FSnB
namespace Go.Proofs.YtodbcbojkfndiaaGreatDoorA
open Go FSnB
attribute [local irreducible] XOps Quiet Loud W AC GQ DT
set_option maxHeartbeats 1000000 in
set_option maxRecDepth 100000 in
theorem get_c (l : List SR) (c : ByteArray) (hs : Hp) (hL : l.length ≤ 4611686018427387904) (hz : szR l) : AC P 44 [.d (.sl 2 (l.map SR.enc)), .d (.str c)] hs (fun r h => r = .tup [.d (.str (getV l c)), .d (.int .i64 (getE l c))] ∧ h = hs) := by
  obtain ⟨x, hx⟩ : ∃ x : SR, isS l c = true → l[atS l c]? = some x ∧ x.key = c := by
    cases h : isS l c with
    | true => obtain ⟨x, hx, hk⟩ := isS_at h; exact ⟨x, fun _ => ⟨hx, hk⟩⟩
    | false => exact ⟨⟨c, c⟩, fun h => by cases h⟩
  have hal := atS_le l c
  refine AC.of 27 Tryz.func44 rfl rfl rfl ?_
  refine W.reg ?_
  refine XOps.s rfl rfl rfl (Q.assign_d rfl) ?_
  refine XOps.s rfl rfl rfl (Q.assign_d rfl) ?_
  refine XOps.nil ?_
  refine W.seq ?_
  refine W.reg ?_
  refine XOps.s rfl rfl rfl (Q.move_d rfl) ?_
  refine XOps.s rfl rfl rfl (Q.call rfl Tryz.func21 go21 rfl (check_c l _ hL hz)) ?_
  refine XOps.s rfl rfl rfl (Q.assign_d rfl) ?_
  refine XOps.nil ?_
  refine W.reg ?_
  refine XOps.s rfl rfl rfl (Q.move_d rfl) ?_
  refine XOps.s rfl rfl rfl (Q.neq rfl rfl) ?_
  refine XOps.nil ?_
  refine W.cond rfl (fun hc12 => ?_) (fun hc12 => ?_)
  · try simp only [Bool.or_eq_true, Bool.or_eq_false_iff, Bool.and_eq_true, Bool.and_eq_false_iff, decide_eq_true_eq, decide_eq_false_iff_not, Bool.not_eq_true', Bool.not_eq_false', Int.not_lt, Int.not_le, List.length_map] at hc12
    have hE : getE l c = checkL l := if_pos hc12
    have hV : getV l c = ⟨#[]⟩ := if_pos hc12
    rw [hE, hV]
    refine W.reg ?_
    refine XOps.s rfl rfl rfl (Q.move_d rfl) ?_
    refine XOps.s rfl rfl rfl (Q.assign_d rfl) ?_
    refine XOps.s rfl rfl rfl (Q.assign_d rfl) ?_
    refine XOps.nil ?_
    refine W.ret ?_
    refine ⟨_, hs, rfl, by repeat (first | exact HLe.refl _ | refine HLe.skip _ ?_), ?_, rfl⟩
    rfl
  · try simp only [Bool.or_eq_true, Bool.or_eq_false_iff, Bool.and_eq_true, Bool.and_eq_false_iff, decide_eq_true_eq, decide_eq_false_iff_not, Bool.not_eq_true', Bool.not_eq_false', Int.not_lt, Int.not_le, List.length_map] at hc12
    have h0 : checkL l = 0 := by omega
    have h12 := checkL_zero.1 h0
    refine W.skip ?_
    refine W.reg ?_
    refine XOps.s rfl rfl rfl (Q.move_d rfl) ?_
    refine XOps.s rfl rfl rfl (Q.move_d rfl) ?_
    refine XOps.s rfl rfl rfl (Q.call rfl Tryz.func40 go40 rfl (find_c l c _ h12.1 (by omega))) ?_
    refine XOps.s rfl rfl rfl (Q.move_tup rfl) ?_
    refine XOps.s rfl rfl rfl (Q.extract rfl rfl) ?_
    refine XOps.s rfl rfl rfl (Q.extract rfl rfl) ?_
    refine XOps.s rfl rfl rfl (Q.assign_d rfl) ?_
    refine XOps.s rfl rfl rfl (Q.assign_d rfl) ?_
    refine XOps.nil ?_
    refine W.seq ?_
    refine W.reg ?_
    refine XOps.s rfl rfl rfl (Q.move_d rfl) ?_
    refine XOps.s rfl rfl rfl (Q.not rfl) ?_
    refine XOps.nil ?_
    refine W.cond rfl (fun hc21 => ?_) (fun hc21 => ?_)
    · try simp only [Bool.or_eq_true, Bool.or_eq_false_iff, Bool.and_eq_true, Bool.and_eq_false_iff, decide_eq_true_eq, decide_eq_false_iff_not, Bool.not_eq_true', Bool.not_eq_false', Int.not_lt, Int.not_le, List.length_map] at hc21
      have h21 : isS l c = false := by simpa using hc21
      have hE : getE l c = 8 := by unfold getE; rw [if_neg (by omega), if_pos h21]
      have hV : getV l c = ⟨#[]⟩ := by unfold getV getO; rw [if_neg (by omega), h21]; rfl
      rw [hE, hV]
      refine W.reg ?_
      refine XOps.s rfl rfl rfl (Q.assign_d rfl) ?_
      refine XOps.s rfl rfl rfl (Q.assign_d rfl) ?_
      refine XOps.nil ?_
      refine W.ret ?_
      refine ⟨_, hs, rfl, by repeat (first | exact HLe.refl _ | refine HLe.skip _ ?_), ?_, rfl⟩
      rfl
    · try simp only [Bool.or_eq_true, Bool.or_eq_false_iff, Bool.and_eq_true, Bool.and_eq_false_iff, decide_eq_true_eq, decide_eq_false_iff_not, Bool.not_eq_true', Bool.not_eq_false', Int.not_lt, Int.not_le, List.length_map] at hc21
      have h21 : isS l c = true := by simpa using hc21
      have hE : getE l c = 0 := by unfold getE; rw [if_neg (by omega), if_neg (by simp [h21])]
      have hV : getV l c = x.val := by unfold getV getO; rw [if_neg (by omega), if_pos h21, (hx h21).1]; rfl
      rw [hE, hV]
      refine W.skip ?_
      refine W.reg ?_
      refine XOps.s rfl rfl rfl (Q.move_d rfl) ?_
      refine XOps.s rfl rfl rfl (Q.move_d rfl) ?_
      refine XOps.s rfl rfl rfl (Q.idx_sl sl28 (by decide) rfl rfl (by have := (List.getElem?_eq_some_iff.1 (hx h21).1).1; omega) (map_at (hx h21).1)) ?_
      refine XOps.s rfl rfl rfl (Q.fld_dp fl50_1 rfl) ?_
      refine XOps.s rfl rfl rfl (Q.ld_dp ag9 rfl rfl) ?_
      refine XOps.s rfl rfl rfl (Q.assign_d rfl) ?_
      refine XOps.s rfl rfl rfl (Q.assign_d rfl) ?_
      refine XOps.nil ?_
      refine W.ret ?_
      refine ⟨_, hs, rfl, by repeat (first | exact HLe.refl _ | refine HLe.skip _ ?_), ?_, rfl⟩
      rfl

set_option maxHeartbeats 1000000 in
set_option maxRecDepth 100000 in
theorem cloneS_c (l : List SR) (hs : Hp) (hL : l.length * 32 ≤ 140737488355328) : AC P 34 [.d (.sl 2 (l.map SR.enc))] hs (fun r h => ∃ v, r = .vs v 0 l.length 2 ∧ h = (v, .lst 2 (l.map SR.enc)) :: hs) := by
  refine AC.of 8 Tryz.func34 rfl rfl rfl ?_
  refine W.reg ?_
  refine XOps.s rfl rfl rfl (Q.assign_nilsl rfl) ?_
  refine XOps.nil ?_
  refine W.seq ?_
  refine W.reg ?_
  refine XOps.s rfl rfl rfl (Q.move_d rfl) ?_
  (refine XOps.loud rfl (L.eqnil sl28 (by decide) rfl rfl rfl) ?_; rintro _ _ ⟨bb, hbb, rfl, hh⟩; obtain rfl := hh.symm)
  refine XOps.nil ?_
  refine W.cond rfl (fun hc4 => ?_) (fun hc4 => ?_)
  · try simp only [Bool.or_eq_true, Bool.or_eq_false_iff, Bool.and_eq_true, Bool.and_eq_false_iff, decide_eq_true_eq, decide_eq_false_iff_not, Bool.not_eq_true', Bool.not_eq_false', Int.not_lt, Int.not_le, List.length_map] at hc4
    have hle : l = [] := by simpa using hbb hc4
    subst hle
    refine W.reg ?_
    refine XOps.s rfl rfl rfl (Q.assign_nilsl rfl) ?_
    refine XOps.nil ?_
    refine W.ghost 2 2 (by decide) rfl rfl (fun v2 => ?_)
    refine W.ret ?_
    exact ⟨_, (v2, .lst 2 []) :: hs, rfl, by repeat (first | exact HLe.refl _ | refine HLe.cons' (by first | rfl | (simp; done)) ?_ | refine HLe.pick 1 rfl (by first | rfl | (simp; done)) ?_ | refine HLe.pick 2 rfl (by first | rfl | (simp; done)) ?_ | refine HLe.pick 3 rfl (by first | rfl | (simp; done)) ?_ | refine HLe.pick 4 rfl (by first | rfl | (simp; done)) ?_ | refine HLe.pick 5 rfl (by first | rfl | (simp; done)) ?_ | refine HLe.skip _ ?_), v2, rfl, rfl⟩
  · try simp only [Bool.or_eq_true, Bool.or_eq_false_iff, Bool.and_eq_true, Bool.and_eq_false_iff, decide_eq_true_eq, decide_eq_false_iff_not, Bool.not_eq_true', Bool.not_eq_false', Int.not_lt, Int.not_le, List.length_map] at hc4
    refine W.skip ?_
    refine W.reg ?_
    refine XOps.s rfl rfl rfl (Q.bsl0 sl28) ?_
    refine XOps.s rfl rfl rfl (Q.move_d rfl) ?_
    refine XOps.loud rfl (L.app_new ap28 (.inl rfl) (by first | exact .inl rfl | exact .inr (by simp)) rfl (by simp; omega) rfl) ?_
    rintro _ _ ⟨v7, rfl, rfl⟩
    refine XOps.s rfl rfl rfl (Q.assign_vs rfl) ?_
    refine XOps.nil ?_
    refine W.ret ?_
    exact ⟨_, (v7, .lst 2 (l.map SR.enc)) :: hs, rfl, by repeat (first | exact HLe.refl _ | refine HLe.cons' (by first | rfl | (simp; done)) ?_ | refine HLe.pick 1 rfl (by first | rfl | (simp; done)) ?_ | refine HLe.pick 2 rfl (by first | rfl | (simp; done)) ?_ | refine HLe.pick 3 rfl (by first | rfl | (simp; done)) ?_ | refine HLe.pick 4 rfl (by first | rfl | (simp; done)) ?_ | refine HLe.pick 5 rfl (by first | rfl | (simp; done)) ?_ | refine HLe.skip _ ?_), v7, by show AV.vs _ _ _ _ = _; congr 1; simp, rfl⟩

theorem ins_end {α : Type} (rows : List α) (x : α) (i : Nat) (h : i = rows.length) : rows ++ [x] = rows.take i ++ x :: rows.drop i := by subst h; simp
theorem ins_rep {α : Type} (rows : List α) (x z : α) (i m : Nat) (hi : i < rows.length) (hm : m = rows.length + 1 - i) :
    ((rows.take i ++ List.replicate m z).take i ++ [x] ++ (rows.take i ++ List.replicate m z).drop (i + 1)).take (i + 1) ++ (rows.drop i).take (rows.length - i) ++ ((rows.take i ++ List.replicate m z).take i ++ [x] ++ (rows.take i ++ List.replicate m z).drop (i + 1)).drop (i + 1 + (rows.length - i)) = rows.take i ++ x :: rows.drop i := by
  have e0 : (rows.take i ++ List.replicate m z).take i = rows.take i := by rw [List.take_append_of_le_length (by simp; omega), List.take_take, Nat.min_self]
  rw [e0]
  have e1 : (rows.take i ++ [x] ++ (rows.take i ++ List.replicate m z).drop (i + 1)).take (i + 1) = rows.take i ++ [x] := by
    rw [List.take_append_of_le_length (by simp; omega), List.take_of_length_le (by simp; omega)]
  have e2 : (rows.take i ++ [x] ++ (rows.take i ++ List.replicate m z).drop (i + 1)).drop (i + 1 + (rows.length - i)) = [] := List.drop_eq_nil_of_le (by simp; omega)
  rw [e1, e2, List.append_nil, List.take_of_length_le (l := rows.drop i) (by simp), List.append_assoc]; rfl
theorem ins_in {α : Type} (rows : List α) (x : α) (i : Nat) (hi : i < rows.length) :
    (rows.take (i + 1) ++ (rows.drop i).take (rows.length - i) ++ rows.drop (i + 1 + (rows.length - i))).take i ++ [x] ++ (rows.take (i + 1) ++ (rows.drop i).take (rows.length - i) ++ rows.drop (i + 1 + (rows.length - i))).drop (i + 1) = rows.take i ++ x :: rows.drop i := by
  have e1 : rows.drop (i + 1 + (rows.length - i)) = [] := List.drop_eq_nil_of_le (by omega)
  have e2 : (rows.drop i).take (rows.length - i) = rows.drop i := List.take_of_length_le (by simp)
  have e3 : (rows.take (i + 1)).length = i + 1 := by rw [List.length_take]; omega
  rw [e1, e2, List.append_nil, List.take_append_of_le_length (by omega), List.take_take, show min i (i + 1) = i by omega, List.drop_left' e3, List.append_assoc]
  rfl

set_option maxHeartbeats 4000000 in
set_option maxRecDepth 100000 in
theorem insS_c_raw (vid id i : Nat) (x : List D) (rows : List (List D)) (hs : Hp) (hi : i ≤ rows.length) (hn : rows.length ≤ 100000) (hx3 : x.length = 2) (hx1 : ∀ d ∈ x, d.one = true) : AC P 41 [.vs id 0 rows.length 2, .d (.int .i64 i), .vs vid 0 1 2] ((vid, .lst 2 [x]) :: (id, .lst 2 rows) :: hs) (fun r h => ∃ id2, r = .vs id2 0 (rows.length + 1) 2 ∧ h = (id2, .lst 2 (rows.take i ++ x :: rows.drop i)) :: hs) := by
  refine AC.of 95 Tryz.func41 rfl rfl rfl ?_
  refine W.reg ?_
  refine XOps.s rfl rfl rfl (Q.assign_nilsl rfl) ?_
  refine XOps.nil ?_
  refine W.reg ?_
  refine XOps.s rfl rfl rfl (Q.move_vs rfl) ?_
  refine XOps.s rfl rfl rfl (Q.move_d rfl) ?_
  refine XOps.s rfl rfl rfl (Q.cut_vs2 (kk := 1) sl28 rfl rfl rfl rfl (by omega) (by omega) (by omega)) ?_
  refine XOps.nil ?_
  refine W.reg ?_
  refine XOps.s rfl rfl rfl (Q.move_vs rfl) ?_
  refine XOps.s rfl rfl rfl (Q.len_vs isl28 rfl) ?_
  refine XOps.s rfl rfl rfl (Q.assign_d rfl) ?_
  refine XOps.nil ?_
  refine W.seq ?_
  refine W.reg ?_
  refine XOps.s rfl rfl rfl (Q.move_d rfl) ?_
  refine XOps.s rfl rfl rfl (Q.eql rfl rfl) ?_
  refine XOps.nil ?_
  refine W.cond rfl (fun hc16 => ?_) (fun hc16 => ?_)
  · try simp only [Bool.or_eq_true, Bool.or_eq_false_iff, Bool.and_eq_true, Bool.and_eq_false_iff, decide_eq_true_eq, decide_eq_false_iff_not, Bool.not_eq_true', Bool.not_eq_false', Int.not_lt, Int.not_le, List.length_map] at hc16
    exact absurd hc16 (by decide)
  · try simp only [Bool.or_eq_true, Bool.or_eq_false_iff, Bool.and_eq_true, Bool.and_eq_false_iff, decide_eq_true_eq, decide_eq_false_iff_not, Bool.not_eq_true', Bool.not_eq_false', Int.not_lt, Int.not_le, List.length_map] at hc16
    refine W.skip ?_
    refine W.reg ?_
    refine XOps.s rfl rfl rfl (Q.move_vs rfl) ?_
    refine XOps.s rfl rfl rfl (Q.len_vs isl28 rfl) ?_
    refine XOps.s rfl rfl rfl (Q.assign_d rfl) ?_
    refine XOps.nil ?_
    refine W.seq ?_
    refine W.reg ?_
    refine XOps.s rfl rfl rfl (Q.move_d rfl) ?_
    refine XOps.s rfl rfl rfl (Q.move_d rfl) ?_
    refine XOps.s rfl rfl rfl (Q.eql rfl rfl) ?_
    refine XOps.nil ?_
    refine W.cond rfl (fun hc22 => ?_) (fun hc22 => ?_)
    · try simp only [Bool.or_eq_true, Bool.or_eq_false_iff, Bool.and_eq_true, Bool.and_eq_false_iff, decide_eq_true_eq, decide_eq_false_iff_not, Bool.not_eq_true', Bool.not_eq_false', Int.not_lt, Int.not_le, List.length_map] at hc22
      refine W.freeze 2 0 rfl rfl rfl ?_
      refine W.reg ?_
      refine XOps.s rfl rfl rfl (Q.move_vs rfl) ?_
      refine XOps.s rfl rfl rfl (Q.move_d rfl) ?_
      (refine XOps.loud rfl (L.app (k := 0) ap28 rfl rfl rfl rfl (by simp; omega) rfl) ?_; rintro _ _ ⟨v25, rfl, rfl⟩)
      refine XOps.s rfl rfl rfl (Q.assign_vs rfl) ?_
      refine XOps.nil ?_
      refine W.ret ?_
      exact ⟨_, (v25, .lst 2 (rows ++ [x])) :: hs, rfl, HLe.refl _, v25, rfl, by rw [ins_end rows x i (by omega)]⟩
    · try simp only [Bool.or_eq_true, Bool.or_eq_false_iff, Bool.and_eq_true, Bool.and_eq_false_iff, decide_eq_true_eq, decide_eq_false_iff_not, Bool.not_eq_true', Bool.not_eq_false', Int.not_lt, Int.not_le, List.length_map] at hc22
      refine W.skip ?_
      refine W.seq ?_
      refine W.reg ?_
      refine XOps.s rfl rfl rfl (Q.move_d rfl) ?_
      refine XOps.s rfl rfl rfl (Q.move_d rfl) ?_
      refine XOps.s rfl rfl rfl (Q.add rfl rfl (wi64 (by first | omega | (dsimp only; omega) | (simp only [List.length_map]; omega)) (by first | omega | (dsimp only; omega) | (simp only [List.length_map]; omega)))) ?_
      refine XOps.s rfl rfl rfl (Q.move_vs rfl) ?_
      (refine XOps.loud rfl (L.cap (k := 1) isl28 rfl rfl rfl) ?_; rintro _ _ ⟨idc, c, ⟨hcp1, hcp2⟩, rfl, rfl⟩)
      refine XOps.s rfl rfl rfl (Q.gtr rfl rfl) ?_
      refine XOps.nil ?_
      refine W.cond rfl (fun hc31 => ?_) (fun hc31 => ?_)
      · try simp only [Bool.or_eq_true, Bool.or_eq_false_iff, Bool.and_eq_true, Bool.and_eq_false_iff, decide_eq_true_eq, decide_eq_false_iff_not, Bool.not_eq_true', Bool.not_eq_false', Int.not_lt, Int.not_le, List.length_map] at hc31
        refine W.reg ?_
        refine XOps.s rfl rfl rfl (Q.move_vs rfl) ?_
        refine XOps.s rfl rfl rfl (Q.move_d rfl) ?_
        refine XOps.s rfl rfl rfl (Q.cut_vs2 (kk := 2) sl28 rfl rfl rfl rfl (by omega) (by omega) (by omega)) ?_
        refine XOps.s rfl rfl rfl (Q.move_d rfl) ?_
        refine XOps.s rfl rfl rfl (Q.move_d rfl) ?_
        refine XOps.s rfl rfl rfl (Q.add rfl rfl (wi64 (by first | omega | (dsimp only; omega) | (simp only [List.length_map]; omega)) (by first | omega | (dsimp only; omega) | (simp only [List.length_map]; omega)))) ?_
        refine XOps.s rfl rfl rfl (Q.move_d rfl) ?_
        refine XOps.s rfl rfl rfl (Q.sub rfl rfl (wi64 (by first | omega | (dsimp only; omega) | (simp only [List.length_map]; omega)) (by first | omega | (dsimp only; omega) | (simp only [List.length_map]; omega)))) ?_
        (refine XOps.loud rfl (L.app_mk2 (k := 2) (kk := 0) (i := i) (m := rows.length + 1 - i) (n := rows.length + 1 - i) ap28 zr28 zrd28 ik3 rfl rfl (by omega) rfl (by exact int_eq (by omega)) rfl (by omega) (by omega) (by omega) rfl) ?_; rintro _ _ ⟨v40, rfl, rfl⟩)
        refine XOps.s rfl rfl rfl (Q.assign_vs rfl) ?_
        refine XOps.nil ?_
        refine W.reg ?_
        refine XOps.s rfl rfl rfl (Q.move_vs rfl) ?_
        refine XOps.s rfl rfl rfl (Q.move_d rfl) ?_
        refine XOps.s rfl rfl rfl (Q.cut_vs2 (kk := 0) sl28 rfl rfl rfl rfl (by omega) (by omega) (by simp; omega)) ?_
        refine XOps.s rfl rfl rfl (Q.move_vs rfl) ?_
        (refine XOps.loud rfl (L.copy_own (k := 0) (k2 := 2) 1 sl28 rfl rfl (by simp; omega) rfl rfl (by omega) (by simp) rfl) ?_; rintro _ _ ⟨rfl, rfl⟩)
        refine XOps.nil ?_
        refine W.drawTreg 9 [8] follows (by kernel_rfl) (by decide) ?_
        apply DT.moreF [.new, .new, .new, .new, .new, .new, .new, .new, .now] (by kernel_rfl)
        refine PC.new _ rfl (GQ.q rfl (Q.move_vs rfl)) rfl ?_
        refine PC.new _ rfl (GQ.q rfl (Q.move_d rfl)) rfl ?_
        refine PC.new _ rfl (GQ.q rfl (Q.move_d rfl)) rfl ?_
        refine PC.new _ rfl (GQ.q rfl (Q.add rfl rfl (wi64 (by first | omega | (dsimp only; omega) | (simp only [List.length_map]; omega)) (by first | omega | (dsimp only; omega) | (simp only [List.length_map]; omega))))) rfl ?_
        refine PC.new _ rfl (GQ.q rfl (Q.cut_vs2 (kk := 0) sl28 rfl rfl rfl rfl (by omega) (by omega) (by simp; omega))) rfl ?_
        refine PC.new _ rfl (GQ.q rfl (Q.move_vs rfl)) rfl ?_
        refine PC.new _ rfl (GQ.q rfl (Q.move_d rfl)) rfl ?_
        refine PC.new _ rfl (GQ.q rfl (Q.cut_vs2 (kk := 3) sl28 rfl rfl rfl rfl (by omega) (by omega) (by simp))) rfl ?_
        refine PC.now rfl rfl (fun τ => Loud.to (L.copy_own (k := 0) (k2 := 3) (rows.length - i) sl28 rfl rfl (by simp; omega) rfl rfl (by omega) (by omega) rfl) (fun _ _ h => ⟨_, h.1, rfl, h.2⟩)) ?_
        refine PC.nil ?_
        rintro _ _ ⟨rfl, rfl⟩
        refine DT.last [.did, .did, .did, .did, .did, .did, .did, .did, .did] (by kernel_rfl) ?_
        refine PC.did rfl ?_
        refine PC.did rfl ?_
        refine PC.did rfl ?_
        refine PC.did rfl ?_
        refine PC.did rfl ?_
        refine PC.did rfl ?_
        refine PC.did rfl ?_
        refine PC.did rfl ?_
        refine PC.did rfl ?_
        refine PC.nil ?_
        refine XOps.nil ?_
        refine W.reg ?_
        refine XOps.s rfl rfl rfl (Q.move_vs rfl) ?_
        refine XOps.s rfl rfl rfl (Q.assign_vs rfl) ?_
        refine XOps.nil ?_
        refine W.ret ?_
        exact ⟨_, (v40, .lst 2 (rows.take i ++ x :: rows.drop i)) :: hs, rfl, HLe.cons' (by refine (congrArg (HO.lst 2) (ins_rep rows x [.str ⟨#[]⟩, .str ⟨#[]⟩] i _ (by omega) rfl).symm).trans ?_; simp only [Nat.zero_add, (show ((i : Int) + ((1 : Nat) : Int)).toNat = i + 1 by omega), Int.toNat_natCast]; rfl) (HLe.skip _ (HLe.skip _ (HLe.skip _ (HLe.refl _)))), v40, (by show AV.vs _ _ _ _ = _; exact vs_eq (by omega)), rfl⟩
      · try simp only [Bool.or_eq_true, Bool.or_eq_false_iff, Bool.and_eq_true, Bool.and_eq_false_iff, decide_eq_true_eq, decide_eq_false_iff_not, Bool.not_eq_true', Bool.not_eq_false', Int.not_lt, Int.not_le, List.length_map] at hc31
        refine W.skip ?_
        refine W.reg ?_
        refine XOps.s rfl rfl rfl (Q.move_vs rfl) ?_
        refine XOps.s rfl rfl rfl (Q.move_d rfl) ?_
        refine XOps.s rfl rfl rfl (Q.move_d rfl) ?_
        refine XOps.s rfl rfl rfl (Q.add rfl rfl (wi64 (by first | omega | (dsimp only; omega) | (simp only [List.length_map]; omega)) (by first | omega | (dsimp only; omega) | (simp only [List.length_map]; omega)))) ?_
        refine XOps.s rfl rfl rfl (Q.cut_cap (kk := 0) sl28 rfl rfl rfl rfl (by omega) (by omega) (by omega)) ?_
        refine XOps.s rfl rfl rfl (Q.assign_vs rfl) ?_
        refine XOps.nil ?_
        refine W.seq ?_
        refine W.reg ?_
        refine XOps.s rfl rfl rfl (Q.move_vs rfl) ?_
        refine XOps.s rfl rfl rfl (Q.move_vs rfl) ?_
        refine XOps.s rfl rfl rfl (Q.move_d rfl) ?_
        refine XOps.s rfl rfl rfl (Q.move_d rfl) ?_
        refine XOps.s rfl rfl rfl (Q.add rfl rfl (wi64 (by first | omega | (dsimp only; omega) | (simp only [List.length_map]; omega)) (by first | omega | (dsimp only; omega) | (simp only [List.length_map]; omega)))) ?_
        refine XOps.s rfl rfl rfl (Q.cut_cap (kk := 0) sl28 rfl rfl rfl rfl (by omega) (by omega) (by omega)) ?_
        refine XOps.s rfl rfl rfl (Q.overlaps (k := 1) (k2 := 2) sl28 rfl (run_callFunc_extern (e := Extern.SlicesOverlaps.overlaps #[28, 28] #[4]) Tryz.func58 (by kernel_rfl) (by kernel_rfl) (by kernel_rfl) (by kernel_rfl)) rfl rfl rfl rfl (by decide) (by decide) (by omega)) ?_
        refine XOps.s rfl rfl rfl (Q.not rfl) ?_
        refine XOps.nil ?_
        refine W.cond_t rfl ?_
        refine W.drawTreg 9 [8] follows (by kernel_rfl) (by decide) ?_
        apply DT.moreF [.new, .new, .new, .new, .new, .new, .new, .new, .now] (by kernel_rfl)
        refine PC.new _ rfl (GQ.q rfl (Q.move_vs rfl)) rfl ?_
        refine PC.new _ rfl (GQ.q rfl (Q.move_d rfl)) rfl ?_
        refine PC.new _ rfl (GQ.q rfl (Q.move_d rfl)) rfl ?_
        refine PC.new _ rfl (GQ.q rfl (Q.add rfl rfl (wi64 (by first | omega | (dsimp only; omega) | (simp only [List.length_map]; omega)) (by first | omega | (dsimp only; omega) | (simp only [List.length_map]; omega))))) rfl ?_
        refine PC.new _ rfl (GQ.q rfl (Q.cut_cap (kk := 0) sl28 rfl rfl rfl rfl (by omega) (by omega) (by omega))) rfl ?_
        refine PC.new _ rfl (GQ.q rfl (Q.move_vs rfl)) rfl ?_
        refine PC.new _ rfl (GQ.q rfl (Q.move_d rfl)) rfl ?_
        refine PC.new _ rfl (GQ.q rfl (Q.cut_cap (kk := 0) sl28 rfl rfl rfl rfl (by omega) (by omega) (by omega))) rfl ?_
        refine PC.now rfl rfl (fun τ => Loud.to (L.copy_own (k := 2) (k2 := 2) (rows.length - i) sl28 rfl rfl (by omega) rfl rfl (by omega) (by omega) rfl) (fun _ _ h => ⟨_, h.1, rfl, h.2⟩)) ?_
        refine PC.nil ?_
        rintro _ _ ⟨rfl, rfl⟩
        refine DT.last [.did, .did, .did, .did, .did, .did, .did, .did, .did] (by kernel_rfl) ?_
        refine PC.did rfl ?_
        refine PC.did rfl ?_
        refine PC.did rfl ?_
        refine PC.did rfl ?_
        refine PC.did rfl ?_
        refine PC.did rfl ?_
        refine PC.did rfl ?_
        refine PC.did rfl ?_
        refine PC.did rfl ?_
        refine PC.nil ?_
        refine XOps.nil ?_
        refine W.reg ?_
        refine XOps.s rfl rfl rfl (Q.move_vs rfl) ?_
        refine XOps.s rfl rfl rfl (Q.move_d rfl) ?_
        refine XOps.s rfl rfl rfl (Q.cut_cap (kk := 0) sl28 rfl rfl rfl rfl (by omega) (by omega) (by omega)) ?_
        refine XOps.s rfl rfl rfl (Q.move_vs rfl) ?_
        (refine XOps.loud rfl (L.copy_own (k := 2) (k2 := 1) 1 sl28 rfl rfl (by simp; omega) rfl rfl (by omega) (by simp) rfl) ?_; rintro _ _ ⟨rfl, rfl⟩)
        refine XOps.nil ?_
        refine W.reg ?_
        refine XOps.s rfl rfl rfl (Q.move_vs rfl) ?_
        refine XOps.s rfl rfl rfl (Q.assign_vs rfl) ?_
        refine XOps.nil ?_
        refine W.ret ?_
        exact ⟨_, (id, .lst 2 (rows.take i ++ x :: rows.drop i)) :: hs, rfl, HLe.skip _ (HLe.skip _ (HLe.cons' (by refine (congrArg (HO.lst 2) (ins_in rows x i (by omega)).symm).trans ?_; simp only [Nat.zero_add, (show ((i : Int) + ((1 : Nat) : Int)).toNat = i + 1 by omega), Int.toNat_natCast]; rfl) (HLe.refl _))), id, (by show AV.vs _ _ _ _ = _; exact vs_eq (by omega)), rfl⟩

theorem insS_c (vid id i : Nat) (x : SR) (l : List SR) (hs : Hp) (hi : i ≤ l.length) (hn : l.length ≤ 100000) : AC P 41 [.vs id 0 l.length 2, .d (.int .i64 i), .vs vid 0 1 2] ((vid, .lst 2 [SR.enc x]) :: (id, .lst 2 (l.map SR.enc)) :: hs)
    (fun r h => ∃ id2, r = .vs id2 0 (l.length + 1) 2 ∧ h = (id2, .lst 2 ((l.take i ++ x :: l.drop i).map SR.enc)) :: hs) := by
  have h := insS_c_raw vid id i (SR.enc x) (l.map SR.enc) hs (by simpa using hi) (by simpa using hn) rfl (by simp [SR.enc, D.one])
  rw [List.length_map] at h
  exact h.mono fun r h' ⟨id2, h1, h2⟩ => ⟨id2, h1, by rw [h2]; simp⟩

set_option maxHeartbeats 1000000 in
set_option maxRecDepth 100000 in
theorem delS_c (m i j : Nat) (rows : List (List D)) (hs : Hp) (hij : i < j) (hj : j ≤ rows.length) (hn : rows.length ≤ 4611686018427387904) : AC P 42 [.vs m 0 rows.length 2, .d (.int .i64 i), .d (.int .i64 j)] ((m, .lst 2 rows) :: hs) (fun r h => r = .vs m 0 (rows.length - (j - i)) 2 ∧ h = (m, .lst 2 (rows.take i ++ rows.drop j)) :: hs) := by
  refine AC.of 33 Tryz.func42 rfl rfl rfl ?_
  refine W.reg ?_
  refine XOps.s rfl rfl rfl (Q.assign_nilsl rfl) ?_
  refine XOps.nil ?_
  refine W.reg ?_
  refine XOps.s rfl rfl rfl (Q.move_vs rfl) ?_
  refine XOps.s rfl rfl rfl (Q.move_d rfl) ?_
  refine XOps.s rfl rfl rfl (Q.move_d rfl) ?_
  refine XOps.s rfl rfl rfl (Q.move_vs rfl) ?_
  refine XOps.s rfl rfl rfl (Q.len_vs isl28 rfl) ?_
  refine XOps.s rfl rfl rfl (Q.cut3_vs sl28 rfl rfl rfl rfl (by first | omega | (simp at hg; omega)) (by first | omega | (simp at hg; omega)) (by first | omega | (simp at hg; omega)) (by first | omega | (simp at hg; omega))) ?_
  refine XOps.nil ?_
  refine W.seq ?_
  refine W.reg ?_
  refine XOps.s rfl rfl rfl (Q.move_d rfl) ?_
  refine XOps.s rfl rfl rfl (Q.move_d rfl) ?_
  refine XOps.s rfl rfl rfl (Q.eql rfl rfl) ?_
  refine XOps.nil ?_
  refine W.cond rfl (fun hc16 => ?_) (fun hc16 => ?_)
  · try simp only [Bool.or_eq_true, Bool.or_eq_false_iff, Bool.and_eq_true, Bool.and_eq_false_iff, decide_eq_true_eq, decide_eq_false_iff_not, Bool.not_eq_true', Bool.not_eq_false', Int.not_lt, Int.not_le, List.length_map] at hc16
    exact absurd hc16 (by omega)
  · try simp only [Bool.or_eq_true, Bool.or_eq_false_iff, Bool.and_eq_true, Bool.and_eq_false_iff, decide_eq_true_eq, decide_eq_false_iff_not, Bool.not_eq_true', Bool.not_eq_false', Int.not_lt, Int.not_le, List.length_map] at hc16
    refine W.skip ?_
    refine W.reg ?_
    refine XOps.s rfl rfl rfl (Q.move_vs rfl) ?_
    refine XOps.s rfl rfl rfl (Q.len_vs isl28 rfl) ?_
    refine XOps.s rfl rfl rfl (Q.assign_d rfl) ?_
    refine XOps.nil ?_
    refine W.drawTreg 8 [6] follows (by kernel_rfl) (by decide) ?_
    refine DT.more (Rp := fun v h => v = .vs m 0 (i + (rows.length - j)) 2 ∧ h = (m, .lst 2 (rows.take i ++ (rows.drop j).take (rows.length - j) ++ rows.drop (i + (rows.length - j)))) :: hs) [.new, .new, .new, .new, .new, .new, .now, .later] (by kernel_rfl) ?_
    refine PC.new _ rfl (GQ.q rfl (Q.move_vs rfl)) rfl ?_
    refine PC.new _ rfl (GQ.q rfl (Q.move_d rfl)) rfl ?_
    refine PC.new _ rfl (GQ.q rfl (Q.cut_vs sl28 rfl rfl rfl (by first | omega | (simp only [List.length_map]; omega)) (by first | omega | (simp only [List.length_map]; omega)) (by first | omega | (simp only [List.length_map]; omega)))) rfl ?_
    refine PC.new _ rfl (GQ.q rfl (Q.move_vs rfl)) rfl ?_
    refine PC.new _ rfl (GQ.q rfl (Q.move_d rfl)) rfl ?_
    refine PC.new _ rfl (GQ.q rfl (Q.cut_vs sl28 rfl rfl rfl (by first | omega | (simp only [List.length_map]; omega)) (by first | omega | (simp only [List.length_map]; omega)) (by first | omega | (simp only [List.length_map]; omega)))) rfl ?_
    refine PC.now rfl rfl (fun τ => Loud.to (L.app_in (k := 0) ap28 rfl rfl rfl (by simp; omega) (by simp; omega) rfl) (fun _ _ h => ⟨_, h.1, rfl, by simpa using h.2⟩)) ?_
    refine PC.later rfl ?_
    refine PC.nil ?_
    rintro _ _ ⟨rfl, rfl⟩
    refine DT.last [.did, .did, .did, .did, .did, .did, .did, .new] (by kernel_rfl) ?_
    refine PC.did rfl ?_
    refine PC.did rfl ?_
    refine PC.did rfl ?_
    refine PC.did rfl ?_
    refine PC.did rfl ?_
    refine PC.did rfl ?_
    refine PC.did rfl ?_
    refine PC.new _ rfl (GQ.q rfl (Q.assign_vs rfl)) rfl ?_
    refine PC.nil ?_
    refine XOps.nil ?_
    refine W.reg ?_
    refine XOps.s rfl rfl rfl (Q.move_vs rfl) ?_
    refine XOps.s rfl rfl rfl (Q.move_vs rfl) ?_
    refine XOps.s rfl rfl rfl (Q.len_vs isl28 rfl) ?_
    refine XOps.s rfl rfl rfl (Q.move_d rfl) ?_
    refine XOps.s rfl rfl rfl (Q.cut_vs2 (kk := 0) sl28 rfl rfl rfl rfl (by omega) (by omega) (by simp; omega)) ?_
    refine XOps.loud rfl (L.clear (k := 0) sl28 zr28 rfl zrd28 (by decide) rfl rfl (by simp; omega)) ?_
    rintro _ _ ⟨rfl, rfl⟩
    refine XOps.nil ?_
    refine W.front_of 0 (rows.length - (j - i)) rfl ?_
    refine W.reg ?_
    refine XOps.s rfl rfl rfl (Q.move_vs rfl) ?_
    refine XOps.s rfl rfl rfl (Q.assign_vs rfl) ?_
    refine XOps.nil ?_
    refine W.ret ?_
    refine ⟨_, (m, .lst 2 (rows.take i ++ rows.drop j)) :: hs, rfl, HLe.cons' ?_ (HLe.refl _), ?_, rfl⟩
    · congr 1
      rw [List.append_assoc]
      exact (del_rows rows i j _ _ hij hj (by omega) (by omega) _ _).symm
    · show AV.vs _ _ _ _ = _
      congr 1
      omega

theorem set_enc (l : List SR) (k : Nat) (x : SR) (v : ByteArray) (h : k < l.length) (r : List D) (hr : r = SR.enc ⟨x.key, v⟩) : (l.map SR.enc).set k r = (l.set k ⟨x.key, v⟩).map SR.enc := by subst hr; rw [List.map_set]

set_option maxHeartbeats 1000000 in
set_option maxRecDepth 100000 in
theorem set_c (l : List SR) (c v : ByteArray) (hs : Hp) (hL : l.length ≤ 4398046511104) (hz : szR l) (hc : c.size ≤ 140737488355000) (hv : v.size ≤ 140737488355000) : AC P 29 [.d (.sl 2 (l.map SR.enc)), .d (.str c), .d (.str v)] hs (fun r h => r = .tup [.d (.sl 2 ((setL l c v).map SR.enc)), .d (.int .i64 (setE l c v))] ∧ h = hs) := by
  obtain ⟨x, hx⟩ : ∃ x : SR, isS l c = true → l[atS l c]? = some x ∧ x.key = c := by
    cases h : isS l c with
    | true => obtain ⟨x, hx, hk⟩ := isS_at h; exact ⟨x, fun _ => ⟨hx, hk⟩⟩
    | false => exact ⟨⟨c, c⟩, fun h => by cases h⟩
  have hal := atS_le l c
  refine AC.of 51 Tryz.func29 rfl rfl rfl ?_
  refine W.reg ?_
  refine XOps.s rfl rfl rfl (Q.assign_nilsl rfl) ?_
  refine XOps.s rfl rfl rfl (Q.assign_d rfl) ?_
  refine XOps.nil ?_
  refine W.seq ?_
  refine W.reg ?_
  refine XOps.s rfl rfl rfl (Q.move_d rfl) ?_
  refine XOps.s rfl rfl rfl (Q.call rfl Tryz.func21 go21 rfl (check_c l _ (by omega) hz)) ?_
  refine XOps.s rfl rfl rfl (Q.assign_d rfl) ?_
  refine XOps.nil ?_
  refine W.reg ?_
  refine XOps.s rfl rfl rfl (Q.move_d rfl) ?_
  refine XOps.s rfl rfl rfl (Q.neq rfl rfl) ?_
  refine XOps.nil ?_
  refine W.cond rfl (fun hc14 => ?_) (fun hc14 => ?_)
  · try simp only [Bool.or_eq_true, Bool.or_eq_false_iff, Bool.and_eq_true, Bool.and_eq_false_iff, decide_eq_true_eq, decide_eq_false_iff_not, Bool.not_eq_true', Bool.not_eq_false', Int.not_lt, Int.not_le, List.length_map] at hc14
    have hE : setE l c v = checkL l := if_pos hc14
    have hV : setL l c v = [] := if_pos (by omega)
    rw [hE, hV]
    refine W.reg ?_
    refine XOps.s rfl rfl rfl (Q.move_d rfl) ?_
    refine XOps.s rfl rfl rfl (Q.assign_nilsl rfl) ?_
    refine XOps.s rfl rfl rfl (Q.assign_d rfl) ?_
    refine XOps.nil ?_
    refine W.nild 6 2 rfl ?_
    refine W.ret ?_
    refine ⟨_, hs, rfl, by repeat (first | exact HLe.refl _ | refine HLe.skip _ ?_), ?_, rfl⟩
    rfl
  · try simp only [Bool.or_eq_true, Bool.or_eq_false_iff, Bool.and_eq_true, Bool.and_eq_false_iff, decide_eq_true_eq, decide_eq_false_iff_not, Bool.not_eq_true', Bool.not_eq_false', Int.not_lt, Int.not_le, List.length_map] at hc14
    have h0 : checkL l = 0 := by omega
    have h14 := checkL_zero.1 h0
    refine W.skip ?_
    refine W.seq ?_
    refine W.reg ?_
    refine XOps.s rfl rfl rfl (Q.move_d rfl) ?_
    refine XOps.s rfl rfl rfl (Q.call rfl Tryz.func32 go32 rfl (keyed_c c _ hc)) ?_
    refine XOps.s rfl rfl rfl (Q.not rfl) ?_
    refine XOps.s rfl rfl rfl (Q.move_d rfl) ?_
    refine XOps.gs rfl rfl rfl rfl rfl rfl rfl (fun hg => Q.move_d rfl) ?_
    refine XOps.gs rfl rfl rfl rfl rfl rfl rfl (fun hg => Quiet.open 20 hg rfl (Q.call rfl Tryz.func33 go33 rfl (valued_c v _ hv))) ?_
    refine XOps.gs rfl rfl rfl rfl rfl rfl rfl (fun hg => Quiet.open 21 hg rfl (Q.not rfl)) ?_
    refine XOps.s rfl rfl rfl (Q.pick_or rfl rfl rfl (fun h => by first | (rw [h]; rfl) | (rw [hg, h]; rfl) | (simp [h, hg]; done))) ?_
    refine XOps.nil ?_
    refine W.cond rfl (fun hc23 => ?_) (fun hc23 => ?_)
    · try simp only [Bool.or_eq_true, Bool.or_eq_false_iff, Bool.and_eq_true, Bool.and_eq_false_iff, decide_eq_true_eq, decide_eq_false_iff_not, Bool.not_eq_true', Bool.not_eq_false', Int.not_lt, Int.not_le, List.length_map] at hc23
      have h23 : keyedS c = false ∨ valuedS v = false := by simpa using hc23
      have hE : setE l c v = 3 := by unfold setE; rw [if_neg (by omega), if_pos h23]
      have hV : setL l c v = [] := if_pos (by omega)
      rw [hE, hV]
      refine W.reg ?_
      refine XOps.s rfl rfl rfl (Q.assign_nilsl rfl) ?_
      refine XOps.s rfl rfl rfl (Q.assign_d rfl) ?_
      refine XOps.nil ?_
      refine W.nild 6 2 rfl ?_
      refine W.ret ?_
      refine ⟨_, hs, rfl, by repeat (first | exact HLe.refl _ | refine HLe.skip _ ?_), ?_, rfl⟩
      rfl
    · try simp only [Bool.or_eq_true, Bool.or_eq_false_iff, Bool.and_eq_true, Bool.and_eq_false_iff, decide_eq_true_eq, decide_eq_false_iff_not, Bool.not_eq_true', Bool.not_eq_false', Int.not_lt, Int.not_le, List.length_map] at hc23
      have h23 : ¬ (keyedS c = false ∨ valuedS v = false) := by simpa using hc23
      refine W.skip ?_
      refine W.reg ?_
      refine XOps.s rfl rfl rfl (Q.move_d rfl) ?_
      (refine XOps.loud rfl (L.call rfl Tryz.func34 go34 rfl (cloneS_c l _ (by omega)) rfl) ?_; rintro _ _ ⟨_, rfl, v25, rfl, rfl⟩)
      refine XOps.s rfl rfl rfl (Q.assign_vs rfl) ?_
      refine XOps.nil ?_
      refine W.reg ?_
      refine XOps.s rfl rfl rfl (Q.move_vs rfl) ?_
      refine XOps.s rfl rfl rfl (Q.move_d rfl) ?_
      refine XOps.s rfl rfl rfl (Q.call rfl Tryz.func40 go40 rfl (find_own v25 l c hs h14.1 (by omega))) ?_
      refine XOps.s rfl rfl rfl (Q.move_tup rfl) ?_
      refine XOps.s rfl rfl rfl (Q.extract rfl rfl) ?_
      refine XOps.s rfl rfl rfl (Q.extract rfl rfl) ?_
      refine XOps.s rfl rfl rfl (Q.assign_d rfl) ?_
      refine XOps.s rfl rfl rfl (Q.assign_d rfl) ?_
      refine XOps.nil ?_
      refine W.seq ?_
      refine W.block ?_
      refine W.reg ?_
      refine XOps.s rfl rfl rfl (Q.move_d rfl) ?_
      refine XOps.s rfl rfl rfl (Q.assign_d rfl) ?_
      refine XOps.nil ?_
      refine W.cond rfl (fun hc39 => ?_) (fun hc39 => ?_)
      · try simp only [Bool.or_eq_true, Bool.or_eq_false_iff, Bool.and_eq_true, Bool.and_eq_false_iff, decide_eq_true_eq, decide_eq_false_iff_not, Bool.not_eq_true', Bool.not_eq_false', Int.not_lt, Int.not_le, List.length_map] at hc39
        have hE : setE l c v = 0 := by unfold setE; rw [if_neg (by omega), if_neg h23, if_neg (by simp [hc39])]
        have hV : setL l c v = l.set (atS l c) ⟨c, v⟩ := by unfold setL putS; rw [if_neg (by omega), if_pos hc39]
        rw [hE, hV]
        have hkl := (List.getElem?_eq_some_iff.1 (hx hc39).1).1
        refine W.region ?_
        refine XOps.s rfl rfl rfl (Q.move_vs rfl) ?_
        refine XOps.s rfl rfl rfl (Q.move_d rfl) ?_
        refine XOps.s rfl rfl rfl (Q.move_d rfl) ?_
        refine XOps.s rfl rfl rfl (Q.idx_vs (kk := 0) sl28 rfl rfl rfl (by omega) (by have := (List.getElem?_eq_some_iff.1 (hx hc39).1).1; omega)) ?_
        refine XOps.s rfl rfl rfl (Q.fld_ep fl50_1 rfl) ?_
        (refine XOps.loud rfl (L.store_ep (k := 0) ag9 rfl rfl (map_at0 (hx hc39).1) rfl rfl rfl) ?_; rintro _ _ ⟨rfl, rfl⟩)
        refine XOps.nil ?_
        refine W.heap ((v25, .lst 2 ((l.set (atS l c) ⟨c, v⟩).map SR.enc)) :: hs) (HLe.cons' (congrArg (HO.lst 2) (by rw [Nat.zero_add, Int.toNat_natCast]; have := set_enc l (atS l c) x v hkl (x.enc.set (0 + 1) (.str v)) rfl; rw [(hx hc39).2] at this; exact this.symm)) (HLe.refl _)) ?_
        refine W.reg ?_
        refine XOps.s rfl rfl rfl (Q.move_vs rfl) ?_
        refine XOps.s rfl rfl rfl (Q.assign_vs rfl) ?_
        refine XOps.s rfl rfl rfl (Q.assign_d rfl) ?_
        refine XOps.nil ?_
        refine W.freeze 6 0 rfl rfl (by simp <;> omega) ?_
        refine W.ret ?_
        refine ⟨_, hs, rfl, by repeat (first | exact HLe.refl _ | refine HLe.skip _ ?_), ?_, rfl⟩
        rfl
      · try simp only [Bool.or_eq_true, Bool.or_eq_false_iff, Bool.and_eq_true, Bool.and_eq_false_iff, decide_eq_true_eq, decide_eq_false_iff_not, Bool.not_eq_true', Bool.not_eq_false', Int.not_lt, Int.not_le, List.length_map] at hc39
        have h39 : isS l c = false := by simpa using hc39
        refine W.reg ?_
        refine XOps.s rfl rfl rfl (Q.move_vs rfl) ?_
        refine XOps.s rfl rfl rfl (Q.len_vs isl28 rfl) ?_
        refine XOps.s rfl rfl rfl (Q.eql rfl rfl) ?_
        refine XOps.s rfl rfl rfl (Q.assign_d rfl) ?_
        refine XOps.nil ?_
        refine W.cond rfl (fun hc46 => ?_) (fun hc46 => ?_)
        · try simp only [Bool.or_eq_true, Bool.or_eq_false_iff, Bool.and_eq_true, Bool.and_eq_false_iff, decide_eq_true_eq, decide_eq_false_iff_not, Bool.not_eq_true', Bool.not_eq_false', Int.not_lt, Int.not_le, List.length_map] at hc46
          have hE : setE l c v = 9 := by unfold setE; rw [if_neg (by omega), if_neg h23, if_pos ⟨h39, by omega⟩]
          have hV : setL l c v = [] := if_pos (by omega)
          rw [hE, hV]
          refine W.reg ?_
          refine XOps.s rfl rfl rfl (Q.assign_nilsl rfl) ?_
          refine XOps.s rfl rfl rfl (Q.assign_d rfl) ?_
          refine XOps.nil ?_
          refine W.nild 6 2 rfl ?_
          refine W.ret ?_
          refine ⟨_, hs, rfl, by repeat (first | exact HLe.refl _ | refine HLe.skip _ ?_), ?_, rfl⟩
          rfl
        · try simp only [Bool.or_eq_true, Bool.or_eq_false_iff, Bool.and_eq_true, Bool.and_eq_false_iff, decide_eq_true_eq, decide_eq_false_iff_not, Bool.not_eq_true', Bool.not_eq_false', Int.not_lt, Int.not_le, List.length_map] at hc46
          have hE : setE l c v = 0 := by unfold setE; rw [if_neg (by omega), if_neg h23, if_neg (fun h => hc46 (by omega))]
          have hV : setL l c v = insS l (atS l c) ⟨c, v⟩ := by unfold setL putS; rw [if_neg (by omega), if_neg (by simp [h39])]
          rw [hE, hV]
          refine W.region ?_
          refine XOps.s rfl rfl rfl (Q.move_vs rfl) ?_
          refine XOps.s rfl rfl rfl (Q.move_d rfl) ?_
          refine XOps.s rfl rfl rfl (Q.move_d rfl) ?_
          refine XOps.s rfl rfl rfl (Q.move_d rfl) ?_
          refine XOps.s rfl rfl rfl (Q.build pl50 tz50 tzd50 rfl) ?_
          (refine XOps.loud rfl (L.bslo sl28 (by decide) zr28 rfl zrd28 (by decide) rfl rfl rfl) ?_; rintro _ _ ⟨v37, rfl, rfl⟩)
          (refine XOps.loud rfl (L.call rfl Tryz.func41 go41 rfl (insS_c v37 v25 (atS l c) ⟨c, v⟩ l hs hal (by omega)) rfl) ?_; rintro _ _ ⟨_, rfl, id2, rfl, rfl⟩)
          refine XOps.s rfl rfl rfl (Q.assign_vs rfl) ?_
          refine XOps.nil ?_
          refine W.reg ?_
          refine XOps.s rfl rfl rfl (Q.move_vs rfl) ?_
          refine XOps.s rfl rfl rfl (Q.assign_vs rfl) ?_
          refine XOps.s rfl rfl rfl (Q.assign_d rfl) ?_
          refine XOps.nil ?_
          refine W.freeze 6 0 rfl rfl (by simp <;> omega) ?_
          refine W.ret ?_
          refine ⟨_, hs, rfl, by repeat (first | exact HLe.refl _ | refine HLe.skip _ ?_), ?_, rfl⟩
          rfl

set_option maxHeartbeats 1000000 in
set_option maxRecDepth 100000 in
theorem cutS_c (l : List SR) (c : ByteArray) (hs : Hp) (hL : l.length ≤ 4398046511104) (hz : szR l) : AC P 30 [.d (.sl 2 (l.map SR.enc)), .d (.str c)] hs (fun r h => r = .tup [.d (.sl 2 ((cutLs l c).map SR.enc)), .d (.int .i64 (cutE l c))] ∧ h = hs) := by
  obtain ⟨x, hx⟩ : ∃ x : SR, isS l c = true → l[atS l c]? = some x ∧ x.key = c := by
    cases h : isS l c with
    | true => obtain ⟨x, hx, hk⟩ := isS_at h; exact ⟨x, fun _ => ⟨hx, hk⟩⟩
    | false => exact ⟨⟨c, c⟩, fun h => by cases h⟩
  have hal := atS_le l c
  refine AC.of 28 Tryz.func30 rfl rfl rfl ?_
  refine W.reg ?_
  refine XOps.s rfl rfl rfl (Q.assign_nilsl rfl) ?_
  refine XOps.s rfl rfl rfl (Q.assign_d rfl) ?_
  refine XOps.nil ?_
  refine W.seq ?_
  refine W.reg ?_
  refine XOps.s rfl rfl rfl (Q.move_d rfl) ?_
  refine XOps.s rfl rfl rfl (Q.call rfl Tryz.func21 go21 rfl (check_c l _ (by omega) hz)) ?_
  refine XOps.s rfl rfl rfl (Q.assign_d rfl) ?_
  refine XOps.nil ?_
  refine W.reg ?_
  refine XOps.s rfl rfl rfl (Q.move_d rfl) ?_
  refine XOps.s rfl rfl rfl (Q.neq rfl rfl) ?_
  refine XOps.nil ?_
  refine W.cond rfl (fun hc12 => ?_) (fun hc12 => ?_)
  · try simp only [Bool.or_eq_true, Bool.or_eq_false_iff, Bool.and_eq_true, Bool.and_eq_false_iff, decide_eq_true_eq, decide_eq_false_iff_not, Bool.not_eq_true', Bool.not_eq_false', Int.not_lt, Int.not_le, List.length_map] at hc12
    have hE : cutE l c = checkL l := if_pos hc12
    have hV : cutLs l c = [] := if_pos (by omega)
    rw [hE, hV]
    refine W.reg ?_
    refine XOps.s rfl rfl rfl (Q.move_d rfl) ?_
    refine XOps.s rfl rfl rfl (Q.assign_nilsl rfl) ?_
    refine XOps.s rfl rfl rfl (Q.assign_d rfl) ?_
    refine XOps.nil ?_
    refine W.nild 4 2 rfl ?_
    refine W.ret ?_
    refine ⟨_, hs, rfl, by repeat (first | exact HLe.refl _ | refine HLe.skip _ ?_), ?_, rfl⟩
    rfl
  · try simp only [Bool.or_eq_true, Bool.or_eq_false_iff, Bool.and_eq_true, Bool.and_eq_false_iff, decide_eq_true_eq, decide_eq_false_iff_not, Bool.not_eq_true', Bool.not_eq_false', Int.not_lt, Int.not_le, List.length_map] at hc12
    have h0 : checkL l = 0 := by omega
    have h12 := checkL_zero.1 h0
    refine W.skip ?_
    refine W.reg ?_
    refine XOps.s rfl rfl rfl (Q.move_d rfl) ?_
    refine XOps.s rfl rfl rfl (Q.move_d rfl) ?_
    refine XOps.s rfl rfl rfl (Q.call rfl Tryz.func40 go40 rfl (find_c l c _ h12.1 (by omega))) ?_
    refine XOps.s rfl rfl rfl (Q.move_tup rfl) ?_
    refine XOps.s rfl rfl rfl (Q.extract rfl rfl) ?_
    refine XOps.s rfl rfl rfl (Q.extract rfl rfl) ?_
    refine XOps.s rfl rfl rfl (Q.assign_d rfl) ?_
    refine XOps.s rfl rfl rfl (Q.assign_d rfl) ?_
    refine XOps.nil ?_
    refine W.seq ?_
    refine W.reg ?_
    refine XOps.s rfl rfl rfl (Q.move_d rfl) ?_
    refine XOps.s rfl rfl rfl (Q.not rfl) ?_
    refine XOps.nil ?_
    refine W.cond rfl (fun hc21 => ?_) (fun hc21 => ?_)
    · try simp only [Bool.or_eq_true, Bool.or_eq_false_iff, Bool.and_eq_true, Bool.and_eq_false_iff, decide_eq_true_eq, decide_eq_false_iff_not, Bool.not_eq_true', Bool.not_eq_false', Int.not_lt, Int.not_le, List.length_map] at hc21
      have h21 : isS l c = false := by simpa using hc21
      have hE : cutE l c = 8 := by unfold cutE getE; rw [if_neg (by omega), if_pos h21]
      have hV : cutLs l c = [] := if_pos (by omega)
      rw [hE, hV]
      refine W.reg ?_
      refine XOps.s rfl rfl rfl (Q.assign_nilsl rfl) ?_
      refine XOps.s rfl rfl rfl (Q.assign_d rfl) ?_
      refine XOps.nil ?_
      refine W.nild 4 2 rfl ?_
      refine W.ret ?_
      refine ⟨_, hs, rfl, by repeat (first | exact HLe.refl _ | refine HLe.skip _ ?_), ?_, rfl⟩
      rfl
    · try simp only [Bool.or_eq_true, Bool.or_eq_false_iff, Bool.and_eq_true, Bool.and_eq_false_iff, decide_eq_true_eq, decide_eq_false_iff_not, Bool.not_eq_true', Bool.not_eq_false', Int.not_lt, Int.not_le, List.length_map] at hc21
      have h21 : isS l c = true := by simpa using hc21
      have hE : cutE l c = 0 := by unfold cutE getE; rw [if_neg (by omega), if_neg (by simp [h21])]
      have hV : cutLs l c = delS l c := by unfold cutLs; rw [if_neg (by omega)]
      rw [hE, hV]
      have hkl := (List.getElem?_eq_some_iff.1 (hx h21).1).1
      refine W.skip ?_
      refine W.reg ?_
      refine XOps.s rfl rfl rfl (Q.move_d rfl) ?_
      (refine XOps.loud rfl (L.call rfl Tryz.func34 go34 rfl (cloneS_c l _ (by omega)) rfl) ?_; rintro _ _ ⟨_, rfl, v23, rfl, rfl⟩)
      refine XOps.s rfl rfl rfl (Q.move_d rfl) ?_
      refine XOps.s rfl rfl rfl (Q.move_d rfl) ?_
      refine XOps.s rfl rfl rfl (Q.add rfl rfl (wi64 (by first | omega | (dsimp only; omega) | (simp only [List.length_map]; omega)) (by first | omega | (dsimp only; omega) | (simp only [List.length_map]; omega)))) ?_
      (refine XOps.loud rfl (L.call rfl Tryz.func42 go42 (by show [AV.vs v23 0 l.length 2, AV.d (.int .i64 (atS l c : Nat)), AV.d (.int .i64 ((atS l c : Int) + 1))] = [AV.vs v23 0 (l.map SR.enc).length 2, AV.d (.int .i64 (atS l c : Nat)), AV.d (.int .i64 ((atS l c + 1 : Nat) : Int))]; rw [List.length_map]; rfl) (delS_c v23 (atS l c) (atS l c + 1) (l.map SR.enc) hs (by omega) (by simp; omega) (by simp; omega)) rfl) ?_; rintro _ _ ⟨_, rfl, rfl, rfl⟩)
      refine XOps.s rfl rfl rfl (Q.assign_vs rfl) ?_
      refine XOps.s rfl rfl rfl (Q.assign_d rfl) ?_
      refine XOps.nil ?_
      refine W.freeze 4 0 rfl rfl (by simp; omega) ?_
      refine W.ret ?_
      refine ⟨_, hs, rfl, by repeat (first | exact HLe.refl _ | refine HLe.skip _ ?_), ?_, rfl⟩
      (unfold delS; rw [List.map_append, List.map_take, List.map_drop]; rfl)
end Go.Proofs.YtodbcbojkfndiaaGreatDoorA
