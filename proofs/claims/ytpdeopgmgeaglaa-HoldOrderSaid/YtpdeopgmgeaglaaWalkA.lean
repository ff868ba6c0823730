/- R.Cut, library functions, package hold, the law HoldWaits. -/
import Derived.Test.YtpdeopgmgeaglaaBase
import Derived.Test.YtpdeopgmgeaglaaSpec
import Derived.Test.YtpdeopgmgeaglaaAbs13
set_option linter.unusedVariables false
set_option linter.unusedSimpArgs false
set_option linter.unnecessarySimpa false
namespace Go.Proofs.YtpdeopgmgeaglaaA.FWalkA
open Go
theorem ag28 : tAgg P 28 = some ((true, 3)) := by kernel_rfl
theorem ag3 : tAgg P 3 = some ((false, 1)) := by kernel_rfl
theorem ag36 : tAgg P 36 = some ((false, 1)) := by kernel_rfl
theorem ag39 : tAgg P 39 = some ((true, 3)) := by kernel_rfl
theorem ag5 : tAgg P 5 = some ((false, 1)) := by kernel_rfl
theorem ag9 : tAgg P 9 = some ((false, 1)) := by kernel_rfl
theorem ap36 : tApp P 36 = some ((3, 32)) := by kernel_rfl
theorem fl28_0 : tFld P 28 0 = some (0) := by kernel_rfl
theorem fl28_1 : tFld P 28 1 = some (1) := by kernel_rfl
theorem fl28_2 : tFld P 28 2 = some (2) := by kernel_rfl
theorem fl39_0 : tFld P 39 0 = some (0) := by kernel_rfl
theorem fl46_1 : tFld P 46 1 = some (3) := by kernel_rfl
theorem fl46_2 : tFld P 46 2 = some (4) := by kernel_rfl
theorem go16 : callGo Go.Proofs.Try.f16 = true := by kernel_rfl
theorem go22 : callGo Go.Proofs.Try.f22 = true := by kernel_rfl
theorem go24 : callGo Go.Proofs.Try.f24 = true := by kernel_rfl
theorem go25 : callGo Go.Proofs.Try.f25 = true := by kernel_rfl
theorem ibs55 : isBytes P 55 = true := by kernel_rfl
theorem isl36 : isSl P 36 = true := by kernel_rfl
theorem isl55 : isSl P 55 = true := by kernel_rfl
theorem ist9 : isStr P 9 = true := by kernel_rfl
theorem pl46 : tPl P 46 = some ([(0, 3), (3, 1), (4, 1)]) := by kernel_rfl
theorem sl36 : tSl P 36 = some (3) := by kernel_rfl
theorem sl55 : tSl P 55 = some (1) := by kernel_rfl
theorem tz46 : tZero P 46 = some ([.int .i64 0, .int .i64 0, .int .i64 0, .slice none 0 0, .int .i64 0]) := by kernel_rfl
theorem zr36 : tZrow P 36 = some ([.string ⟨#[]⟩, .int .i64 0, .int .i64 0]) := by kernel_rfl
theorem zrd36 : cellsD [.string ⟨#[]⟩, .int .i64 0, .int .i64 0] = some ([.str ⟨#[]⟩, .int .i64 0, .int .i64 0]) := rfl
end Go.Proofs.YtpdeopgmgeaglaaA.FWalkA
namespace Go.Proofs.YtpdeopgmgeaglaaA
open Go FWalkA
set_option maxHeartbeats 1000000 in
set_option maxRecDepth 100000 in
theorem cut_c (n lo hi : Int) (hs : Hp) (h0 : -1000000000000 ≤ lo) (h1 : lo ≤ hi) (h2 : hi ≤ 1000000000000) : AC P 7 [.d (.int .i64 n), .d (.int .i64 lo), .d (.int .i64 hi)] hs (fun r h => r = .d (.int .i64 (cutI n lo hi)) ∧ h = hs) := by
  refine AC.of 23 Try.func7 rfl rfl rfl ?_
  refine W.reg ?_
  refine XOps.s rfl rfl rfl (Q.assign_d rfl) ?_
  refine XOps.nil ?_
  refine W.reg ?_
  refine XOps.s rfl rfl rfl (Q.move_d rfl) ?_
  refine XOps.s rfl rfl rfl (Q.move_d rfl) ?_
  refine XOps.s rfl rfl rfl (Q.sub rfl rfl (wi64 (by first | omega | (dsimp only; omega)) (by first | omega | (dsimp only; omega)))) ?_
  refine XOps.s rfl rfl rfl (Q.add rfl rfl (wi64 (by first | omega | (dsimp only; omega)) (by first | omega | (dsimp only; omega)))) ?_
  refine XOps.s rfl rfl rfl (Q.assign_d rfl) ?_
  refine XOps.nil ?_
  refine W.reg ?_
  refine XOps.s rfl rfl rfl (Q.move_d rfl) ?_
  refine XOps.s rfl rfl rfl (Q.move_d rfl) ?_
  refine XOps.s rfl rfl rfl (Q.rem rfl rfl (by omega) rfl) ?_
  refine XOps.s rfl rfl rfl (Q.assign_d rfl) ?_
  refine XOps.nil ?_
  refine W.seq ?_
  have hm := cut_mod (n := n) (m := hi - lo + 1) (by omega) rfl
  have hm0 := Int.emod_nonneg n (by omega : hi - lo + 1 ≠ 0)
  have hm1 := Int.emod_lt_of_pos n (by omega : 0 < hi - lo + 1)
  generalize hT : n.tmod (hi - lo + 1) = t at hm ⊢
  refine W.reg ?_
  refine XOps.s rfl rfl rfl (Q.move_d rfl) ?_
  refine XOps.s rfl rfl rfl (Q.lss rfl rfl) ?_
  refine XOps.nil ?_
  refine W.cond rfl (fun hc16 => ?_) (fun hc16 => ?_)
  · try simp only [Bool.or_eq_true, Bool.or_eq_false_iff, Bool.and_eq_true, Bool.and_eq_false_iff, decide_eq_true_eq, decide_eq_false_iff_not, Bool.not_eq_true', Bool.not_eq_false', Int.not_lt, Int.not_le, List.length_map] at hc16
    rw [if_pos hc16] at hm
    refine W.region ?_
    refine XOps.s rfl rfl rfl (Q.move_d rfl) ?_
    refine XOps.s rfl rfl rfl (Q.move_d rfl) ?_
    refine XOps.s rfl rfl rfl (Q.add rfl rfl (wi64 (by first | omega | (dsimp only; omega)) (by first | omega | (dsimp only; omega)))) ?_
    refine XOps.s rfl rfl rfl (Q.assign_d rfl) ?_
    refine XOps.nil ?_
    refine W.reg ?_
    refine XOps.s rfl rfl rfl (Q.move_d rfl) ?_
    refine XOps.s rfl rfl rfl (Q.move_d rfl) ?_
    refine XOps.s rfl rfl rfl (Q.add rfl rfl (wi64 (by first | omega | (dsimp only; omega)) (by first | omega | (dsimp only; omega)))) ?_
    refine XOps.s rfl rfl rfl (Q.assign_d rfl) ?_
    refine XOps.nil ?_
    refine W.ret ?_
    refine ⟨_, hs, rfl, by repeat (first | exact HLe.refl _ | refine HLe.cons' (by first | rfl | (simp; done)) ?_ | refine HLe.skip _ ?_), ?_, rfl⟩
    exact int_eq (by unfold cutI; omega)
  · try simp only [Bool.or_eq_true, Bool.or_eq_false_iff, Bool.and_eq_true, Bool.and_eq_false_iff, decide_eq_true_eq, decide_eq_false_iff_not, Bool.not_eq_true', Bool.not_eq_false', Int.not_lt, Int.not_le, List.length_map] at hc16
    rw [if_neg (by omega)] at hm
    refine W.skip ?_
    refine W.reg ?_
    refine XOps.s rfl rfl rfl (Q.move_d rfl) ?_
    refine XOps.s rfl rfl rfl (Q.move_d rfl) ?_
    refine XOps.s rfl rfl rfl (Q.add rfl rfl (wi64 (by first | omega | (dsimp only; omega)) (by first | omega | (dsimp only; omega)))) ?_
    refine XOps.s rfl rfl rfl (Q.assign_d rfl) ?_
    refine XOps.nil ?_
    refine W.ret ?_
    refine ⟨_, hs, rfl, by repeat (first | exact HLe.refl _ | refine HLe.cons' (by first | rfl | (simp; done)) ?_ | refine HLe.skip _ ?_), ?_, rfl⟩
    exact int_eq (by unfold cutI; omega)

set_option maxHeartbeats 1000000 in
set_option maxRecDepth 100000 in
theorem delL_c (m i j : Nat) (rows : List (List D)) (hs : Hp) (hij : i < j) (hj : j ≤ rows.length) (hn : rows.length ≤ 4611686018427387904) : AC P 20 [.vs m 0 rows.length 3, .d (.int .i64 i), .d (.int .i64 j)] ((m, .lst 3 rows) :: hs) (fun r h => r = .vs m 0 (rows.length - (j - i)) 3 ∧ h = (m, .lst 3 (rows.take i ++ rows.drop j)) :: hs) := by
  refine AC.of 33 Try.func20 rfl rfl rfl ?_
  refine W.reg ?_
  refine XOps.s rfl rfl rfl (Q.assign_nilsl rfl) ?_
  refine XOps.nil ?_
  refine W.reg ?_
  refine XOps.s rfl rfl rfl (Q.move_vs rfl) ?_
  refine XOps.s rfl rfl rfl (Q.move_d rfl) ?_
  refine XOps.s rfl rfl rfl (Q.move_d rfl) ?_
  refine XOps.s rfl rfl rfl (Q.move_vs rfl) ?_
  refine XOps.s rfl rfl rfl (Q.len_vs isl36 rfl) ?_
  refine XOps.s rfl rfl rfl (Q.cut3_vs sl36 rfl rfl rfl rfl (by omega) (by omega) (by omega) (by omega)) ?_
  refine XOps.nil ?_
  refine W.seq ?_
  refine W.reg ?_
  refine XOps.s rfl rfl rfl (Q.move_d rfl) ?_
  refine XOps.s rfl rfl rfl (Q.move_d rfl) ?_
  refine XOps.s rfl rfl rfl (Q.eql rfl rfl) ?_
  refine XOps.nil ?_
  refine W.cond rfl (fun hc16 => ?_) (fun hc16 => ?_)
  · try simp only [Bool.or_eq_true, Bool.or_eq_false_iff, Bool.and_eq_true, Bool.and_eq_false_iff, decide_eq_true_eq, decide_eq_false_iff_not, Bool.not_eq_true', Bool.not_eq_false', Int.not_lt, Int.not_le, List.length_map] at hc16
    exact absurd hc16 (by omega)
  · try simp only [Bool.or_eq_true, Bool.or_eq_false_iff, Bool.and_eq_true, Bool.and_eq_false_iff, decide_eq_true_eq, decide_eq_false_iff_not, Bool.not_eq_true', Bool.not_eq_false', Int.not_lt, Int.not_le, List.length_map] at hc16
    refine W.skip ?_
    refine W.reg ?_
    refine XOps.s rfl rfl rfl (Q.move_vs rfl) ?_
    refine XOps.s rfl rfl rfl (Q.len_vs isl36 rfl) ?_
    refine XOps.s rfl rfl rfl (Q.assign_d rfl) ?_
    refine XOps.nil ?_
    refine W.drawTreg 8 [6] follows (by kernel_rfl) (by decide) ?_
    refine DT.more (Rp := fun v h => v = .vs m 0 (i + (rows.length - j)) 3 ∧ h = (m, .lst 3 (rows.take i ++ (rows.drop j).take (rows.length - j) ++ rows.drop (i + (rows.length - j)))) :: hs) [.new, .new, .new, .new, .new, .new, .now, .later] (by kernel_rfl) ?_
    refine PC.new _ rfl (GQ.q rfl (Q.move_vs rfl)) rfl ?_
    refine PC.new _ rfl (GQ.q rfl (Q.move_d rfl)) rfl ?_
    refine PC.new _ rfl (GQ.q rfl (Q.cut_vs sl36 rfl rfl rfl (by omega) (by omega) (by omega))) rfl ?_
    refine PC.new _ rfl (GQ.q rfl (Q.move_vs rfl)) rfl ?_
    refine PC.new _ rfl (GQ.q rfl (Q.move_d rfl)) rfl ?_
    refine PC.new _ rfl (GQ.q rfl (Q.cut_vs sl36 rfl rfl rfl (by omega) (by omega) (by omega))) rfl ?_
    refine PC.now rfl rfl (fun τ => Loud.to (L.app_in (k := 0) ap36 rfl rfl rfl (by simp; omega) (by simp; omega) rfl) (fun _ _ h => ⟨_, h.1, rfl, by simpa using h.2⟩)) ?_
    refine PC.later rfl ?_
    refine PC.nil ?_
    rintro _ _ ⟨rfl, rfl⟩
    refine DT.last [.did, .did, .did, .did, .did, .did, .did, .new] (by kernel_rfl) ?_
    refine PC.did rfl ?_
    refine PC.did rfl ?_
    refine PC.did rfl ?_
    refine PC.did rfl ?_
    refine PC.did rfl ?_
    refine PC.did rfl ?_
    refine PC.did rfl ?_
    refine PC.new _ rfl (GQ.q rfl (Q.assign_vs rfl)) rfl ?_
    refine PC.nil ?_
    refine XOps.nil ?_
    refine W.reg ?_
    refine XOps.s rfl rfl rfl (Q.move_vs rfl) ?_
    refine XOps.s rfl rfl rfl (Q.move_vs rfl) ?_
    refine XOps.s rfl rfl rfl (Q.len_vs isl36 rfl) ?_
    refine XOps.s rfl rfl rfl (Q.move_d rfl) ?_
    refine XOps.s rfl rfl rfl (Q.cut_vs2 (kk := 0) sl36 rfl rfl rfl rfl (by omega) (by omega) (by simp; omega)) ?_
    refine XOps.loud rfl (L.clear (k := 0) sl36 zr36 rfl zrd36 (by decide) rfl rfl (by simp; omega)) ?_
    rintro _ _ ⟨rfl, rfl⟩
    refine XOps.nil ?_
    refine W.front_of 0 (rows.length - (j - i)) rfl ?_
    refine W.reg ?_
    refine XOps.s rfl rfl rfl (Q.move_vs rfl) ?_
    refine XOps.s rfl rfl rfl (Q.assign_vs rfl) ?_
    refine XOps.nil ?_
    refine W.ret ?_
    refine ⟨_, (m, .lst 3 (rows.take i ++ rows.drop j)) :: hs, rfl, HLe.cons' ?_ (HLe.refl _), ?_, rfl⟩
    · congr 1
      rw [List.append_assoc]
      exact (del_rows rows i j _ _ hij hj (by omega) (by omega) _ _).symm
    · show AV.vs _ _ _ _ = _
      congr 1
      omega

theorem delL0_c (rows : List Lv) (m : Nat) (hs : Hp) (h0 : rows.length ≠ 0) (hn : rows.length ≤ 1000) : AC P 20 [.vs m 0 rows.length 3, .d (.int .i64 0), .d (.int .i64 1)] ((m, .lst 3 (rows.map Lv.enc)) :: hs)
    (fun r h => r = .vs m 0 (rows.drop 1).length 3 ∧ h = (m, .lst 3 ((rows.drop 1).map Lv.enc)) :: hs) := by
  have h := delL_c m 0 1 (rows.map Lv.enc) hs (by omega) (by simp; omega) (by simp; omega)
  rw [List.length_map] at h
  exact h.mono fun r h' ⟨h1, h2⟩ => ⟨by rw [h1]; simp, by rw [h2]; simp⟩

set_option maxHeartbeats 1000000 in
set_option maxRecDepth 100000 in
theorem cloneL_c (l : List Lv) (hs : Hp) (hL : l.length * 32 ≤ 140737488355328) : AC P 22 [.d (.sl 3 (l.map Lv.enc))] hs (fun r h => ∃ v, r = .vs v 0 l.length 3 ∧ h = (v, .lst 3 (l.map Lv.enc)) :: hs) := by
  refine AC.of 8 Try.func22 rfl rfl rfl ?_
  refine W.reg ?_
  refine XOps.s rfl rfl rfl (Q.assign_nilsl rfl) ?_
  refine XOps.nil ?_
  refine W.seq ?_
  refine W.reg ?_
  refine XOps.s rfl rfl rfl (Q.move_d rfl) ?_
  (refine XOps.loud rfl (L.eqnil sl36 (by decide) rfl rfl rfl) ?_; rintro _ _ ⟨bb, hbb, rfl, hh⟩; obtain rfl := hh.symm)
  refine XOps.nil ?_
  refine W.cond rfl (fun hc4 => ?_) (fun hc4 => ?_)
  · try simp only [Bool.or_eq_true, Bool.or_eq_false_iff, Bool.and_eq_true, Bool.and_eq_false_iff, decide_eq_true_eq, decide_eq_false_iff_not, Bool.not_eq_true', Bool.not_eq_false', Int.not_lt, Int.not_le, List.length_map] at hc4
    have hle : l = [] := by simpa using hbb hc4
    subst hle
    refine W.reg ?_
    refine XOps.s rfl rfl rfl (Q.assign_nilsl rfl) ?_
    refine XOps.nil ?_
    refine W.ghost 2 3 (by decide) rfl (by decide) (fun v2 => ?_)
    refine W.ret ?_
    exact ⟨_, (v2, .lst 3 []) :: hs, rfl, by repeat (first | exact HLe.refl _ | refine HLe.cons' (by first | rfl | (simp; done)) ?_ | refine HLe.skip _ ?_), v2, rfl, rfl⟩
  · try simp only [Bool.or_eq_true, Bool.or_eq_false_iff, Bool.and_eq_true, Bool.and_eq_false_iff, decide_eq_true_eq, decide_eq_false_iff_not, Bool.not_eq_true', Bool.not_eq_false', Int.not_lt, Int.not_le, List.length_map] at hc4
    refine W.skip ?_
    refine W.reg ?_
    refine XOps.s rfl rfl rfl (Q.bsl0 sl36) ?_
    refine XOps.s rfl rfl rfl (Q.move_d rfl) ?_
    refine XOps.loud rfl (L.app_new ap36 (.inl rfl) (by first | exact .inl rfl | exact .inr (by simp)) rfl (by simp; omega) rfl) ?_
    rintro _ _ ⟨v7, rfl, rfl⟩
    refine XOps.s rfl rfl rfl (Q.assign_vs rfl) ?_
    refine XOps.nil ?_
    refine W.ret ?_
    exact ⟨_, (v7, .lst 3 (l.map Lv.enc)) :: hs, rfl, by repeat (first | exact HLe.refl _ | refine HLe.cons' (by first | rfl | (simp; done)) ?_ | refine HLe.skip _ ?_), v7, by show AV.vs _ _ _ _ = _; congr 1; simp, rfl⟩

set_option maxHeartbeats 1000000 in
set_option maxRecDepth 100000 in
theorem isC_c (c : ByteArray) (x : Lv) (hs : Hp) : AC P 25 [.d (.agg x.enc), .dp [.str c]] hs (fun r h => r = .d (.bool (isC c x)) ∧ h = hs) := by
  refine AC.of 8 Try.func25 rfl rfl rfl ?_
  refine W.reg ?_
  refine XOps.loud rfl (L.boxn rfl rfl) ?_
  rintro _ _ ⟨b2, rfl, rfl⟩
  refine XOps.s rfl rfl rfl (Q.assign_d rfl) ?_
  refine XOps.nil ?_
  refine W.reg ?_
  refine XOps.s rfl rfl rfl (Q.fld_ptr fl39_0 rfl) ?_
  refine XOps.s rfl rfl rfl (Q.ld_ptr (k := 0) ag9 rfl rfl rfl) ?_
  refine XOps.s rfl rfl rfl (Q.ld_dp ag9 rfl rfl) ?_
  refine XOps.s rfl rfl rfl (Q.eql_str rfl rfl) ?_
  refine XOps.s rfl rfl rfl (Q.assign_d rfl) ?_
  refine XOps.nil ?_
  refine W.ret ?_
  refine ⟨_, hs, rfl, by repeat (first | exact HLe.refl _ | refine HLe.cons' (by first | rfl | (simp; done)) ?_ | refine HLe.skip _ ?_), ?_, rfl⟩
  rfl

set_option maxHeartbeats 1000000 in
set_option maxRecDepth 100000 in
theorem index_c {fn : Func} (f : Nat) (caps : List AV) (p : Lv → Bool) (l : List Lv) (hs : Hp) (hL : l.length ≤ 4611686018427387904) (hf : P.funcs[f]? = some fn) (hg : callGo fn = true) (hp : ∀ x ∈ l, AC P f ([AV.d (.agg (Lv.enc x))] ++ caps) hs (fun r h => r = .d (.bool (p x)) ∧ h = hs)) : AC P 24 [.d (.sl 3 (l.map Lv.enc)), .fn f caps] hs (fun r h => r = .d (.int .i64 (idxP p l)) ∧ h = hs) := by
  refine AC.of 19 Try.func24 rfl rfl rfl ?_
  refine W.reg ?_
  refine XOps.s rfl rfl rfl (Q.assign_d rfl) ?_
  refine XOps.nil ?_
  refine W.seq ?_
  refine W.reg ?_
  refine XOps.s rfl rfl rfl (Q.move_d rfl) ?_
  refine XOps.s rfl rfl rfl (Q.len_sl isl36 rfl) ?_
  refine XOps.s rfl rfl rfl (Q.move_d rfl) ?_
  refine XOps.nil ?_
  refine W.block ?_
  refine W.loop (ι := Nat) (fun k => [(0, .d (.sl 3 (l.map Lv.enc))), (1, .fn f caps), (7, .d (.int .i64 l.length)), (8, .d (.int .i64 k))]) (fun k => hs) (fun k => k ≤ l.length ∧ ∀ i x, i < k → l[i]? = some x → p x = false) (fun k => l.length - k) 0 ?_ ?_ ?_ ?_
  · exact ⟨Nat.zero_le _, fun i x h => absurd h (Nat.not_lt_zero _)⟩
  · exact ⟨by first | rfl | exact int_eq (by omega) | exact len_eq (by simp) | exact int_eq (by simp; done), by first | rfl | exact int_eq (by omega) | exact len_eq (by simp) | exact int_eq (by simp; done), by first | rfl | exact int_eq (by omega) | exact len_eq (by simp) | exact int_eq (by simp; done), by first | rfl | exact int_eq (by omega) | exact len_eq (by simp) | exact int_eq (by simp; done), trivial⟩
  · repeat (first | exact HLe.refl _ | refine HLe.cons' (by first | rfl | (simp; done)) ?_ | refine HLe.skip _ ?_)
  · rintro k ⟨hk, hI⟩
    try dsimp only
    refine W.reg ?_
    refine XOps.s rfl rfl rfl (Q.lss rfl rfl) ?_
    refine XOps.nil ?_
    refine W.seq ?_
    refine W.cond rfl (fun hc9 => ?_) (fun hc9 => ?_)
    · try simp only [Bool.or_eq_true, Bool.or_eq_false_iff, Bool.and_eq_true, Bool.and_eq_false_iff, decide_eq_true_eq, decide_eq_false_iff_not, Bool.not_eq_true', Bool.not_eq_false', Int.not_lt, Int.not_le, List.length_map] at hc9
      obtain ⟨x, hx⟩ : ∃ x, l[k]? = some x := ⟨_, List.getElem?_eq_getElem (by omega)⟩
      refine W.skip ?_
      refine W.seq ?_
      refine W.block ?_
      refine W.reg ?_
      refine XOps.s rfl rfl rfl (Q.move_d rfl) ?_
      refine XOps.s rfl rfl rfl (Q.assign_d rfl) ?_
      refine XOps.nil ?_
      refine W.reg ?_
      refine XOps.s rfl rfl rfl (Q.move_fn rfl) ?_
      refine XOps.s rfl rfl rfl (Q.move_d rfl) ?_
      refine XOps.s rfl rfl rfl (Q.move_d rfl) ?_
      refine XOps.s rfl rfl rfl (Q.idx_sl sl36 (by decide) rfl rfl (by omega) (by first | exact map_at (by assumption) | exact map_at0 (by assumption) | assumption)) ?_
      refine XOps.s rfl rfl rfl (Q.ld_dpn ag39 rfl rfl) ?_
      refine XOps.s rfl rfl rfl (Q.call rfl hf hg rfl (hp x (List.mem_of_getElem? hx))) ?_
      refine XOps.nil ?_
      refine W.cond rfl (fun hc16 => ?_) (fun hc16 => ?_)
      · try simp only [Bool.or_eq_true, Bool.or_eq_false_iff, Bool.and_eq_true, Bool.and_eq_false_iff, decide_eq_true_eq, decide_eq_false_iff_not, Bool.not_eq_true', Bool.not_eq_false', Int.not_lt, Int.not_le, List.length_map] at hc16
        have hr := idxP_some hx hc16 hI
        refine W.reg ?_
        refine XOps.s rfl rfl rfl (Q.move_d rfl) ?_
        refine XOps.s rfl rfl rfl (Q.assign_d rfl) ?_
        refine XOps.nil ?_
        refine W.ret ?_
        refine ⟨_, hs, rfl, by repeat (first | exact HLe.refl _ | refine HLe.cons' (by first | rfl | (simp; done)) ?_ | refine HLe.skip _ ?_), ?_, rfl⟩
        rw [hr]; rfl
      · try simp only [Bool.or_eq_true, Bool.or_eq_false_iff, Bool.and_eq_true, Bool.and_eq_false_iff, decide_eq_true_eq, decide_eq_false_iff_not, Bool.not_eq_true', Bool.not_eq_false', Int.not_lt, Int.not_le, List.length_map] at hc16
        refine W.skip ?_
        refine W.region ?_
        refine XOps.s rfl rfl rfl (Q.add rfl rfl (wi64 (by first | omega | (dsimp only; omega)) (by first | omega | (dsimp only; omega)))) ?_
        refine XOps.s rfl rfl rfl (Q.move_d rfl) ?_
        refine XOps.nil ?_
        refine ⟨k + 1, ?_, ?_, ?_, ?_⟩
        · refine ⟨by omega, fun i y h hy => ?_⟩
          rcases Nat.lt_or_ge i k with h2 | h2
          · exact hI i y h2 hy
          · obtain rfl : i = k := by omega
            rw [hx] at hy; obtain rfl := Option.some.inj hy; exact (by simpa using hc16)
        · omega
        · exact ⟨by first | rfl | exact int_eq (by omega) | exact len_eq (by simp) | exact int_eq (by simp; done), by first | rfl | exact int_eq (by omega) | exact len_eq (by simp) | exact int_eq (by simp; done), by first | rfl | exact int_eq (by omega) | exact len_eq (by simp) | exact int_eq (by simp; done), by first | rfl | exact int_eq (by omega) | exact len_eq (by simp) | exact int_eq (by simp; done), trivial⟩
        · repeat (first | exact HLe.refl _ | refine HLe.cons' (by first | rfl | (simp; done)) ?_ | refine HLe.skip _ ?_)
    · try simp only [Bool.or_eq_true, Bool.or_eq_false_iff, Bool.and_eq_true, Bool.and_eq_false_iff, decide_eq_true_eq, decide_eq_false_iff_not, Bool.not_eq_true', Bool.not_eq_false', Int.not_lt, Int.not_le, List.length_map] at hc9
      have hr := idxP_none (p := p) (l := l) fun i x h => hI i x (by have := (List.getElem?_eq_some_iff.1 h).1; omega) h
      refine W.exit ?_
      refine W.reg ?_
      refine XOps.s rfl rfl rfl (Q.assign_d rfl) ?_
      refine XOps.nil ?_
      refine W.ret ?_
      refine ⟨_, hs, rfl, by repeat (first | exact HLe.refl _ | refine HLe.cons' (by first | rfl | (simp; done)) ?_ | refine HLe.skip _ ?_), ?_, rfl⟩
      rw [hr]; rfl

set_option maxHeartbeats 1000000 in
set_option maxRecDepth 100000 in
theorem named_c (s : ByteArray) (hs : Hp) (hL : s.size ≤ 140737488351232) : AC P 17 [.d (.str s)] hs (fun r h => r = .d (.bool (namedS s)) ∧ h = hs) := by
  have hbl := bytes_len s
  refine AC.of 40 Try.func17 rfl rfl rfl ?_
  refine W.reg ?_
  refine XOps.s rfl rfl rfl (Q.assign_d rfl) ?_
  refine XOps.nil ?_
  refine W.seq ?_
  refine W.reg ?_
  refine XOps.s rfl rfl rfl (Q.move_d rfl) ?_
  refine XOps.s rfl rfl rfl (Q.conv_bytes ist9 ibs55 rfl) ?_
  refine XOps.s rfl rfl rfl (Q.len_sl isl55 rfl) ?_
  refine XOps.s rfl rfl rfl (Q.move_d rfl) ?_
  refine XOps.nil ?_
  refine W.block ?_
  refine W.loop (ι := Nat) (fun k => [(0, .d (.str s)), (6, .d (bytesD s)), (7, .d (.int .i64 s.size)), (8, .d (.int .i64 k))]) (fun k => hs) (fun k => k ≤ s.size ∧ ∀ i, i < k → okB i (byteAt s i) = true) (fun k => s.size - k) 0 ?_ ?_ ?_ ?_
  · exact ⟨Nat.zero_le _, fun i hi => absurd hi (Nat.not_lt_zero _)⟩
  · exact ⟨by first | rfl | exact int_eq (by omega) | exact len_eq (by simp) | exact int_eq (by simp; done), by first | rfl | exact int_eq (by omega) | exact len_eq (by simp) | exact int_eq (by simp; done), by exact len_eq (bytes_len s), by first | rfl | exact int_eq (by omega) | exact len_eq (by simp) | exact int_eq (by simp; done), trivial⟩
  · repeat (first | exact HLe.refl _ | refine HLe.cons' (by first | rfl | (simp; done)) ?_ | refine HLe.skip _ ?_)
  · rintro k ⟨hk, hI⟩
    try dsimp only
    refine W.reg ?_
    refine XOps.s rfl rfl rfl (Q.lss rfl rfl) ?_
    refine XOps.nil ?_
    refine W.seq ?_
    refine W.cond rfl (fun hc9 => ?_) (fun hc9 => ?_)
    · try simp only [Bool.or_eq_true, Bool.or_eq_false_iff, Bool.and_eq_true, Bool.and_eq_false_iff, decide_eq_true_eq, decide_eq_false_iff_not, Bool.not_eq_true', Bool.not_eq_false', Int.not_lt, Int.not_le, List.length_map] at hc9
      have hks : k < s.size := by omega
      have hb := okB_iff k (byteAt s k)
      refine W.skip ?_
      refine W.seq ?_
      refine W.block ?_
      refine W.reg ?_
      refine XOps.s rfl rfl rfl (Q.move_d rfl) ?_
      refine XOps.s rfl rfl rfl (Q.idx_sl sl55 (by decide) rfl rfl (by omega) (by exact bytes_row (by omega))) ?_
      refine XOps.s rfl rfl rfl (Q.ld_dp ag5 rfl rfl) ?_
      refine XOps.s rfl rfl rfl (Q.assign_d rfl) ?_
      refine XOps.s rfl rfl rfl (Q.assign_d rfl) ?_
      refine XOps.nil ?_
      refine W.reg ?_
      refine XOps.s rfl rfl rfl (Q.move_d rfl) ?_
      refine XOps.s rfl rfl rfl (Q.geq rfl rfl) ?_
      refine XOps.s rfl rfl rfl (Q.move_d rfl) ?_
      refine XOps.gs rfl rfl rfl rfl rfl rfl rfl (fun hg => Q.move_d rfl) ?_
      refine XOps.gs rfl rfl rfl rfl rfl rfl rfl (fun hg => Quiet.open 16 hg rfl (Q.leq rfl rfl)) ?_
      refine XOps.s rfl rfl rfl (Q.pick_and rfl rfl rfl (fun h => by first | (rw [h]; rfl) | (rw [hg, h]; rfl) | (simp [h, hg]; done))) ?_
      refine XOps.s rfl rfl rfl (Q.move_d rfl) ?_
      refine XOps.gs rfl rfl rfl rfl rfl rfl rfl (fun hg => Q.move_d rfl) ?_
      refine XOps.gs rfl rfl rfl rfl rfl rfl rfl (fun hg => Quiet.open 20 hg rfl (Q.gtr rfl rfl)) ?_
      refine XOps.gs rfl rfl rfl rfl rfl rfl rfl (fun hg => Quiet.open 21 hg rfl (Q.move_d rfl)) ?_
      refine XOps.gsw rfl rfl rfl rfl rfl rfl rfl (fun hg => Q.move_d rfl) ?_
      refine XOps.gsw rfl rfl rfl rfl rfl rfl rfl (fun hg => Quiet.open 23 hg rfl (Q.geq rfl rfl)) ?_
      refine XOps.gs rfl rfl rfl rfl rfl rfl rfl (fun hg => Quiet.open 22 hg rfl (Q.pick_and rfl rfl rfl (fun h => by first | (rw [h]; rfl) | (rw [hg, h]; rfl) | (simp [h, hg]; done)))) ?_
      refine XOps.gs rfl rfl rfl rfl rfl rfl rfl (fun hg => Quiet.open 25 hg rfl (Q.move_d rfl)) ?_
      refine XOps.gsw rfl rfl rfl rfl rfl rfl rfl (fun hg => Q.move_d rfl) ?_
      refine XOps.gsw rfl rfl rfl rfl rfl rfl rfl (fun hg => Quiet.open 27 hg rfl (Q.leq rfl rfl)) ?_
      refine XOps.gs rfl rfl rfl rfl rfl rfl rfl (fun hg => Quiet.open 26 hg rfl (Q.pick_and rfl rfl rfl (fun h => by first | (rw [h]; rfl) | (rw [hg, h]; rfl) | (simp [h, hg]; done)))) ?_
      refine XOps.s rfl rfl rfl (Q.pick_or rfl rfl rfl (fun h => by first | (rw [h]; rfl) | (rw [hg, h]; rfl) | (simp [h, hg]; done))) ?_
      refine XOps.s rfl rfl rfl (Q.not rfl) ?_
      refine XOps.nil ?_
      refine W.cond rfl (fun hc31 => ?_) (fun hc31 => ?_)
      · try simp only [Bool.or_eq_true, Bool.or_eq_false_iff, Bool.and_eq_true, Bool.and_eq_false_iff, decide_eq_true_eq, decide_eq_false_iff_not, Bool.not_eq_true', Bool.not_eq_false', Int.not_lt, Int.not_le, List.length_map] at hc31
        have hr : namedS s = false := named_bad hks (by cases h : okB k (byteAt s k) with | false => rfl | true => exact absurd (hb.1 h) (by unfold byteAt; omega))
        rw [hr]
        refine W.reg ?_
        refine XOps.s rfl rfl rfl (Q.assign_d rfl) ?_
        refine XOps.nil ?_
        refine W.ret ?_
        refine ⟨_, hs, rfl, by repeat (first | exact HLe.refl _ | refine HLe.cons' (by first | rfl | (simp; done)) ?_ | refine HLe.skip _ ?_), ?_, rfl⟩
        rfl
      · try simp only [Bool.or_eq_true, Bool.or_eq_false_iff, Bool.and_eq_true, Bool.and_eq_false_iff, decide_eq_true_eq, decide_eq_false_iff_not, Bool.not_eq_true', Bool.not_eq_false', Int.not_lt, Int.not_le, List.length_map] at hc31
        have hok : okB k (byteAt s k) = true := hb.2 (by unfold byteAt; omega)
        refine W.skip ?_
        refine W.region ?_
        refine XOps.s rfl rfl rfl (Q.add rfl rfl (wi64 (by first | omega | (dsimp only; omega)) (by first | omega | (dsimp only; omega)))) ?_
        refine XOps.s rfl rfl rfl (Q.move_d rfl) ?_
        refine XOps.nil ?_
        refine ⟨k + 1, ?_, ?_, ?_, ?_⟩
        · refine ⟨by omega, fun i hi => ?_⟩
          by_cases h : i = k
          · subst h; exact hok
          · exact hI i (by omega)
        · omega
        · exact ⟨by first | rfl | exact int_eq (by omega) | exact len_eq (by simp) | exact int_eq (by simp; done), by first | rfl | exact int_eq (by omega) | exact len_eq (by simp) | exact int_eq (by simp; done), by first | rfl | exact int_eq (by omega) | exact len_eq (by simp) | exact int_eq (by simp; done), by first | rfl | exact int_eq (by omega) | exact len_eq (by simp) | exact int_eq (by simp; done), trivial⟩
        · repeat (first | exact HLe.refl _ | refine HLe.cons' (by first | rfl | (simp; done)) ?_ | refine HLe.skip _ ?_)
    · try simp only [Bool.or_eq_true, Bool.or_eq_false_iff, Bool.and_eq_true, Bool.and_eq_false_iff, decide_eq_true_eq, decide_eq_false_iff_not, Bool.not_eq_true', Bool.not_eq_false', Int.not_lt, Int.not_le, List.length_map] at hc9
      have hr := named_ok fun i hi => hI i (by omega)
      rw [hr]
      refine W.exit ?_
      refine W.reg ?_
      refine XOps.s rfl rfl rfl (Q.move_d rfl) ?_
      refine XOps.s rfl rfl rfl (Q.neq_str rfl rfl) ?_
      refine XOps.s rfl rfl rfl (Q.move_d rfl) ?_
      refine XOps.gs rfl rfl rfl rfl rfl rfl rfl (fun hg => Q.move_d rfl) ?_
      refine XOps.gs rfl rfl rfl rfl rfl rfl rfl (fun hg => Quiet.open 36 hg rfl (Q.len_str ist9 rfl)) ?_
      refine XOps.gs rfl rfl rfl rfl rfl rfl rfl (fun hg => Quiet.open 37 hg rfl (Q.leq rfl rfl)) ?_
      refine XOps.s rfl rfl rfl (Q.pick_and rfl rfl rfl (fun h => by first | (rw [h]; rfl) | (rw [hg, h]; rfl) | (simp [h, hg]; done))) ?_
      refine XOps.s rfl rfl rfl (Q.assign_d rfl) ?_
      refine XOps.nil ?_
      refine W.ret ?_
      refine ⟨_, hs, rfl, by repeat (first | exact HLe.refl _ | refine HLe.cons' (by first | rfl | (simp; done)) ?_ | refine HLe.skip _ ?_), ?_, rfl⟩
      rfl

set_option maxHeartbeats 1000000 in
set_option maxRecDepth 100000 in
theorem check_c (low high step : Int) (hs : Hp) (h1 : 0 ≤ low ∧ low ≤ high ∧ high ≤ 60000) (h2 : 100 ≤ step ∧ step ≤ 10000) (h3 : (high - low) / step + 1 ≤ 32) : AC P 16 [.d (.agg [.int .i64 low, .int .i64 high, .int .i64 step])] hs (fun r h => r = .d (.int .i64 0) ∧ h = hs) := by
  refine AC.of 39 Try.func16 rfl rfl rfl ?_
  refine W.reg ?_
  refine XOps.loud rfl (L.boxn rfl rfl) ?_
  rintro _ _ ⟨b1, rfl, rfl⟩
  refine XOps.s rfl rfl rfl (Q.assign_d rfl) ?_
  refine XOps.nil ?_
  refine W.seq ?_
  refine W.block ?_
  refine W.reg ?_
  refine XOps.s rfl rfl rfl (Q.fld_ptr fl28_0 rfl) ?_
  refine XOps.s rfl rfl rfl (Q.ld_ptr (k := 0) ag3 rfl rfl rfl) ?_
  refine XOps.s rfl rfl rfl (Q.lss rfl rfl) ?_
  refine XOps.s rfl rfl rfl (Q.move_d rfl) ?_
  refine XOps.gs rfl rfl rfl rfl rfl rfl rfl (fun hg => Q.fld_ptr fl28_1 rfl) ?_
  refine XOps.gs rfl rfl rfl rfl rfl rfl rfl (fun hg => Quiet.open 8 hg rfl (Q.ld_ptr (k := 0) ag3 rfl rfl rfl)) ?_
  refine XOps.gs rfl rfl rfl rfl rfl rfl rfl (fun hg => Quiet.open 9 hg rfl (Q.gtr rfl rfl)) ?_
  refine XOps.s rfl rfl rfl (Q.pick_or rfl rfl rfl (fun h => by first | (rw [h]; rfl) | (rw [hg, h]; rfl) | (simp [h, hg]; done))) ?_
  refine XOps.s rfl rfl rfl (Q.move_d rfl) ?_
  refine XOps.gs rfl rfl rfl rfl rfl rfl rfl (fun hg => Q.fld_ptr fl28_2 rfl) ?_
  refine XOps.gs rfl rfl rfl rfl rfl rfl rfl (fun hg => Quiet.open 13 hg rfl (Q.ld_ptr (k := 0) ag3 rfl rfl rfl)) ?_
  refine XOps.gs rfl rfl rfl rfl rfl rfl rfl (fun hg => Quiet.open 14 hg rfl (Q.lss rfl rfl)) ?_
  refine XOps.s rfl rfl rfl (Q.pick_or rfl rfl rfl (fun h => by first | (rw [h]; rfl) | (rw [hg, h]; rfl) | (simp [h, hg]; done))) ?_
  refine XOps.s rfl rfl rfl (Q.move_d rfl) ?_
  refine XOps.gs rfl rfl rfl rfl rfl rfl rfl (fun hg => Q.fld_ptr fl28_2 rfl) ?_
  refine XOps.gs rfl rfl rfl rfl rfl rfl rfl (fun hg => Quiet.open 18 hg rfl (Q.ld_ptr (k := 0) ag3 rfl rfl rfl)) ?_
  refine XOps.gs rfl rfl rfl rfl rfl rfl rfl (fun hg => Quiet.open 19 hg rfl (Q.gtr rfl rfl)) ?_
  refine XOps.s rfl rfl rfl (Q.pick_or rfl rfl rfl (fun h => by first | (rw [h]; rfl) | (rw [hg, h]; rfl) | (simp [h, hg]; done))) ?_
  refine XOps.s rfl rfl rfl (Q.assign_d rfl) ?_
  refine XOps.nil ?_
  refine W.cond rfl (fun hc3 => ?_) (fun hc3 => ?_)
  · try simp only [Bool.or_eq_true, Bool.or_eq_false_iff, Bool.and_eq_true, Bool.and_eq_false_iff, decide_eq_true_eq, decide_eq_false_iff_not, Bool.not_eq_true', Bool.not_eq_false', Int.not_lt, Int.not_le, List.length_map] at hc3
    exact absurd hc3 (by omega)
  · try simp only [Bool.or_eq_true, Bool.or_eq_false_iff, Bool.and_eq_true, Bool.and_eq_false_iff, decide_eq_true_eq, decide_eq_false_iff_not, Bool.not_eq_true', Bool.not_eq_false', Int.not_lt, Int.not_le, List.length_map] at hc3
    refine W.reg ?_
    refine XOps.s rfl rfl rfl (Q.fld_ptr fl28_0 rfl) ?_
    refine XOps.s rfl rfl rfl (Q.ld_ptr (k := 0) ag3 rfl rfl rfl) ?_
    refine XOps.s rfl rfl rfl (Q.fld_ptr fl28_1 rfl) ?_
    refine XOps.s rfl rfl rfl (Q.ld_ptr (k := 0) ag3 rfl rfl rfl) ?_
    refine XOps.s rfl rfl rfl (Q.gtr rfl rfl) ?_
    refine XOps.s rfl rfl rfl (Q.assign_d rfl) ?_
    refine XOps.nil ?_
    refine W.cond rfl (fun hc22 => ?_) (fun hc22 => ?_)
    · try simp only [Bool.or_eq_true, Bool.or_eq_false_iff, Bool.and_eq_true, Bool.and_eq_false_iff, decide_eq_true_eq, decide_eq_false_iff_not, Bool.not_eq_true', Bool.not_eq_false', Int.not_lt, Int.not_le, List.length_map] at hc22
      exact absurd hc22 (by omega)
    · try simp only [Bool.or_eq_true, Bool.or_eq_false_iff, Bool.and_eq_true, Bool.and_eq_false_iff, decide_eq_true_eq, decide_eq_false_iff_not, Bool.not_eq_true', Bool.not_eq_false', Int.not_lt, Int.not_le, List.length_map] at hc22
      refine W.reg ?_
      refine XOps.s rfl rfl rfl (Q.fld_ptr fl28_1 rfl) ?_
      refine XOps.s rfl rfl rfl (Q.ld_ptr (k := 0) ag3 rfl rfl rfl) ?_
      refine XOps.s rfl rfl rfl (Q.fld_ptr fl28_0 rfl) ?_
      refine XOps.s rfl rfl rfl (Q.ld_ptr (k := 0) ag3 rfl rfl rfl) ?_
      refine XOps.s rfl rfl rfl (Q.sub rfl rfl (wi64 (by first | omega | (dsimp only; omega)) (by first | omega | (dsimp only; omega)))) ?_
      refine XOps.s rfl rfl rfl (Q.fld_ptr fl28_2 rfl) ?_
      refine XOps.s rfl rfl rfl (Q.ld_ptr (k := 0) ag3 rfl rfl rfl) ?_
      refine XOps.s rfl rfl rfl (Q.quo rfl rfl (by omega) (wquo (by omega) (by omega) (by omega))) ?_
      refine XOps.s rfl rfl rfl (Q.add rfl rfl (wi64 (by have := Int.ediv_nonneg (show 0 ≤ high - low by omega) (show 0 ≤ step by omega); omega) (by omega))) ?_
      refine XOps.s rfl rfl rfl (Q.gtr rfl rfl) ?_
      refine XOps.s rfl rfl rfl (Q.assign_d rfl) ?_
      refine XOps.nil ?_
      refine W.cond rfl (fun hc28 => ?_) (fun hc28 => ?_)
      · try simp only [Bool.or_eq_true, Bool.or_eq_false_iff, Bool.and_eq_true, Bool.and_eq_false_iff, decide_eq_true_eq, decide_eq_false_iff_not, Bool.not_eq_true', Bool.not_eq_false', Int.not_lt, Int.not_le, List.length_map] at hc28
        exact absurd hc28 (by omega)
      · try simp only [Bool.or_eq_true, Bool.or_eq_false_iff, Bool.and_eq_true, Bool.and_eq_false_iff, decide_eq_true_eq, decide_eq_false_iff_not, Bool.not_eq_true', Bool.not_eq_false', Int.not_lt, Int.not_le, List.length_map] at hc28
        refine W.skip ?_
        refine W.reg ?_
        refine XOps.s rfl rfl rfl (Q.assign_d rfl) ?_
        refine XOps.nil ?_
        refine W.ret ?_
        refine ⟨_, hs, rfl, by repeat (first | exact HLe.refl _ | refine HLe.cons' (by first | rfl | (simp; done)) ?_ | refine HLe.skip _ ?_), ?_, rfl⟩
        rfl

set_option maxHeartbeats 1000000 in
set_option maxRecDepth 100000 in
theorem new_c (low high step : Int) (hs : Hp) (h1 : 0 ≤ low ∧ low ≤ high ∧ high ≤ 60000) (h2 : 100 ≤ step ∧ step ≤ 10000) (h3 : (high - low) / step + 1 ≤ 32) : AC P 8 [.d (.agg [.int .i64 low, .int .i64 high, .int .i64 step])] hs (fun r h => ∃ b id, r = .tup [.ptr b 0, .d (.int .i64 0)] ∧ h = stH b ⟨low, high, step, [], 0⟩ id hs) := by
  refine AC.of 13 Try.func8 rfl rfl rfl ?_
  refine W.reg ?_
  refine XOps.loud rfl (L.boxn rfl rfl) ?_
  rintro _ _ ⟨b1, rfl, rfl⟩
  refine XOps.s rfl rfl rfl (Q.assign_d rfl) ?_
  refine XOps.s rfl rfl rfl (Q.assign_d rfl) ?_
  refine XOps.nil ?_
  refine W.seq ?_
  refine W.reg ?_
  refine XOps.s rfl rfl rfl (Q.ld_ptrn (k := 0) ag28 rfl rfl rfl) ?_
  refine XOps.s rfl rfl rfl (Q.call rfl Try.func16 go16 rfl (check_c low high step _ h1 h2 h3)) ?_
  refine XOps.s rfl rfl rfl (Q.assign_d rfl) ?_
  refine XOps.nil ?_
  refine W.reg ?_
  refine XOps.s rfl rfl rfl (Q.move_d rfl) ?_
  refine XOps.s rfl rfl rfl (Q.neq rfl rfl) ?_
  refine XOps.nil ?_
  refine W.cond rfl (fun hc8 => ?_) (fun hc8 => ?_)
  · try simp only [Bool.or_eq_true, Bool.or_eq_false_iff, Bool.and_eq_true, Bool.and_eq_false_iff, decide_eq_true_eq, decide_eq_false_iff_not, Bool.not_eq_true', Bool.not_eq_false', Int.not_lt, Int.not_le, List.length_map] at hc8
    exact absurd hc8 (by simp)
  · try simp only [Bool.or_eq_true, Bool.or_eq_false_iff, Bool.and_eq_true, Bool.and_eq_false_iff, decide_eq_true_eq, decide_eq_false_iff_not, Bool.not_eq_true', Bool.not_eq_false', Int.not_lt, Int.not_le, List.length_map] at hc8
    refine W.skip ?_
    refine W.reg ?_
    refine XOps.s rfl rfl rfl (Q.ld_ptrn (k := 0) ag28 rfl rfl rfl) ?_
    refine XOps.s rfl rfl rfl (Q.buildS pl46 tz46 rfl rfl) ?_
    (refine XOps.loud rfl (L.boxv rfl rfl) ?_; rintro _ _ ⟨b12, rfl, rfl⟩)
    refine XOps.s rfl rfl rfl (Q.assign_ptr rfl) ?_
    refine XOps.s rfl rfl rfl (Q.assign_d rfl) ?_
    refine XOps.nil ?_
    refine W.ghostc 0 3 3 (by decide) rfl rfl (fun v => ?_)
    refine W.ret ?_
    exact ⟨_, stH b12 ⟨low, high, step, [], 0⟩ v hs, rfl, HLe.trans (HLe.perm (List.Perm.swap _ _ _)) (HLe.cons _ (HLe.cons _ (HLe.skip _ (HLe.refl _)))), b12, v, rfl, rfl⟩

set_option maxHeartbeats 1000000 in
set_option maxRecDepth 100000 in
theorem at_c (b id : Nat) (s : HSt) (t : Int) (hs : Hp) : AC P 19 [.ptr b 0, .d (.int .i64 t)] (stH b s id hs) (fun r h => r = .d (.bool (s.atS t)) ∧ h = stH b s id hs) := by
  refine AC.of 15 Try.func19 rfl rfl rfl ?_
  refine W.reg ?_
  refine XOps.s rfl rfl rfl (Q.assign_d rfl) ?_
  refine XOps.nil ?_
  refine W.reg ?_
  refine XOps.s rfl rfl rfl (Q.move_d rfl) ?_
  refine XOps.s rfl rfl rfl (Q.move_ptr rfl) ?_
  refine XOps.s rfl rfl rfl (Q.nil_ptr rfl) ?_
  refine XOps.s rfl rfl rfl (Q.fld_ptr fl46_2 rfl) ?_
  refine XOps.s rfl rfl rfl (Q.ld_ptr (k := 0) ag3 rfl rfl rfl) ?_
  refine XOps.s rfl rfl rfl (Q.geq rfl rfl) ?_
  refine XOps.s rfl rfl rfl (Q.move_d rfl) ?_
  refine XOps.gs rfl rfl rfl rfl rfl rfl rfl (fun hg => Q.move_d rfl) ?_
  refine XOps.gs rfl rfl rfl rfl rfl rfl rfl (fun hg => Quiet.open 12 hg rfl (Q.leq rfl rfl)) ?_
  refine XOps.s rfl rfl rfl (Q.pick_and rfl rfl rfl (fun h => by first | (rw [h]; rfl) | (rw [hg, h]; rfl) | (simp [h, hg]; done))) ?_
  refine XOps.s rfl rfl rfl (Q.assign_d rfl) ?_
  refine XOps.nil ?_
  refine W.ret ?_
  exact ⟨_, stH b s id hs, rfl, HLe.refl _, rfl, rfl⟩

set_option maxHeartbeats 1000000 in
set_option maxRecDepth 100000 in
theorem find_c (b id : Nat) (s : HSt) (c : ByteArray) (hs : Hp) (hl : s.l.length ≤ 1000) : AC P 18 [.ptr b 0, .d (.str c)] (stH b s id hs) (fun r h => r = .d (.int .i64 (findS s.l c)) ∧ h = stH b s id hs) := by
  refine AC.of 11 Try.func18 rfl rfl rfl ?_
  refine W.reg ?_
  refine XOps.loud rfl (L.box rfl rfl rfl) ?_
  rintro _ _ ⟨b3, rfl, rfl⟩
  refine XOps.s rfl rfl rfl (Q.assign_d rfl) ?_
  refine XOps.nil ?_
  refine W.reg ?_
  refine XOps.s rfl rfl rfl (Q.move_ptr rfl) ?_
  refine XOps.s rfl rfl rfl (Q.nil_ptr rfl) ?_
  refine XOps.s rfl rfl rfl (Q.fld_ptr fl46_1 rfl) ?_
  refine XOps.s rfl rfl rfl (Q.ld_ptr (k := 1) ag36 rfl rfl rfl) ?_
  refine XOps.s rfl rfl rfl (Q.mkfn rfl) ?_
  refine XOps.s rfl rfl rfl (Q.bcall rfl Try.func24 go24 rfl (.cons (.b1 (.b0 (.vs 2 rfl (by simp)))) (.cons (.fn (.cons (.ptr 0 rfl (.cons (.d _) rfl (.nil _))) .nil)) .nil)) (index_c 25 [.dp [.str c]] (isC c) s.l [] (by omega) Try.func25 go25 (fun x _ => isC_c c x [])) (by simp [OkR, Ok1, D.flat])) ?_
  refine XOps.s rfl rfl rfl (Q.assign_d rfl) ?_
  refine XOps.nil ?_
  refine W.ret ?_
  exact ⟨_, stH b s id hs, rfl, HLe.skip _ (HLe.refl _), rfl, rfl⟩

set_option maxHeartbeats 1000000 in
set_option maxRecDepth 100000 in
theorem list_c (b id : Nat) (s : HSt) (hs : Hp) (hl : s.l.length ≤ 1000) : AC P 12 [.ptr b 0] (stH b s id hs) (fun r h => ∃ v, r = .vs v 0 s.l.length 3 ∧ h = (v, .lst 3 (s.l.map Lv.enc)) :: stH b s id hs) := by
  refine AC.of 8 Try.func12 rfl rfl rfl ?_
  refine W.reg ?_
  refine XOps.s rfl rfl rfl (Q.assign_nilsl rfl) ?_
  refine XOps.nil ?_
  refine W.reg ?_
  refine XOps.s rfl rfl rfl (Q.move_ptr rfl) ?_
  refine XOps.s rfl rfl rfl (Q.nil_ptr rfl) ?_
  refine XOps.s rfl rfl rfl (Q.fld_ptr fl46_1 rfl) ?_
  refine XOps.s rfl rfl rfl (Q.ld_ptr (k := 0) ag36 rfl rfl rfl) ?_
  (refine XOps.loud rfl (L.bcall rfl Try.func22 go22 rfl (.cons (.b1 (.b0 (.vs 1 rfl (by simp)))) .nil) (cloneL_c s.l [] (by omega)) (fun r h ⟨v, h1, h2⟩ => by subst h1; subst h2; exact ⟨by simp [OkR, Ok1], by simp [OkH, Lv.enc, D.flat]⟩) rfl) ?_; rintro _ _ ⟨_, _, rfl, ⟨v, rfl, rfl⟩, rfl⟩)
  refine XOps.s rfl rfl rfl (Q.assign_vs rfl) ?_
  refine XOps.nil ?_
  refine W.ret ?_
  exact ⟨_, (v, .lst 3 (s.l.map Lv.enc)) :: stH b s id hs, rfl, HLe.refl _, v, rfl, rfl⟩
end Go.Proofs.YtpdeopgmgeaglaaA
