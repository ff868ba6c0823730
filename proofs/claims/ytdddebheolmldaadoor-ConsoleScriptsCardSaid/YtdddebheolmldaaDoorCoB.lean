/- Package console: Print, number, Parse. -/
import Derived.Test.YtdddebheolmldaaDoorFrB
import Derived.Test.YtdddebheolmldaaDoorCoA
set_option linter.unusedVariables false
set_option linter.unusedSimpArgs false
set_option linter.unnecessarySimpa false
namespace Go.Proofs.YtdddebheolmldaaDoorA.FCoB
open Go
theorem ag23 : tAgg P 23 = some ((true, 4)) := by kernel_rfl
theorem ag3 : tAgg P 3 = some ((false, 1)) := by kernel_rfl
theorem ag39 : tAgg P 39 = some ((true, 5)) := by kernel_rfl
theorem ag4 : tAgg P 4 = some ((false, 1)) := by kernel_rfl
theorem ag9 : tAgg P 9 = some ((false, 1)) := by kernel_rfl
theorem eqt23 : tEq P 23 = some ([.str, .str, .int .i64, .str]) := by kernel_rfl
theorem fl23_0 : tFld P 23 0 = some (0) := by kernel_rfl
theorem fl23_1 : tFld P 23 1 = some (1) := by kernel_rfl
theorem fl23_2 : tFld P 23 2 = some (2) := by kernel_rfl
theorem fl23_3 : tFld P 23 3 = some (3) := by kernel_rfl
theorem fl39_0 : tFld P 39 0 = some (0) := by kernel_rfl
theorem fl39_1 : tFld P 39 1 = some (1) := by kernel_rfl
theorem fl39_2 : tFld P 39 2 = some (2) := by kernel_rfl
theorem go10 : callGo Go.Proofs.Tryd.f10 = true := by kernel_rfl
theorem go11 : callGo Go.Proofs.Tryd.f11 = true := by kernel_rfl
theorem go12 : callGo Go.Proofs.Tryd.f12 = true := by kernel_rfl
theorem go13 : callGo Go.Proofs.Tryd.f13 = true := by kernel_rfl
theorem go20 : callGo Go.Proofs.Tryd.f20 = true := by kernel_rfl
theorem go21 : callGo Go.Proofs.Tryd.f21 = true := by kernel_rfl
theorem go6 : callGo Go.Proofs.Tryd.f6 = true := by kernel_rfl
theorem go8 : callGo Go.Proofs.Tryd.f8 = true := by kernel_rfl
theorem isl35 : isSl P 35 = true := by kernel_rfl
theorem ist9 : isStr P 9 = true := by kernel_rfl
theorem pl23 : tPl P 23 = some ([(0, 1), (1, 1), (2, 1), (3, 1)]) := by kernel_rfl
theorem sl35 : tSl P 35 = some (1) := by kernel_rfl
theorem tz23 : tZero P 23 = some ([.string ⟨#[]⟩, .string ⟨#[]⟩, .int .i64 0, .string ⟨#[]⟩]) := by kernel_rfl
theorem tz39 : tZero P 39 = some ([.string ⟨#[]⟩, .bool false, .bool false, .int .i64 0, .int .i64 0]) := by kernel_rfl
theorem tzd23 : cellsD [.string ⟨#[]⟩, .string ⟨#[]⟩, .int .i64 0, .string ⟨#[]⟩] = some ([.str ⟨#[]⟩, .str ⟨#[]⟩, .int .i64 0, .str ⟨#[]⟩]) := rfl
end Go.Proofs.YtdddebheolmldaaDoorA.FCoB
namespace Go.Proofs.YtdddebheolmldaaDoorA
open Go FCoB
attribute [local irreducible] XOps Quiet Loud W AC GQ DT
set_option maxHeartbeats 4000000 in
set_option maxRecDepth 100000 in
theorem print_c (c : CC) (gd : Nat) (hs : Hp) (h1 : c.call.size ≤ 140737488351232) (h2 : c.fix.size ≤ 140737488351232) : AC P 5 [.d (.agg c.enc)] ((gd, p10G) :: hs) (fun r h => r = .tup [.d (.str (prS c)), .d (.int .i64 (ckC c))] ∧ h = (gd, p10G) :: hs) := by
  have hsp : ByteArray.size ⟨#[32]⟩ = 1 := rfl
  refine AC.of 43 Tryd.func5 rfl rfl rfl ?_
  refine W.reg ?_
  refine XOps.loud rfl (L.boxn rfl rfl) ?_
  rintro _ _ ⟨b1, rfl, rfl⟩
  refine XOps.s rfl rfl rfl (Q.assign_d rfl) ?_
  refine XOps.s rfl rfl rfl (Q.assign_d rfl) ?_
  refine XOps.nil ?_
  refine W.seq ?_
  refine W.reg ?_
  refine XOps.s rfl rfl rfl (Q.ld_ptrn (k := 0) ag23 rfl rfl rfl) ?_
  refine XOps.s rfl rfl rfl (Q.call rfl Tryd.func8 go8 rfl (check_c c _ h1 h2)) ?_
  refine XOps.s rfl rfl rfl (Q.assign_d rfl) ?_
  refine XOps.nil ?_
  refine W.reg ?_
  refine XOps.s rfl rfl rfl (Q.move_d rfl) ?_
  refine XOps.s rfl rfl rfl (Q.neq rfl rfl) ?_
  refine XOps.nil ?_
  refine W.cond rfl (fun hc11 => ?_) (fun hc11 => ?_)
  · try simp only [Bool.or_eq_true, Bool.or_eq_false_iff, Bool.and_eq_true, Bool.and_eq_false_iff, decide_eq_true_eq, decide_eq_false_iff_not, Bool.not_eq_true', Bool.not_eq_false', Int.not_lt, Int.not_le, List.length_map] at hc11
    have h11 : ckC c ≠ 0 := by first | exact hc11 | (simpa using hc11)
    have hP : prS c = ⟨#[]⟩ := if_pos h11
    rw [hP]
    refine W.reg ?_
    refine XOps.s rfl rfl rfl (Q.move_d rfl) ?_
    refine XOps.s rfl rfl rfl (Q.assign_d rfl) ?_
    refine XOps.s rfl rfl rfl (Q.assign_d rfl) ?_
    refine XOps.nil ?_
    refine W.ret ?_
    exact ⟨_, (gd, p10G) :: hs, rfl, HLe.skip _ (HLe.refl _), rfl, rfl⟩
  · try simp only [Bool.or_eq_true, Bool.or_eq_false_iff, Bool.and_eq_true, Bool.and_eq_false_iff, decide_eq_true_eq, decide_eq_false_iff_not, Bool.not_eq_true', Bool.not_eq_false', Int.not_lt, Int.not_le, List.length_map] at hc11
    have h11 : ckC c = 0 := by first | exact hc11 | (simpa using hc11)
    obtain ⟨q1, q2, q3, q4, q5, q6, q7⟩ := ck_zero.1 h11
    obtain ⟨hm, hn⟩ := find_spec q1
    obtain ⟨f1, f2, f3, f4, f5⟩ := verb_facts _ hm
    rw [hn] at f2
    have hcl := named_size q2
    have hP : prS c = prT c := if_neg (by omega)
    rw [hP, h11]
    refine W.skip ?_
    refine W.reg ?_
    refine XOps.s rfl rfl rfl (Q.fld_ptr fl23_0 rfl) ?_
    refine XOps.s rfl rfl rfl (Q.ld_ptr (k := 0) ag9 rfl rfl rfl) ?_
    refine XOps.s rfl rfl rfl (Q.adds rfl rfl (by first | omega | (simp only [ByteArray.size_append]; omega))) ?_
    refine XOps.s rfl rfl rfl (Q.fld_ptr fl23_1 rfl) ?_
    refine XOps.s rfl rfl rfl (Q.ld_ptr (k := 0) ag9 rfl rfl rfl) ?_
    refine XOps.s rfl rfl rfl (Q.adds rfl rfl (by first | omega | (simp only [ByteArray.size_append]; omega))) ?_
    refine XOps.s rfl rfl rfl (Q.assign_d rfl) ?_
    refine XOps.nil ?_
    refine W.seq ?_
    refine W.reg ?_
    refine XOps.s rfl rfl rfl (Q.fld_ptr fl23_0 rfl) ?_
    refine XOps.s rfl rfl rfl (Q.ld_ptr (k := 0) ag9 rfl rfl rfl) ?_
    refine XOps.s rfl rfl rfl (Q.call rfl Tryd.func11 go11 rfl (find_c c.verb _)) ?_
    refine XOps.s rfl rfl rfl (Q.move_tup rfl) ?_
    refine XOps.s rfl rfl rfl (Q.extract rfl rfl) ?_
    refine XOps.s rfl rfl rfl (Q.extract rfl rfl) ?_
    (refine XOps.loud rfl (L.alloc tz39 rfl rfl) ?_; rintro _ _ ⟨b6, rfl, rfl⟩)
    refine XOps.loud rfl (L.storen (k := 0) ag39 rfl rfl rfl rfl rfl) ?_
    rintro _ _ ⟨rfl, rfl⟩
    refine XOps.s rfl rfl rfl (Q.assign_d rfl) ?_
    refine XOps.nil ?_
    refine W.block ?_
    refine W.reg ?_
    refine XOps.s rfl rfl rfl (Q.fld_ptr fl39_1 rfl) ?_
    refine XOps.s rfl rfl rfl (Q.ld_ptr (k := 0) ag4 rfl rfl rfl) ?_
    refine XOps.s rfl rfl rfl (Q.assign_d rfl) ?_
    refine XOps.nil ?_
    refine W.cond rfl (fun hc25 => ?_) (fun hc25 => ?_)
    · try simp only [Bool.or_eq_true, Bool.or_eq_false_iff, Bool.and_eq_true, Bool.and_eq_false_iff, decide_eq_true_eq, decide_eq_false_iff_not, Bool.not_eq_true', Bool.not_eq_false', Int.not_lt, Int.not_le, List.length_map] at hc25
      have hT : prT c = pr2 c ++ (spB ++ bs (Lib.itoa c.n)) := if_pos hc25
      have hiz : (bs (Lib.itoa c.n)).size ≤ 6 := by rw [itoa_pos q6, bs_size]; exact decL_len _ 5 (by omega)
      rw [hT]
      refine W.region ?_
      refine XOps.s rfl rfl rfl (Q.move_d rfl) ?_
      refine XOps.s rfl rfl rfl (Q.fld_ptr fl23_2 rfl) ?_
      refine XOps.s rfl rfl rfl (Q.ld_ptr (k := 1) ag3 rfl rfl rfl) ?_
      (refine XOps.loud rfl (L.call rfl Tryd.func12 go12 rfl (AC.le (itoas_c c.n gd ((b6, .cells ((findV c.verb).enc.map .d)) :: (b1, .cells (c.enc.map .d)) :: hs) (by omega) (by omega)) (HLe.pick 2 rfl rfl (HLe.refl _))) rfl) ?_; rintro _ _ ⟨_, rfl, rfl, rfl⟩)
      refine XOps.s rfl rfl rfl (Q.adds rfl rfl (by first | omega | (simp only [ByteArray.size_append]; omega))) ?_
      refine XOps.s rfl rfl rfl (Q.adds rfl rfl (by first | omega | (simp only [ByteArray.size_append]; omega))) ?_
      refine XOps.s rfl rfl rfl (Q.assign_d rfl) ?_
      refine XOps.nil ?_
      refine W.reg ?_
      refine XOps.s rfl rfl rfl (Q.move_d rfl) ?_
      refine XOps.s rfl rfl rfl (Q.assign_d rfl) ?_
      refine XOps.s rfl rfl rfl (Q.assign_d rfl) ?_
      refine XOps.nil ?_
      refine W.ret ?_
      exact ⟨_, (gd, p10G) :: hs, rfl, HLe.pick 0 rfl rfl (HLe.skip _ (HLe.skip _ (HLe.refl _))), rfl, rfl⟩
    · try simp only [Bool.or_eq_true, Bool.or_eq_false_iff, Bool.and_eq_true, Bool.and_eq_false_iff, decide_eq_true_eq, decide_eq_false_iff_not, Bool.not_eq_true', Bool.not_eq_false', Int.not_lt, Int.not_le, List.length_map] at hc25
      refine W.reg ?_
      refine XOps.s rfl rfl rfl (Q.fld_ptr fl39_2 rfl) ?_
      refine XOps.s rfl rfl rfl (Q.ld_ptr (k := 0) ag4 rfl rfl rfl) ?_
      refine XOps.s rfl rfl rfl (Q.assign_d rfl) ?_
      refine XOps.nil ?_
      refine W.cond rfl (fun hc34 => ?_) (fun hc34 => ?_)
      · try simp only [Bool.or_eq_true, Bool.or_eq_false_iff, Bool.and_eq_true, Bool.and_eq_false_iff, decide_eq_true_eq, decide_eq_false_iff_not, Bool.not_eq_true', Bool.not_eq_false', Int.not_lt, Int.not_le, List.length_map] at hc34
        have hT : prT c = pr2 c ++ (spB ++ c.fix) := by unfold prT; rw [if_neg (by simp [hc25]), if_pos hc34]
        have hfz := named_size (q3 hc34)
        rw [hT]
        refine W.region ?_
        refine XOps.s rfl rfl rfl (Q.move_d rfl) ?_
        refine XOps.s rfl rfl rfl (Q.fld_ptr fl23_3 rfl) ?_
        refine XOps.s rfl rfl rfl (Q.ld_ptr (k := 1) ag9 rfl rfl rfl) ?_
        refine XOps.s rfl rfl rfl (Q.adds rfl rfl (by first | omega | (simp only [ByteArray.size_append]; omega))) ?_
        refine XOps.s rfl rfl rfl (Q.adds rfl rfl (by first | omega | (simp only [ByteArray.size_append]; omega))) ?_
        refine XOps.s rfl rfl rfl (Q.assign_d rfl) ?_
        refine XOps.nil ?_
        refine W.reg ?_
        refine XOps.s rfl rfl rfl (Q.move_d rfl) ?_
        refine XOps.s rfl rfl rfl (Q.assign_d rfl) ?_
        refine XOps.s rfl rfl rfl (Q.assign_d rfl) ?_
        refine XOps.nil ?_
        refine W.ret ?_
        exact ⟨_, (gd, p10G) :: hs, rfl, HLe.pick 2 rfl rfl (HLe.skip _ (HLe.skip _ (HLe.refl _))), rfl, rfl⟩
      · try simp only [Bool.or_eq_true, Bool.or_eq_false_iff, Bool.and_eq_true, Bool.and_eq_false_iff, decide_eq_true_eq, decide_eq_false_iff_not, Bool.not_eq_true', Bool.not_eq_false', Int.not_lt, Int.not_le, List.length_map] at hc34
        have hT : prT c = pr2 c := by unfold prT; rw [if_neg (by simp [hc25]), if_neg (by simp [hc34])]
        rw [hT]
        refine W.skip ?_
        refine W.reg ?_
        refine XOps.s rfl rfl rfl (Q.move_d rfl) ?_
        refine XOps.s rfl rfl rfl (Q.assign_d rfl) ?_
        refine XOps.s rfl rfl rfl (Q.assign_d rfl) ?_
        refine XOps.nil ?_
        refine W.ret ?_
        exact ⟨_, (gd, p10G) :: hs, rfl, HLe.pick 2 rfl rfl (HLe.skip _ (HLe.skip _ (HLe.refl _))), rfl, rfl⟩

set_option maxHeartbeats 4000000 in
set_option maxRecDepth 100000 in
theorem nu_c (s : ByteArray) (hs : Hp) (h1 : s.size ≤ 2000000) : AC P 13 [.d (.str s)] hs (fun r h => r = .tup [.d (.int .i64 (nuN s)), .d (.bool (nuB s))] ∧ h = hs) := by
  refine AC.of 34 Tryd.func13 rfl rfl rfl ?_
  refine W.reg ?_
  refine XOps.s rfl rfl rfl (Q.assign_d rfl) ?_
  refine XOps.s rfl rfl rfl (Q.assign_d rfl) ?_
  refine XOps.nil ?_
  refine W.seq ?_
  refine W.reg ?_
  refine XOps.s rfl rfl rfl (Q.move_d rfl) ?_
  refine XOps.s rfl rfl rfl (Q.eql_str rfl rfl) ?_
  refine XOps.s rfl rfl rfl (Q.move_d rfl) ?_
  refine XOps.gs rfl rfl rfl rfl rfl rfl rfl (fun hg => Q.move_d rfl) ?_
  refine XOps.gs rfl rfl rfl rfl rfl rfl rfl (fun hg => Quiet.open 9 hg rfl (Q.len_str ist9 rfl)) ?_
  refine XOps.gs rfl rfl rfl rfl rfl rfl rfl (fun hg => Quiet.open 10 hg rfl (Q.gtr rfl rfl)) ?_
  refine XOps.s rfl rfl rfl (Q.pick_or rfl rfl rfl (fun h => by first | (rw [h]; rfl) | (rw [hg, h]; rfl) | (simp [h, hg]; done))) ?_
  refine XOps.s rfl rfl rfl (Q.move_d rfl) ?_
  refine XOps.gs rfl rfl rfl rfl rfl rfl rfl (fun hg => Q.move_d rfl) ?_
  refine XOps.gs rfl rfl rfl rfl rfl rfl rfl (fun hg => Quiet.open 14 hg rfl (Q.len_str ist9 rfl)) ?_
  refine XOps.gs rfl rfl rfl rfl rfl rfl rfl (fun hg => Quiet.open 15 hg rfl (Q.gtr rfl rfl)) ?_
  refine XOps.gs rfl rfl rfl rfl rfl rfl rfl (fun hg => Quiet.open 16 hg rfl (Q.move_d rfl)) ?_
  refine XOps.gsw rfl rfl rfl rfl rfl rfl rfl (fun hg => Q.move_d rfl) ?_
  refine XOps.gsw rfl rfl rfl rfl rfl rfl rfl (fun hg => Quiet.open 18 hg rfl (Q.idx_str ist9 rfl rfl (by first | omega | (simp at hg; omega)) (by first | omega | (simp at hg; omega)))) ?_
  refine XOps.gsw rfl rfl rfl rfl rfl rfl rfl (fun hg => Quiet.open 19 hg rfl (Q.eql rfl rfl)) ?_
  refine XOps.gs rfl rfl rfl rfl rfl rfl rfl (fun hg => Quiet.open 17 hg rfl (Q.pick_and rfl rfl rfl (fun h => by first | (rw [h]; rfl) | (rw [hg, h]; rfl) | (simp [h, hg]; done)))) ?_
  refine XOps.s rfl rfl rfl (Q.pick_or rfl rfl rfl (fun h => by first | (rw [h]; rfl) | (rw [hg, h]; rfl) | (simp [h, hg]; done))) ?_
  refine XOps.s rfl rfl rfl (Q.move_d rfl) ?_
  refine XOps.gs rfl rfl rfl rfl rfl rfl rfl (fun hg => Q.move_d rfl) ?_
  refine XOps.gs rfl rfl rfl rfl rfl rfl rfl (fun hg => Quiet.open 24 hg rfl (Q.call rfl Tryd.func20 go20 rfl (trim_c (f := 20) rfl (by kernel_rfl) s (by omega) _))) ?_
  refine XOps.gs rfl rfl rfl rfl rfl rfl rfl (fun hg => Quiet.open 25 hg rfl (Q.neq_str rfl rfl)) ?_
  refine XOps.s rfl rfl rfl (Q.pick_or rfl rfl rfl (fun h => by first | (rw [h]; rfl) | (rw [hg, h]; rfl) | (simp [h, hg]; done))) ?_
  refine XOps.nil ?_
  refine W.cond rfl (fun hc27 => ?_) (fun hc27 => ?_)
  · skip
    have hB : nuB s = false := by rw [nu_bool, hc27]; rfl
    have hN : nuN s = 0 := if_neg (by simp [hB])
    rw [hB, hN]
    refine W.reg ?_
    refine XOps.s rfl rfl rfl (Q.assign_d rfl) ?_
    refine XOps.s rfl rfl rfl (Q.assign_d rfl) ?_
    refine XOps.nil ?_
    refine W.ret ?_
    exact ⟨_, hs, rfl, HLe.refl _, rfl, rfl⟩
  · skip
    have hB : nuB s = true := by rw [nu_bool, hc27]; rfl
    rw [hB]
    refine W.skip ?_
    refine W.reg ?_
    refine XOps.s rfl rfl rfl (Q.move_d rfl) ?_
    refine XOps.s rfl rfl rfl (Q.call rfl Tryd.func21 go21 rfl (atoi_nu (f := 21) rfl s hB _)) ?_
    refine XOps.s rfl rfl rfl (Q.move_tup rfl) ?_
    refine XOps.s rfl rfl rfl (Q.extract rfl rfl) ?_
    refine XOps.s rfl rfl rfl (Q.extract rfl rfl) ?_
    refine XOps.s rfl rfl rfl (Q.assign_d rfl) ?_
    refine XOps.s rfl rfl rfl (Q.assign_d rfl) ?_
    refine XOps.nil ?_
    refine W.reg ?_
    refine XOps.s rfl rfl rfl (Q.move_d rfl) ?_
    refine XOps.s rfl rfl rfl (Q.assign_d rfl) ?_
    refine XOps.s rfl rfl rfl (Q.assign_d rfl) ?_
    refine XOps.nil ?_
    refine W.ret ?_
    exact ⟨_, hs, rfl, HLe.refl _, rfl, rfl⟩

set_option maxHeartbeats 8000000 in
set_option maxRecDepth 100000 in
theorem parse_c (s : ByteArray) (hs : Hp) (hL : s.size ≤ 2000000) : AC P 6 [.d (.str s)] hs (fun r h => r = .tup [.d (.agg (paV s).enc), .d (.int .i64 (paE s))] ∧ h = hs) := by
  have p0 : ((splS 32 s).map sE)[0]? = some (sE (pa s 0)) := by rw [List.getElem?_map]; show ((paF s)[0]?).map sE = _; rw [paF_at (by have := paF_ne s; omega)]; rfl
  have z1 := size_pa s 1
  have z2 := size_pa s 2
  have hez : (⟨#[]⟩ : ByteArray).size = 0 := rfl
  refine AC.ofc 68 Tryd.func6 rfl rfl rfl ?_
  refine W.reg ?_
  (refine XOps.loud rfl (L.alloc tz23 rfl rfl) ?_; rintro _ _ ⟨b2, rfl, rfl⟩)
  refine XOps.s rfl rfl rfl (Q.assign_d rfl) ?_
  refine XOps.nil ?_
  refine W.reg ?_
  refine XOps.s rfl rfl rfl (Q.move_d rfl) ?_
  refine XOps.s rfl rfl rfl (Q.call rfl Tryd.func10 go10 rfl (split_c s 32 _ hL)) ?_
  refine XOps.s rfl rfl rfl (Q.assign_d rfl) ?_
  refine XOps.nil ?_
  refine W.reg ?_
  refine XOps.s rfl rfl rfl (Q.move_d rfl) ?_
  refine XOps.s rfl rfl rfl (Q.idx_sl sl35 (by decide) rfl rfl (by first | omega | (simp only [List.length_map]; omega)) (by first | exact p0 | exact p1 | exact p2)) ?_
  refine XOps.s rfl rfl rfl (Q.ld_dp ag9 rfl rfl) ?_
  refine XOps.s rfl rfl rfl (Q.call rfl Tryd.func11 go11 rfl (find_c (pa s 0) _)) ?_
  refine XOps.s rfl rfl rfl (Q.move_tup rfl) ?_
  refine XOps.s rfl rfl rfl (Q.extract rfl rfl) ?_
  refine XOps.s rfl rfl rfl (Q.extract rfl rfl) ?_
  (refine XOps.loud rfl (L.alloc tz39 rfl rfl) ?_; rintro _ _ ⟨b5, rfl, rfl⟩)
  refine XOps.loud rfl (L.storen (k := 0) ag39 rfl rfl rfl rfl rfl) ?_
  rintro _ _ ⟨rfl, rfl⟩
  refine XOps.s rfl rfl rfl (Q.assign_d rfl) ?_
  refine XOps.nil ?_
  refine W.reg ?_
  refine XOps.s rfl rfl rfl (Q.assign_d rfl) ?_
  refine XOps.nil ?_
  refine W.seq ?_
  refine W.reg ?_
  refine XOps.s rfl rfl rfl (Q.fld_ptr fl39_1 rfl) ?_
  refine XOps.s rfl rfl rfl (Q.ld_ptr (k := 0) ag4 rfl rfl rfl) ?_
  refine XOps.s rfl rfl rfl (Q.move_d rfl) ?_
  refine XOps.gs rfl rfl rfl rfl rfl rfl rfl (fun hg => Q.fld_ptr fl39_2 rfl) ?_
  refine XOps.gs rfl rfl rfl rfl rfl rfl rfl (fun hg => Quiet.open 22 hg rfl (Q.ld_ptr (k := 0) ag4 rfl rfl rfl)) ?_
  refine XOps.s rfl rfl rfl (Q.pick_or rfl rfl rfl (fun h => by first | (rw [h]; rfl) | (rw [hg, h]; rfl) | (simp [h, hg]; done))) ?_
  refine XOps.nil ?_
  refine W.cond rfl (fun hc24 => ?_) (fun hc24 => ?_)
  · try simp only [Bool.or_eq_true, Bool.or_eq_false_iff, Bool.and_eq_true, Bool.and_eq_false_iff, decide_eq_true_eq, decide_eq_false_iff_not, Bool.not_eq_true', Bool.not_eq_false', Int.not_lt, Int.not_le, List.length_map] at hc24
    have hM : manyV (paW s) = 3 := if_pos (by unfold paW; simpa using hc24)
    refine W.region ?_
    refine XOps.s rfl rfl rfl (Q.assign_d rfl) ?_
    refine XOps.nil ?_
    refine W.seq ?_
    refine W.reg ?_
    refine XOps.s rfl rfl rfl (Q.move_d rfl) ?_
    refine XOps.s rfl rfl rfl (Q.not rfl) ?_
    refine XOps.s rfl rfl rfl (Q.move_d rfl) ?_
    refine XOps.gs rfl rfl rfl rfl rfl rfl rfl (fun hg => Q.move_d rfl) ?_
    refine XOps.gs rfl rfl rfl rfl rfl rfl rfl (fun hg => Quiet.open 28 hg rfl (Q.len_sl isl35 rfl)) ?_
    refine XOps.gs rfl rfl rfl rfl rfl rfl rfl (fun hg => Q.move_d rfl) ?_
    refine XOps.gs rfl rfl rfl rfl rfl rfl rfl (fun hg => Quiet.open 29 hg rfl (Quiet.open 30 hg rfl (Q.neq rfl rfl))) ?_
    refine XOps.s rfl rfl rfl (Q.pick_or rfl rfl rfl (fun h => by first | (rw [h]; rfl) | (rw [hg, h]; rfl) | (simp [h, hg]; done))) ?_
    refine XOps.nil ?_
    refine W.cond rfl (fun hc32 => ?_) (fun hc32 => ?_)
    · try simp only [Bool.or_eq_true, Bool.or_eq_false_iff, Bool.and_eq_true, Bool.and_eq_false_iff, decide_eq_true_eq, decide_eq_false_iff_not, Bool.not_eq_true', Bool.not_eq_false', Int.not_lt, Int.not_le, List.length_map] at hc32
      have hE : paE s = 5 := if_pos (by rw [hM]; unfold paF; simpa using hc32)
      have hV := paV_bad (s := s) (by omega)
      rw [hE, hV]
      refine W.reg ?_
      refine XOps.s rfl rfl rfl (Q.build pl23 tz23 tzd23 rfl) ?_
      refine XOps.loud rfl (L.storen (k := 1) ag23 rfl rfl rfl rfl rfl) ?_
      rintro _ _ ⟨rfl, rfl⟩
      refine XOps.s rfl rfl rfl (Q.assign_d rfl) ?_
      refine XOps.nil ?_
      refine W.ret ?_
      exact ⟨_, hs, (.cons (by first | exact .celln 0 ag23 rfl rfl rfl | exact .cell1 0 ag23 rfl rfl rfl | exact .celln 1 ag23 rfl rfl rfl | exact .cell1 1 ag23 rfl rfl rfl | exact .celln 2 ag23 rfl rfl rfl | exact .cell1 2 ag23 rfl rfl rfl | exact .celln 3 ag23 rfl rfl rfl | exact .cell1 3 ag23 rfl rfl rfl | exact .celln 4 ag23 rfl rfl rfl | exact .cell1 4 ag23 rfl rfl rfl | exact .celln 5 ag23 rfl rfl rfl | exact .cell1 5 ag23 rfl rfl rfl) (.cons (.tmp _) .nil)), HLe.skip _ (HLe.skip _ (HLe.refl _)), rfl, rfl⟩
    · try simp only [Bool.or_eq_true, Bool.or_eq_false_iff, Bool.and_eq_true, Bool.and_eq_false_iff, decide_eq_true_eq, decide_eq_false_iff_not, Bool.not_eq_true', Bool.not_eq_false', Int.not_lt, Int.not_le, List.length_map] at hc32
      have q0 : findB (pa s 0) = true ∧ ((paF s).length : Int) = manyV (paW s) := by rw [hM]; unfold paF; simpa using hc32
      have hln := q0.2
      rw [hM] at hln
      have p1 : ((splS 32 s).map sE)[1]? = some (sE (pa s 1)) := by rw [List.getElem?_map]; show ((paF s)[1]?).map sE = _; rw [paF_at (by omega)]; rfl
      have hp1 : ¬ (findB (pa s 0) = false ∨ ((paF s).length : Int) ≠ manyV (paW s)) := fun h => h.elim (fun h => by rw [q0.1] at h; cases h) (fun h => h q0.2)
      refine W.skip ?_
      refine W.drawTreg 7 [6] follows (by kernel_rfl) (by decide) ?_
      apply DT.moreE [.new, .new, .new, .new, .new, .new, .now] (by kernel_rfl)
      refine PC.new _ rfl (GQ.q rfl (Q.fld_ptr fl39_0 rfl)) rfl ?_
      refine PC.new _ rfl (GQ.q rfl (Q.ld_ptr (k := 0) ag9 rfl rfl rfl)) rfl ?_
      refine PC.new _ rfl (GQ.q rfl (Q.move_d rfl)) rfl ?_
      refine PC.new _ rfl (GQ.q rfl (Q.idx_sl sl35 (by decide) rfl rfl (by first | omega | (simp only [List.length_map]; omega)) (by first | exact p0 | exact p1 | exact p2))) rfl ?_
      refine PC.new _ rfl (GQ.q rfl (Q.ld_dp ag9 rfl rfl)) rfl ?_
      refine PC.new _ rfl (GQ.q rfl (Q.build pl23 tz23 tzd23 rfl)) rfl ?_
      refine PC.now rfl rfl (fun τ => Loud.to (L.alloc tz23 rfl rfl) (fun _ _ ⟨v, h1, h2⟩ => ⟨_, h1, v, rfl, h2⟩)) ?_
      refine PC.nil ?_
      rintro _ _ ⟨b8, rfl, rfl⟩
      refine DT.last [.old, .old, .old, .old, .old, .old, .did] (by kernel_rfl) ?_
      refine PC.old rfl (GQ.q rfl (Q.fld_ptr fl39_0 rfl)) rfl ?_
      refine PC.old rfl (GQ.q rfl (Q.ld_ptr (k := 1) ag9 rfl rfl rfl)) rfl ?_
      refine PC.old rfl (GQ.q rfl (Q.move_d rfl)) rfl ?_
      refine PC.old rfl (GQ.q rfl (Q.idx_sl sl35 (by decide) rfl rfl (by first | omega | (simp only [List.length_map]; omega)) (by first | exact p0 | exact p1 | exact p2))) rfl ?_
      refine PC.old rfl (GQ.q rfl (Q.ld_dp ag9 rfl rfl)) rfl ?_
      refine PC.old rfl (GQ.q rfl (Q.build pl23 tz23 tzd23 rfl)) rfl ?_
      refine PC.did rfl ?_
      refine PC.nil ?_
      refine XOps.loud rfl (L.storen (k := 0) ag23 rfl rfl rfl rfl rfl) ?_
      rintro _ _ ⟨rfl, rfl⟩
      refine XOps.nil ?_
      refine W.seq ?_
      refine W.block ?_
      refine W.reg ?_
      refine XOps.s rfl rfl rfl (Q.fld_ptr fl39_1 rfl) ?_
      refine XOps.s rfl rfl rfl (Q.ld_ptr (k := 1) ag4 rfl rfl rfl) ?_
      refine XOps.s rfl rfl rfl (Q.assign_d rfl) ?_
      refine XOps.nil ?_
      refine W.cond rfl (fun hc40 => ?_) (fun hc40 => ?_)
      · try simp only [Bool.or_eq_true, Bool.or_eq_false_iff, Bool.and_eq_true, Bool.and_eq_false_iff, decide_eq_true_eq, decide_eq_false_iff_not, Bool.not_eq_true', Bool.not_eq_false', Int.not_lt, Int.not_le, List.length_map] at hc40
        have h3 : manyV (paW s) = 3 := if_pos (.inl hc40)
        have p2 : ((splS 32 s).map sE)[2]? = some (sE (pa s 2)) := by rw [List.getElem?_map]; show ((paF s)[2]?).map sE = _; rw [paF_at (by omega)]; rfl
        have hC : paC s = ⟨(findV (pa s 0)).name, pa s 1, nuN (pa s 2), ⟨#[]⟩⟩ := by unfold paC paW; rw [if_pos hc40, if_pos hc40]
        refine W.reg ?_
        refine XOps.s rfl rfl rfl (Q.move_d rfl) ?_
        refine XOps.s rfl rfl rfl (Q.idx_sl sl35 (by decide) rfl rfl (by first | omega | (simp only [List.length_map]; omega)) (by first | exact p0 | exact p1 | exact p2)) ?_
        refine XOps.s rfl rfl rfl (Q.ld_dp ag9 rfl rfl) ?_
        refine XOps.s rfl rfl rfl (Q.call rfl Tryd.func13 go13 rfl (nu_c (pa s 2) _ (by omega))) ?_
        refine XOps.s rfl rfl rfl (Q.move_tup rfl) ?_
        refine XOps.s rfl rfl rfl (Q.extract rfl rfl) ?_
        refine XOps.s rfl rfl rfl (Q.extract rfl rfl) ?_
        refine XOps.s rfl rfl rfl (Q.fld_ptr fl23_2 rfl) ?_
        refine XOps.loud rfl (L.store (k := 0) ag3 rfl rfl rfl rfl rfl) ?_
        rintro _ _ ⟨rfl, rfl⟩
        refine XOps.s rfl rfl rfl (Q.assign_d rfl) ?_
        refine XOps.nil ?_
        refine W.reg ?_
        refine XOps.s rfl rfl rfl (Q.move_d rfl) ?_
        refine XOps.s rfl rfl rfl (Q.not rfl) ?_
        refine XOps.nil ?_
        refine W.cond rfl (fun hc52 => ?_) (fun hc52 => ?_)
        · try simp only [Bool.or_eq_true, Bool.or_eq_false_iff, Bool.and_eq_true, Bool.and_eq_false_iff, decide_eq_true_eq, decide_eq_false_iff_not, Bool.not_eq_true', Bool.not_eq_false', Int.not_lt, Int.not_le, List.length_map] at hc52
          have hnb : nuB (pa s 2) = false := by simpa using hc52
          have hE : paE s = 5 := by unfold paE; rw [if_neg hp1, if_pos ⟨hc40, hnb⟩]
          have hV := paV_bad (s := s) (by omega)
          rw [hE, hV]
          refine W.reg ?_
          refine XOps.s rfl rfl rfl (Q.build pl23 tz23 tzd23 rfl) ?_
          refine XOps.loud rfl (L.storen (k := 2) ag23 rfl rfl rfl rfl rfl) ?_
          rintro _ _ ⟨rfl, rfl⟩
          refine XOps.s rfl rfl rfl (Q.assign_d rfl) ?_
          refine XOps.nil ?_
          refine W.ret ?_
          exact ⟨_, hs, (.cons (by first | exact .celln 0 ag23 rfl rfl rfl | exact .cell1 0 ag23 rfl rfl rfl | exact .celln 1 ag23 rfl rfl rfl | exact .cell1 1 ag23 rfl rfl rfl | exact .celln 2 ag23 rfl rfl rfl | exact .cell1 2 ag23 rfl rfl rfl | exact .celln 3 ag23 rfl rfl rfl | exact .cell1 3 ag23 rfl rfl rfl | exact .celln 4 ag23 rfl rfl rfl | exact .cell1 4 ag23 rfl rfl rfl | exact .celln 5 ag23 rfl rfl rfl | exact .cell1 5 ag23 rfl rfl rfl) (.cons (.tmp _) .nil)), HLe.skip _ (HLe.skip _ (HLe.skip _ (HLe.refl _))), rfl, rfl⟩
        · try simp only [Bool.or_eq_true, Bool.or_eq_false_iff, Bool.and_eq_true, Bool.and_eq_false_iff, decide_eq_true_eq, decide_eq_false_iff_not, Bool.not_eq_true', Bool.not_eq_false', Int.not_lt, Int.not_le, List.length_map] at hc52
          have hnb : nuB (pa s 2) = true := by simpa using hc52
          have hp2 : ¬ ((paW s).num = true ∧ nuB (pa s 2) = false) := fun h => by rw [hnb] at h; cases h.2
          refine W.skip ?_
          refine W.seq ?_
          refine W.reg ?_
          refine XOps.s rfl rfl rfl (Q.ld_ptrn (k := 0) ag23 rfl rfl rfl) ?_
          refine XOps.s rfl rfl rfl (Q.call rfl Tryd.func8 go8 rfl (check_c ⟨(findV (pa s 0)).name, pa s 1, nuN (pa s 2), ⟨#[]⟩⟩ _ (by dsimp only; omega) (by dsimp only; omega))) ?_
          refine XOps.s rfl rfl rfl (Q.assign_d rfl) ?_
          refine XOps.nil ?_
          refine W.reg ?_
          refine XOps.s rfl rfl rfl (Q.move_d rfl) ?_
          refine XOps.s rfl rfl rfl (Q.neq rfl rfl) ?_
          refine XOps.nil ?_
          refine W.cond rfl (fun hc64 => ?_) (fun hc64 => ?_)
          · try simp only [Bool.or_eq_true, Bool.or_eq_false_iff, Bool.and_eq_true, Bool.and_eq_false_iff, decide_eq_true_eq, decide_eq_false_iff_not, Bool.not_eq_true', Bool.not_eq_false', Int.not_lt, Int.not_le, List.length_map] at hc64
            have h64 : ckC (paC s) ≠ 0 := by rw [hC]; first | exact hc64 | (simpa using hc64)
            have hE : paE s = ckC (paC s) := by unfold paE; rw [if_neg hp1, if_neg hp2]
            have hV := paV_bad (s := s) (by rw [hE]; exact h64)
            rw [hV, hE, hC]
            refine W.reg ?_
            refine XOps.s rfl rfl rfl (Q.build pl23 tz23 tzd23 rfl) ?_
            refine XOps.s rfl rfl rfl (Q.move_d rfl) ?_
            refine XOps.loud rfl (L.storen (k := 2) ag23 rfl rfl rfl rfl rfl) ?_
            rintro _ _ ⟨rfl, rfl⟩
            refine XOps.s rfl rfl rfl (Q.assign_d rfl) ?_
            refine XOps.nil ?_
            refine W.ret ?_
            exact ⟨_, hs, (.cons (by first | exact .celln 0 ag23 rfl rfl rfl | exact .cell1 0 ag23 rfl rfl rfl | exact .celln 1 ag23 rfl rfl rfl | exact .cell1 1 ag23 rfl rfl rfl | exact .celln 2 ag23 rfl rfl rfl | exact .cell1 2 ag23 rfl rfl rfl | exact .celln 3 ag23 rfl rfl rfl | exact .cell1 3 ag23 rfl rfl rfl | exact .celln 4 ag23 rfl rfl rfl | exact .cell1 4 ag23 rfl rfl rfl | exact .celln 5 ag23 rfl rfl rfl | exact .cell1 5 ag23 rfl rfl rfl) (.cons (.tmp _) .nil)), HLe.skip _ (HLe.skip _ (HLe.skip _ (HLe.refl _))), rfl, rfl⟩
          · try simp only [Bool.or_eq_true, Bool.or_eq_false_iff, Bool.and_eq_true, Bool.and_eq_false_iff, decide_eq_true_eq, decide_eq_false_iff_not, Bool.not_eq_true', Bool.not_eq_false', Int.not_lt, Int.not_le, List.length_map] at hc64
            have h64 : ckC (paC s) = 0 := by rw [hC]; first | exact hc64 | (simpa using hc64)
            have hE : paE s = 0 := by unfold paE; rw [if_neg hp1, if_neg hp2]; exact h64
            have hV : paV s = paC s := if_neg (by omega)
            rw [hV, hE, hC]
            refine W.skip ?_
            refine W.reg ?_
            refine XOps.s rfl rfl rfl (Q.ld_ptrn (k := 0) ag23 rfl rfl rfl) ?_
            refine XOps.loud rfl (L.storen (k := 2) ag23 rfl rfl rfl rfl rfl) ?_
            rintro _ _ ⟨rfl, rfl⟩
            refine XOps.s rfl rfl rfl (Q.assign_d rfl) ?_
            refine XOps.nil ?_
            refine W.ret ?_
            exact ⟨_, hs, (.cons (by first | exact .celln 0 ag23 rfl rfl rfl | exact .cell1 0 ag23 rfl rfl rfl | exact .celln 1 ag23 rfl rfl rfl | exact .cell1 1 ag23 rfl rfl rfl | exact .celln 2 ag23 rfl rfl rfl | exact .cell1 2 ag23 rfl rfl rfl | exact .celln 3 ag23 rfl rfl rfl | exact .cell1 3 ag23 rfl rfl rfl | exact .celln 4 ag23 rfl rfl rfl | exact .cell1 4 ag23 rfl rfl rfl | exact .celln 5 ag23 rfl rfl rfl | exact .cell1 5 ag23 rfl rfl rfl) (.cons (.tmp _) .nil)), HLe.skip _ (HLe.skip _ (HLe.skip _ (HLe.refl _))), rfl, rfl⟩
      · try simp only [Bool.or_eq_true, Bool.or_eq_false_iff, Bool.and_eq_true, Bool.and_eq_false_iff, decide_eq_true_eq, decide_eq_false_iff_not, Bool.not_eq_true', Bool.not_eq_false', Int.not_lt, Int.not_le, List.length_map] at hc40
        have hn4 : ¬ (findV (pa s 0)).num = true := by simp [hc40]
        have hp2 : ¬ ((paW s).num = true ∧ nuB (pa s 2) = false) := fun h => hn4 h.1
        refine W.reg ?_
        refine XOps.s rfl rfl rfl (Q.fld_ptr fl39_2 rfl) ?_
        refine XOps.s rfl rfl rfl (Q.ld_ptr (k := 1) ag4 rfl rfl rfl) ?_
        refine XOps.s rfl rfl rfl (Q.assign_d rfl) ?_
        refine XOps.nil ?_
        refine W.cond rfl (fun hc54 => ?_) (fun hc54 => ?_)
        · try simp only [Bool.or_eq_true, Bool.or_eq_false_iff, Bool.and_eq_true, Bool.and_eq_false_iff, decide_eq_true_eq, decide_eq_false_iff_not, Bool.not_eq_true', Bool.not_eq_false', Int.not_lt, Int.not_le, List.length_map] at hc54
          have h3 : manyV (paW s) = 3 := if_pos (.inr hc54)
          have p2 : ((splS 32 s).map sE)[2]? = some (sE (pa s 2)) := by rw [List.getElem?_map]; show ((paF s)[2]?).map sE = _; rw [paF_at (by omega)]; rfl
          have hC : paC s = ⟨(findV (pa s 0)).name, pa s 1, 0, pa s 2⟩ := by unfold paC paW; rw [if_neg hn4, if_neg hn4, if_pos hc54]
          refine W.region ?_
          refine XOps.s rfl rfl rfl (Q.move_d rfl) ?_
          refine XOps.s rfl rfl rfl (Q.idx_sl sl35 (by decide) rfl rfl (by first | omega | (simp only [List.length_map]; omega)) (by first | exact p0 | exact p1 | exact p2)) ?_
          refine XOps.s rfl rfl rfl (Q.ld_dp ag9 rfl rfl) ?_
          refine XOps.s rfl rfl rfl (Q.fld_ptr fl23_3 rfl) ?_
          refine XOps.loud rfl (L.store (k := 0) ag9 rfl rfl rfl rfl rfl) ?_
          rintro _ _ ⟨rfl, rfl⟩
          refine XOps.nil ?_
          refine W.seq ?_
          refine W.reg ?_
          refine XOps.s rfl rfl rfl (Q.ld_ptrn (k := 0) ag23 rfl rfl rfl) ?_
          refine XOps.s rfl rfl rfl (Q.call rfl Tryd.func8 go8 rfl (check_c ⟨(findV (pa s 0)).name, pa s 1, 0, pa s 2⟩ _ (by dsimp only; omega) (by dsimp only; omega))) ?_
          refine XOps.s rfl rfl rfl (Q.assign_d rfl) ?_
          refine XOps.nil ?_
          refine W.reg ?_
          refine XOps.s rfl rfl rfl (Q.move_d rfl) ?_
          refine XOps.s rfl rfl rfl (Q.neq rfl rfl) ?_
          refine XOps.nil ?_
          refine W.cond rfl (fun hc64 => ?_) (fun hc64 => ?_)
          · try simp only [Bool.or_eq_true, Bool.or_eq_false_iff, Bool.and_eq_true, Bool.and_eq_false_iff, decide_eq_true_eq, decide_eq_false_iff_not, Bool.not_eq_true', Bool.not_eq_false', Int.not_lt, Int.not_le, List.length_map] at hc64
            have h64 : ckC (paC s) ≠ 0 := by rw [hC]; first | exact hc64 | (simpa using hc64)
            have hE : paE s = ckC (paC s) := by unfold paE; rw [if_neg hp1, if_neg hp2]
            have hV := paV_bad (s := s) (by rw [hE]; exact h64)
            rw [hV, hE, hC]
            refine W.reg ?_
            refine XOps.s rfl rfl rfl (Q.build pl23 tz23 tzd23 rfl) ?_
            refine XOps.s rfl rfl rfl (Q.move_d rfl) ?_
            refine XOps.loud rfl (L.storen (k := 2) ag23 rfl rfl rfl rfl rfl) ?_
            rintro _ _ ⟨rfl, rfl⟩
            refine XOps.s rfl rfl rfl (Q.assign_d rfl) ?_
            refine XOps.nil ?_
            refine W.ret ?_
            exact ⟨_, hs, (.cons (by first | exact .celln 0 ag23 rfl rfl rfl | exact .cell1 0 ag23 rfl rfl rfl | exact .celln 1 ag23 rfl rfl rfl | exact .cell1 1 ag23 rfl rfl rfl | exact .celln 2 ag23 rfl rfl rfl | exact .cell1 2 ag23 rfl rfl rfl | exact .celln 3 ag23 rfl rfl rfl | exact .cell1 3 ag23 rfl rfl rfl | exact .celln 4 ag23 rfl rfl rfl | exact .cell1 4 ag23 rfl rfl rfl | exact .celln 5 ag23 rfl rfl rfl | exact .cell1 5 ag23 rfl rfl rfl) (.cons (.tmp _) .nil)), HLe.skip _ (HLe.skip _ (HLe.skip _ (HLe.refl _))), rfl, rfl⟩
          · try simp only [Bool.or_eq_true, Bool.or_eq_false_iff, Bool.and_eq_true, Bool.and_eq_false_iff, decide_eq_true_eq, decide_eq_false_iff_not, Bool.not_eq_true', Bool.not_eq_false', Int.not_lt, Int.not_le, List.length_map] at hc64
            have h64 : ckC (paC s) = 0 := by rw [hC]; first | exact hc64 | (simpa using hc64)
            have hE : paE s = 0 := by unfold paE; rw [if_neg hp1, if_neg hp2]; exact h64
            have hV : paV s = paC s := if_neg (by omega)
            rw [hV, hE, hC]
            refine W.skip ?_
            refine W.reg ?_
            refine XOps.s rfl rfl rfl (Q.ld_ptrn (k := 0) ag23 rfl rfl rfl) ?_
            refine XOps.loud rfl (L.storen (k := 2) ag23 rfl rfl rfl rfl rfl) ?_
            rintro _ _ ⟨rfl, rfl⟩
            refine XOps.s rfl rfl rfl (Q.assign_d rfl) ?_
            refine XOps.nil ?_
            refine W.ret ?_
            exact ⟨_, hs, (.cons (by first | exact .celln 0 ag23 rfl rfl rfl | exact .cell1 0 ag23 rfl rfl rfl | exact .celln 1 ag23 rfl rfl rfl | exact .cell1 1 ag23 rfl rfl rfl | exact .celln 2 ag23 rfl rfl rfl | exact .cell1 2 ag23 rfl rfl rfl | exact .celln 3 ag23 rfl rfl rfl | exact .cell1 3 ag23 rfl rfl rfl | exact .celln 4 ag23 rfl rfl rfl | exact .cell1 4 ag23 rfl rfl rfl | exact .celln 5 ag23 rfl rfl rfl | exact .cell1 5 ag23 rfl rfl rfl) (.cons (.tmp _) .nil)), HLe.skip _ (HLe.skip _ (HLe.skip _ (HLe.refl _))), rfl, rfl⟩
        · try simp only [Bool.or_eq_true, Bool.or_eq_false_iff, Bool.and_eq_true, Bool.and_eq_false_iff, decide_eq_true_eq, decide_eq_false_iff_not, Bool.not_eq_true', Bool.not_eq_false', Int.not_lt, Int.not_le, List.length_map] at hc54
          have hC : paC s = ⟨(findV (pa s 0)).name, pa s 1, 0, ⟨#[]⟩⟩ := by unfold paC paW; rw [if_neg hn4, if_neg hn4, if_neg (by simp [hc54])]
          refine W.skip ?_
          refine W.seq ?_
          refine W.reg ?_
          refine XOps.s rfl rfl rfl (Q.ld_ptrn (k := 0) ag23 rfl rfl rfl) ?_
          refine XOps.s rfl rfl rfl (Q.call rfl Tryd.func8 go8 rfl (check_c ⟨(findV (pa s 0)).name, pa s 1, 0, ⟨#[]⟩⟩ _ (by dsimp only; omega) (by dsimp only; omega))) ?_
          refine XOps.s rfl rfl rfl (Q.assign_d rfl) ?_
          refine XOps.nil ?_
          refine W.reg ?_
          refine XOps.s rfl rfl rfl (Q.move_d rfl) ?_
          refine XOps.s rfl rfl rfl (Q.neq rfl rfl) ?_
          refine XOps.nil ?_
          refine W.cond rfl (fun hc64 => ?_) (fun hc64 => ?_)
          · try simp only [Bool.or_eq_true, Bool.or_eq_false_iff, Bool.and_eq_true, Bool.and_eq_false_iff, decide_eq_true_eq, decide_eq_false_iff_not, Bool.not_eq_true', Bool.not_eq_false', Int.not_lt, Int.not_le, List.length_map] at hc64
            have h64 : ckC (paC s) ≠ 0 := by rw [hC]; first | exact hc64 | (simpa using hc64)
            have hE : paE s = ckC (paC s) := by unfold paE; rw [if_neg hp1, if_neg hp2]
            have hV := paV_bad (s := s) (by rw [hE]; exact h64)
            rw [hV, hE, hC]
            refine W.reg ?_
            refine XOps.s rfl rfl rfl (Q.build pl23 tz23 tzd23 rfl) ?_
            refine XOps.s rfl rfl rfl (Q.move_d rfl) ?_
            refine XOps.loud rfl (L.storen (k := 2) ag23 rfl rfl rfl rfl rfl) ?_
            rintro _ _ ⟨rfl, rfl⟩
            refine XOps.s rfl rfl rfl (Q.assign_d rfl) ?_
            refine XOps.nil ?_
            refine W.ret ?_
            exact ⟨_, hs, (.cons (by first | exact .celln 0 ag23 rfl rfl rfl | exact .cell1 0 ag23 rfl rfl rfl | exact .celln 1 ag23 rfl rfl rfl | exact .cell1 1 ag23 rfl rfl rfl | exact .celln 2 ag23 rfl rfl rfl | exact .cell1 2 ag23 rfl rfl rfl | exact .celln 3 ag23 rfl rfl rfl | exact .cell1 3 ag23 rfl rfl rfl | exact .celln 4 ag23 rfl rfl rfl | exact .cell1 4 ag23 rfl rfl rfl | exact .celln 5 ag23 rfl rfl rfl | exact .cell1 5 ag23 rfl rfl rfl) (.cons (.tmp _) .nil)), HLe.skip _ (HLe.skip _ (HLe.skip _ (HLe.refl _))), rfl, rfl⟩
          · try simp only [Bool.or_eq_true, Bool.or_eq_false_iff, Bool.and_eq_true, Bool.and_eq_false_iff, decide_eq_true_eq, decide_eq_false_iff_not, Bool.not_eq_true', Bool.not_eq_false', Int.not_lt, Int.not_le, List.length_map] at hc64
            have h64 : ckC (paC s) = 0 := by rw [hC]; first | exact hc64 | (simpa using hc64)
            have hE : paE s = 0 := by unfold paE; rw [if_neg hp1, if_neg hp2]; exact h64
            have hV : paV s = paC s := if_neg (by omega)
            rw [hV, hE, hC]
            refine W.skip ?_
            refine W.reg ?_
            refine XOps.s rfl rfl rfl (Q.ld_ptrn (k := 0) ag23 rfl rfl rfl) ?_
            refine XOps.loud rfl (L.storen (k := 2) ag23 rfl rfl rfl rfl rfl) ?_
            rintro _ _ ⟨rfl, rfl⟩
            refine XOps.s rfl rfl rfl (Q.assign_d rfl) ?_
            refine XOps.nil ?_
            refine W.ret ?_
            exact ⟨_, hs, (.cons (by first | exact .celln 0 ag23 rfl rfl rfl | exact .cell1 0 ag23 rfl rfl rfl | exact .celln 1 ag23 rfl rfl rfl | exact .cell1 1 ag23 rfl rfl rfl | exact .celln 2 ag23 rfl rfl rfl | exact .cell1 2 ag23 rfl rfl rfl | exact .celln 3 ag23 rfl rfl rfl | exact .cell1 3 ag23 rfl rfl rfl | exact .celln 4 ag23 rfl rfl rfl | exact .cell1 4 ag23 rfl rfl rfl | exact .celln 5 ag23 rfl rfl rfl | exact .cell1 5 ag23 rfl rfl rfl) (.cons (.tmp _) .nil)), HLe.skip _ (HLe.skip _ (HLe.skip _ (HLe.refl _))), rfl, rfl⟩
  · try simp only [Bool.or_eq_true, Bool.or_eq_false_iff, Bool.and_eq_true, Bool.and_eq_false_iff, decide_eq_true_eq, decide_eq_false_iff_not, Bool.not_eq_true', Bool.not_eq_false', Int.not_lt, Int.not_le, List.length_map] at hc24
    have hM : manyV (paW s) = 2 := if_neg (by unfold paW; simpa using hc24)
    refine W.skip ?_
    refine W.seq ?_
    refine W.reg ?_
    refine XOps.s rfl rfl rfl (Q.move_d rfl) ?_
    refine XOps.s rfl rfl rfl (Q.not rfl) ?_
    refine XOps.s rfl rfl rfl (Q.move_d rfl) ?_
    refine XOps.gs rfl rfl rfl rfl rfl rfl rfl (fun hg => Q.move_d rfl) ?_
    refine XOps.gs rfl rfl rfl rfl rfl rfl rfl (fun hg => Quiet.open 28 hg rfl (Q.len_sl isl35 rfl)) ?_
    refine XOps.gs rfl rfl rfl rfl rfl rfl rfl (fun hg => Q.move_d rfl) ?_
    refine XOps.gs rfl rfl rfl rfl rfl rfl rfl (fun hg => Quiet.open 29 hg rfl (Quiet.open 30 hg rfl (Q.neq rfl rfl))) ?_
    refine XOps.s rfl rfl rfl (Q.pick_or rfl rfl rfl (fun h => by first | (rw [h]; rfl) | (rw [hg, h]; rfl) | (simp [h, hg]; done))) ?_
    refine XOps.nil ?_
    refine W.cond rfl (fun hc32 => ?_) (fun hc32 => ?_)
    · try simp only [Bool.or_eq_true, Bool.or_eq_false_iff, Bool.and_eq_true, Bool.and_eq_false_iff, decide_eq_true_eq, decide_eq_false_iff_not, Bool.not_eq_true', Bool.not_eq_false', Int.not_lt, Int.not_le, List.length_map] at hc32
      have hE : paE s = 5 := if_pos (by rw [hM]; unfold paF; simpa using hc32)
      have hV := paV_bad (s := s) (by omega)
      rw [hE, hV]
      refine W.reg ?_
      refine XOps.s rfl rfl rfl (Q.build pl23 tz23 tzd23 rfl) ?_
      refine XOps.loud rfl (L.storen (k := 1) ag23 rfl rfl rfl rfl rfl) ?_
      rintro _ _ ⟨rfl, rfl⟩
      refine XOps.s rfl rfl rfl (Q.assign_d rfl) ?_
      refine XOps.nil ?_
      refine W.ret ?_
      exact ⟨_, hs, (.cons (by first | exact .celln 0 ag23 rfl rfl rfl | exact .cell1 0 ag23 rfl rfl rfl | exact .celln 1 ag23 rfl rfl rfl | exact .cell1 1 ag23 rfl rfl rfl | exact .celln 2 ag23 rfl rfl rfl | exact .cell1 2 ag23 rfl rfl rfl | exact .celln 3 ag23 rfl rfl rfl | exact .cell1 3 ag23 rfl rfl rfl | exact .celln 4 ag23 rfl rfl rfl | exact .cell1 4 ag23 rfl rfl rfl | exact .celln 5 ag23 rfl rfl rfl | exact .cell1 5 ag23 rfl rfl rfl) (.cons (.tmp _) .nil)), HLe.skip _ (HLe.skip _ (HLe.refl _)), rfl, rfl⟩
    · try simp only [Bool.or_eq_true, Bool.or_eq_false_iff, Bool.and_eq_true, Bool.and_eq_false_iff, decide_eq_true_eq, decide_eq_false_iff_not, Bool.not_eq_true', Bool.not_eq_false', Int.not_lt, Int.not_le, List.length_map] at hc32
      have q0 : findB (pa s 0) = true ∧ ((paF s).length : Int) = manyV (paW s) := by rw [hM]; unfold paF; simpa using hc32
      have hln := q0.2
      rw [hM] at hln
      have p1 : ((splS 32 s).map sE)[1]? = some (sE (pa s 1)) := by rw [List.getElem?_map]; show ((paF s)[1]?).map sE = _; rw [paF_at (by omega)]; rfl
      have hp1 : ¬ (findB (pa s 0) = false ∨ ((paF s).length : Int) ≠ manyV (paW s)) := fun h => h.elim (fun h => by rw [q0.1] at h; cases h) (fun h => h q0.2)
      refine W.skip ?_
      refine W.drawTreg 7 [6] follows (by kernel_rfl) (by decide) ?_
      apply DT.moreE [.new, .new, .new, .new, .new, .new, .now] (by kernel_rfl)
      refine PC.new _ rfl (GQ.q rfl (Q.fld_ptr fl39_0 rfl)) rfl ?_
      refine PC.new _ rfl (GQ.q rfl (Q.ld_ptr (k := 0) ag9 rfl rfl rfl)) rfl ?_
      refine PC.new _ rfl (GQ.q rfl (Q.move_d rfl)) rfl ?_
      refine PC.new _ rfl (GQ.q rfl (Q.idx_sl sl35 (by decide) rfl rfl (by first | omega | (simp only [List.length_map]; omega)) (by first | exact p0 | exact p1 | exact p2))) rfl ?_
      refine PC.new _ rfl (GQ.q rfl (Q.ld_dp ag9 rfl rfl)) rfl ?_
      refine PC.new _ rfl (GQ.q rfl (Q.build pl23 tz23 tzd23 rfl)) rfl ?_
      refine PC.now rfl rfl (fun τ => Loud.to (L.alloc tz23 rfl rfl) (fun _ _ ⟨v, h1, h2⟩ => ⟨_, h1, v, rfl, h2⟩)) ?_
      refine PC.nil ?_
      rintro _ _ ⟨b8, rfl, rfl⟩
      refine DT.last [.old, .old, .old, .old, .old, .old, .did] (by kernel_rfl) ?_
      refine PC.old rfl (GQ.q rfl (Q.fld_ptr fl39_0 rfl)) rfl ?_
      refine PC.old rfl (GQ.q rfl (Q.ld_ptr (k := 1) ag9 rfl rfl rfl)) rfl ?_
      refine PC.old rfl (GQ.q rfl (Q.move_d rfl)) rfl ?_
      refine PC.old rfl (GQ.q rfl (Q.idx_sl sl35 (by decide) rfl rfl (by first | omega | (simp only [List.length_map]; omega)) (by first | exact p0 | exact p1 | exact p2))) rfl ?_
      refine PC.old rfl (GQ.q rfl (Q.ld_dp ag9 rfl rfl)) rfl ?_
      refine PC.old rfl (GQ.q rfl (Q.build pl23 tz23 tzd23 rfl)) rfl ?_
      refine PC.did rfl ?_
      refine PC.nil ?_
      refine XOps.loud rfl (L.storen (k := 0) ag23 rfl rfl rfl rfl rfl) ?_
      rintro _ _ ⟨rfl, rfl⟩
      refine XOps.nil ?_
      refine W.seq ?_
      refine W.block ?_
      refine W.reg ?_
      refine XOps.s rfl rfl rfl (Q.fld_ptr fl39_1 rfl) ?_
      refine XOps.s rfl rfl rfl (Q.ld_ptr (k := 1) ag4 rfl rfl rfl) ?_
      refine XOps.s rfl rfl rfl (Q.assign_d rfl) ?_
      refine XOps.nil ?_
      refine W.cond rfl (fun hc40 => ?_) (fun hc40 => ?_)
      · try simp only [Bool.or_eq_true, Bool.or_eq_false_iff, Bool.and_eq_true, Bool.and_eq_false_iff, decide_eq_true_eq, decide_eq_false_iff_not, Bool.not_eq_true', Bool.not_eq_false', Int.not_lt, Int.not_le, List.length_map] at hc40
        have h3 : manyV (paW s) = 3 := if_pos (.inl hc40)
        have p2 : ((splS 32 s).map sE)[2]? = some (sE (pa s 2)) := by rw [List.getElem?_map]; show ((paF s)[2]?).map sE = _; rw [paF_at (by omega)]; rfl
        have hC : paC s = ⟨(findV (pa s 0)).name, pa s 1, nuN (pa s 2), ⟨#[]⟩⟩ := by unfold paC paW; rw [if_pos hc40, if_pos hc40]
        refine W.reg ?_
        refine XOps.s rfl rfl rfl (Q.move_d rfl) ?_
        refine XOps.s rfl rfl rfl (Q.idx_sl sl35 (by decide) rfl rfl (by first | omega | (simp only [List.length_map]; omega)) (by first | exact p0 | exact p1 | exact p2)) ?_
        refine XOps.s rfl rfl rfl (Q.ld_dp ag9 rfl rfl) ?_
        refine XOps.s rfl rfl rfl (Q.call rfl Tryd.func13 go13 rfl (nu_c (pa s 2) _ (by omega))) ?_
        refine XOps.s rfl rfl rfl (Q.move_tup rfl) ?_
        refine XOps.s rfl rfl rfl (Q.extract rfl rfl) ?_
        refine XOps.s rfl rfl rfl (Q.extract rfl rfl) ?_
        refine XOps.s rfl rfl rfl (Q.fld_ptr fl23_2 rfl) ?_
        refine XOps.loud rfl (L.store (k := 0) ag3 rfl rfl rfl rfl rfl) ?_
        rintro _ _ ⟨rfl, rfl⟩
        refine XOps.s rfl rfl rfl (Q.assign_d rfl) ?_
        refine XOps.nil ?_
        refine W.reg ?_
        refine XOps.s rfl rfl rfl (Q.move_d rfl) ?_
        refine XOps.s rfl rfl rfl (Q.not rfl) ?_
        refine XOps.nil ?_
        refine W.cond rfl (fun hc52 => ?_) (fun hc52 => ?_)
        · try simp only [Bool.or_eq_true, Bool.or_eq_false_iff, Bool.and_eq_true, Bool.and_eq_false_iff, decide_eq_true_eq, decide_eq_false_iff_not, Bool.not_eq_true', Bool.not_eq_false', Int.not_lt, Int.not_le, List.length_map] at hc52
          have hnb : nuB (pa s 2) = false := by simpa using hc52
          have hE : paE s = 5 := by unfold paE; rw [if_neg hp1, if_pos ⟨hc40, hnb⟩]
          have hV := paV_bad (s := s) (by omega)
          rw [hE, hV]
          refine W.reg ?_
          refine XOps.s rfl rfl rfl (Q.build pl23 tz23 tzd23 rfl) ?_
          refine XOps.loud rfl (L.storen (k := 2) ag23 rfl rfl rfl rfl rfl) ?_
          rintro _ _ ⟨rfl, rfl⟩
          refine XOps.s rfl rfl rfl (Q.assign_d rfl) ?_
          refine XOps.nil ?_
          refine W.ret ?_
          exact ⟨_, hs, (.cons (by first | exact .celln 0 ag23 rfl rfl rfl | exact .cell1 0 ag23 rfl rfl rfl | exact .celln 1 ag23 rfl rfl rfl | exact .cell1 1 ag23 rfl rfl rfl | exact .celln 2 ag23 rfl rfl rfl | exact .cell1 2 ag23 rfl rfl rfl | exact .celln 3 ag23 rfl rfl rfl | exact .cell1 3 ag23 rfl rfl rfl | exact .celln 4 ag23 rfl rfl rfl | exact .cell1 4 ag23 rfl rfl rfl | exact .celln 5 ag23 rfl rfl rfl | exact .cell1 5 ag23 rfl rfl rfl) (.cons (.tmp _) .nil)), HLe.skip _ (HLe.skip _ (HLe.skip _ (HLe.refl _))), rfl, rfl⟩
        · try simp only [Bool.or_eq_true, Bool.or_eq_false_iff, Bool.and_eq_true, Bool.and_eq_false_iff, decide_eq_true_eq, decide_eq_false_iff_not, Bool.not_eq_true', Bool.not_eq_false', Int.not_lt, Int.not_le, List.length_map] at hc52
          have hnb : nuB (pa s 2) = true := by simpa using hc52
          have hp2 : ¬ ((paW s).num = true ∧ nuB (pa s 2) = false) := fun h => by rw [hnb] at h; cases h.2
          refine W.skip ?_
          refine W.seq ?_
          refine W.reg ?_
          refine XOps.s rfl rfl rfl (Q.ld_ptrn (k := 0) ag23 rfl rfl rfl) ?_
          refine XOps.s rfl rfl rfl (Q.call rfl Tryd.func8 go8 rfl (check_c ⟨(findV (pa s 0)).name, pa s 1, nuN (pa s 2), ⟨#[]⟩⟩ _ (by dsimp only; omega) (by dsimp only; omega))) ?_
          refine XOps.s rfl rfl rfl (Q.assign_d rfl) ?_
          refine XOps.nil ?_
          refine W.reg ?_
          refine XOps.s rfl rfl rfl (Q.move_d rfl) ?_
          refine XOps.s rfl rfl rfl (Q.neq rfl rfl) ?_
          refine XOps.nil ?_
          refine W.cond rfl (fun hc64 => ?_) (fun hc64 => ?_)
          · try simp only [Bool.or_eq_true, Bool.or_eq_false_iff, Bool.and_eq_true, Bool.and_eq_false_iff, decide_eq_true_eq, decide_eq_false_iff_not, Bool.not_eq_true', Bool.not_eq_false', Int.not_lt, Int.not_le, List.length_map] at hc64
            have h64 : ckC (paC s) ≠ 0 := by rw [hC]; first | exact hc64 | (simpa using hc64)
            have hE : paE s = ckC (paC s) := by unfold paE; rw [if_neg hp1, if_neg hp2]
            have hV := paV_bad (s := s) (by rw [hE]; exact h64)
            rw [hV, hE, hC]
            refine W.reg ?_
            refine XOps.s rfl rfl rfl (Q.build pl23 tz23 tzd23 rfl) ?_
            refine XOps.s rfl rfl rfl (Q.move_d rfl) ?_
            refine XOps.loud rfl (L.storen (k := 2) ag23 rfl rfl rfl rfl rfl) ?_
            rintro _ _ ⟨rfl, rfl⟩
            refine XOps.s rfl rfl rfl (Q.assign_d rfl) ?_
            refine XOps.nil ?_
            refine W.ret ?_
            exact ⟨_, hs, (.cons (by first | exact .celln 0 ag23 rfl rfl rfl | exact .cell1 0 ag23 rfl rfl rfl | exact .celln 1 ag23 rfl rfl rfl | exact .cell1 1 ag23 rfl rfl rfl | exact .celln 2 ag23 rfl rfl rfl | exact .cell1 2 ag23 rfl rfl rfl | exact .celln 3 ag23 rfl rfl rfl | exact .cell1 3 ag23 rfl rfl rfl | exact .celln 4 ag23 rfl rfl rfl | exact .cell1 4 ag23 rfl rfl rfl | exact .celln 5 ag23 rfl rfl rfl | exact .cell1 5 ag23 rfl rfl rfl) (.cons (.tmp _) .nil)), HLe.skip _ (HLe.skip _ (HLe.skip _ (HLe.refl _))), rfl, rfl⟩
          · try simp only [Bool.or_eq_true, Bool.or_eq_false_iff, Bool.and_eq_true, Bool.and_eq_false_iff, decide_eq_true_eq, decide_eq_false_iff_not, Bool.not_eq_true', Bool.not_eq_false', Int.not_lt, Int.not_le, List.length_map] at hc64
            have h64 : ckC (paC s) = 0 := by rw [hC]; first | exact hc64 | (simpa using hc64)
            have hE : paE s = 0 := by unfold paE; rw [if_neg hp1, if_neg hp2]; exact h64
            have hV : paV s = paC s := if_neg (by omega)
            rw [hV, hE, hC]
            refine W.skip ?_
            refine W.reg ?_
            refine XOps.s rfl rfl rfl (Q.ld_ptrn (k := 0) ag23 rfl rfl rfl) ?_
            refine XOps.loud rfl (L.storen (k := 2) ag23 rfl rfl rfl rfl rfl) ?_
            rintro _ _ ⟨rfl, rfl⟩
            refine XOps.s rfl rfl rfl (Q.assign_d rfl) ?_
            refine XOps.nil ?_
            refine W.ret ?_
            exact ⟨_, hs, (.cons (by first | exact .celln 0 ag23 rfl rfl rfl | exact .cell1 0 ag23 rfl rfl rfl | exact .celln 1 ag23 rfl rfl rfl | exact .cell1 1 ag23 rfl rfl rfl | exact .celln 2 ag23 rfl rfl rfl | exact .cell1 2 ag23 rfl rfl rfl | exact .celln 3 ag23 rfl rfl rfl | exact .cell1 3 ag23 rfl rfl rfl | exact .celln 4 ag23 rfl rfl rfl | exact .cell1 4 ag23 rfl rfl rfl | exact .celln 5 ag23 rfl rfl rfl | exact .cell1 5 ag23 rfl rfl rfl) (.cons (.tmp _) .nil)), HLe.skip _ (HLe.skip _ (HLe.skip _ (HLe.refl _))), rfl, rfl⟩
      · try simp only [Bool.or_eq_true, Bool.or_eq_false_iff, Bool.and_eq_true, Bool.and_eq_false_iff, decide_eq_true_eq, decide_eq_false_iff_not, Bool.not_eq_true', Bool.not_eq_false', Int.not_lt, Int.not_le, List.length_map] at hc40
        have hn4 : ¬ (findV (pa s 0)).num = true := by simp [hc40]
        have hp2 : ¬ ((paW s).num = true ∧ nuB (pa s 2) = false) := fun h => hn4 h.1
        refine W.reg ?_
        refine XOps.s rfl rfl rfl (Q.fld_ptr fl39_2 rfl) ?_
        refine XOps.s rfl rfl rfl (Q.ld_ptr (k := 1) ag4 rfl rfl rfl) ?_
        refine XOps.s rfl rfl rfl (Q.assign_d rfl) ?_
        refine XOps.nil ?_
        refine W.cond rfl (fun hc54 => ?_) (fun hc54 => ?_)
        · try simp only [Bool.or_eq_true, Bool.or_eq_false_iff, Bool.and_eq_true, Bool.and_eq_false_iff, decide_eq_true_eq, decide_eq_false_iff_not, Bool.not_eq_true', Bool.not_eq_false', Int.not_lt, Int.not_le, List.length_map] at hc54
          have h3 : manyV (paW s) = 3 := if_pos (.inr hc54)
          have p2 : ((splS 32 s).map sE)[2]? = some (sE (pa s 2)) := by rw [List.getElem?_map]; show ((paF s)[2]?).map sE = _; rw [paF_at (by omega)]; rfl
          have hC : paC s = ⟨(findV (pa s 0)).name, pa s 1, 0, pa s 2⟩ := by unfold paC paW; rw [if_neg hn4, if_neg hn4, if_pos hc54]
          refine W.region ?_
          refine XOps.s rfl rfl rfl (Q.move_d rfl) ?_
          refine XOps.s rfl rfl rfl (Q.idx_sl sl35 (by decide) rfl rfl (by first | omega | (simp only [List.length_map]; omega)) (by first | exact p0 | exact p1 | exact p2)) ?_
          refine XOps.s rfl rfl rfl (Q.ld_dp ag9 rfl rfl) ?_
          refine XOps.s rfl rfl rfl (Q.fld_ptr fl23_3 rfl) ?_
          refine XOps.loud rfl (L.store (k := 0) ag9 rfl rfl rfl rfl rfl) ?_
          rintro _ _ ⟨rfl, rfl⟩
          refine XOps.nil ?_
          refine W.seq ?_
          refine W.reg ?_
          refine XOps.s rfl rfl rfl (Q.ld_ptrn (k := 0) ag23 rfl rfl rfl) ?_
          refine XOps.s rfl rfl rfl (Q.call rfl Tryd.func8 go8 rfl (check_c ⟨(findV (pa s 0)).name, pa s 1, 0, pa s 2⟩ _ (by dsimp only; omega) (by dsimp only; omega))) ?_
          refine XOps.s rfl rfl rfl (Q.assign_d rfl) ?_
          refine XOps.nil ?_
          refine W.reg ?_
          refine XOps.s rfl rfl rfl (Q.move_d rfl) ?_
          refine XOps.s rfl rfl rfl (Q.neq rfl rfl) ?_
          refine XOps.nil ?_
          refine W.cond rfl (fun hc64 => ?_) (fun hc64 => ?_)
          · try simp only [Bool.or_eq_true, Bool.or_eq_false_iff, Bool.and_eq_true, Bool.and_eq_false_iff, decide_eq_true_eq, decide_eq_false_iff_not, Bool.not_eq_true', Bool.not_eq_false', Int.not_lt, Int.not_le, List.length_map] at hc64
            have h64 : ckC (paC s) ≠ 0 := by rw [hC]; first | exact hc64 | (simpa using hc64)
            have hE : paE s = ckC (paC s) := by unfold paE; rw [if_neg hp1, if_neg hp2]
            have hV := paV_bad (s := s) (by rw [hE]; exact h64)
            rw [hV, hE, hC]
            refine W.reg ?_
            refine XOps.s rfl rfl rfl (Q.build pl23 tz23 tzd23 rfl) ?_
            refine XOps.s rfl rfl rfl (Q.move_d rfl) ?_
            refine XOps.loud rfl (L.storen (k := 2) ag23 rfl rfl rfl rfl rfl) ?_
            rintro _ _ ⟨rfl, rfl⟩
            refine XOps.s rfl rfl rfl (Q.assign_d rfl) ?_
            refine XOps.nil ?_
            refine W.ret ?_
            exact ⟨_, hs, (.cons (by first | exact .celln 0 ag23 rfl rfl rfl | exact .cell1 0 ag23 rfl rfl rfl | exact .celln 1 ag23 rfl rfl rfl | exact .cell1 1 ag23 rfl rfl rfl | exact .celln 2 ag23 rfl rfl rfl | exact .cell1 2 ag23 rfl rfl rfl | exact .celln 3 ag23 rfl rfl rfl | exact .cell1 3 ag23 rfl rfl rfl | exact .celln 4 ag23 rfl rfl rfl | exact .cell1 4 ag23 rfl rfl rfl | exact .celln 5 ag23 rfl rfl rfl | exact .cell1 5 ag23 rfl rfl rfl) (.cons (.tmp _) .nil)), HLe.skip _ (HLe.skip _ (HLe.skip _ (HLe.refl _))), rfl, rfl⟩
          · try simp only [Bool.or_eq_true, Bool.or_eq_false_iff, Bool.and_eq_true, Bool.and_eq_false_iff, decide_eq_true_eq, decide_eq_false_iff_not, Bool.not_eq_true', Bool.not_eq_false', Int.not_lt, Int.not_le, List.length_map] at hc64
            have h64 : ckC (paC s) = 0 := by rw [hC]; first | exact hc64 | (simpa using hc64)
            have hE : paE s = 0 := by unfold paE; rw [if_neg hp1, if_neg hp2]; exact h64
            have hV : paV s = paC s := if_neg (by omega)
            rw [hV, hE, hC]
            refine W.skip ?_
            refine W.reg ?_
            refine XOps.s rfl rfl rfl (Q.ld_ptrn (k := 0) ag23 rfl rfl rfl) ?_
            refine XOps.loud rfl (L.storen (k := 2) ag23 rfl rfl rfl rfl rfl) ?_
            rintro _ _ ⟨rfl, rfl⟩
            refine XOps.s rfl rfl rfl (Q.assign_d rfl) ?_
            refine XOps.nil ?_
            refine W.ret ?_
            exact ⟨_, hs, (.cons (by first | exact .celln 0 ag23 rfl rfl rfl | exact .cell1 0 ag23 rfl rfl rfl | exact .celln 1 ag23 rfl rfl rfl | exact .cell1 1 ag23 rfl rfl rfl | exact .celln 2 ag23 rfl rfl rfl | exact .cell1 2 ag23 rfl rfl rfl | exact .celln 3 ag23 rfl rfl rfl | exact .cell1 3 ag23 rfl rfl rfl | exact .celln 4 ag23 rfl rfl rfl | exact .cell1 4 ag23 rfl rfl rfl | exact .celln 5 ag23 rfl rfl rfl | exact .cell1 5 ag23 rfl rfl rfl) (.cons (.tmp _) .nil)), HLe.skip _ (HLe.skip _ (HLe.skip _ (HLe.refl _))), rfl, rfl⟩
        · try simp only [Bool.or_eq_true, Bool.or_eq_false_iff, Bool.and_eq_true, Bool.and_eq_false_iff, decide_eq_true_eq, decide_eq_false_iff_not, Bool.not_eq_true', Bool.not_eq_false', Int.not_lt, Int.not_le, List.length_map] at hc54
          have hC : paC s = ⟨(findV (pa s 0)).name, pa s 1, 0, ⟨#[]⟩⟩ := by unfold paC paW; rw [if_neg hn4, if_neg hn4, if_neg (by simp [hc54])]
          refine W.skip ?_
          refine W.seq ?_
          refine W.reg ?_
          refine XOps.s rfl rfl rfl (Q.ld_ptrn (k := 0) ag23 rfl rfl rfl) ?_
          refine XOps.s rfl rfl rfl (Q.call rfl Tryd.func8 go8 rfl (check_c ⟨(findV (pa s 0)).name, pa s 1, 0, ⟨#[]⟩⟩ _ (by dsimp only; omega) (by dsimp only; omega))) ?_
          refine XOps.s rfl rfl rfl (Q.assign_d rfl) ?_
          refine XOps.nil ?_
          refine W.reg ?_
          refine XOps.s rfl rfl rfl (Q.move_d rfl) ?_
          refine XOps.s rfl rfl rfl (Q.neq rfl rfl) ?_
          refine XOps.nil ?_
          refine W.cond rfl (fun hc64 => ?_) (fun hc64 => ?_)
          · try simp only [Bool.or_eq_true, Bool.or_eq_false_iff, Bool.and_eq_true, Bool.and_eq_false_iff, decide_eq_true_eq, decide_eq_false_iff_not, Bool.not_eq_true', Bool.not_eq_false', Int.not_lt, Int.not_le, List.length_map] at hc64
            have h64 : ckC (paC s) ≠ 0 := by rw [hC]; first | exact hc64 | (simpa using hc64)
            have hE : paE s = ckC (paC s) := by unfold paE; rw [if_neg hp1, if_neg hp2]
            have hV := paV_bad (s := s) (by rw [hE]; exact h64)
            rw [hV, hE, hC]
            refine W.reg ?_
            refine XOps.s rfl rfl rfl (Q.build pl23 tz23 tzd23 rfl) ?_
            refine XOps.s rfl rfl rfl (Q.move_d rfl) ?_
            refine XOps.loud rfl (L.storen (k := 2) ag23 rfl rfl rfl rfl rfl) ?_
            rintro _ _ ⟨rfl, rfl⟩
            refine XOps.s rfl rfl rfl (Q.assign_d rfl) ?_
            refine XOps.nil ?_
            refine W.ret ?_
            exact ⟨_, hs, (.cons (by first | exact .celln 0 ag23 rfl rfl rfl | exact .cell1 0 ag23 rfl rfl rfl | exact .celln 1 ag23 rfl rfl rfl | exact .cell1 1 ag23 rfl rfl rfl | exact .celln 2 ag23 rfl rfl rfl | exact .cell1 2 ag23 rfl rfl rfl | exact .celln 3 ag23 rfl rfl rfl | exact .cell1 3 ag23 rfl rfl rfl | exact .celln 4 ag23 rfl rfl rfl | exact .cell1 4 ag23 rfl rfl rfl | exact .celln 5 ag23 rfl rfl rfl | exact .cell1 5 ag23 rfl rfl rfl) (.cons (.tmp _) .nil)), HLe.skip _ (HLe.skip _ (HLe.skip _ (HLe.refl _))), rfl, rfl⟩
          · try simp only [Bool.or_eq_true, Bool.or_eq_false_iff, Bool.and_eq_true, Bool.and_eq_false_iff, decide_eq_true_eq, decide_eq_false_iff_not, Bool.not_eq_true', Bool.not_eq_false', Int.not_lt, Int.not_le, List.length_map] at hc64
            have h64 : ckC (paC s) = 0 := by rw [hC]; first | exact hc64 | (simpa using hc64)
            have hE : paE s = 0 := by unfold paE; rw [if_neg hp1, if_neg hp2]; exact h64
            have hV : paV s = paC s := if_neg (by omega)
            rw [hV, hE, hC]
            refine W.skip ?_
            refine W.reg ?_
            refine XOps.s rfl rfl rfl (Q.ld_ptrn (k := 0) ag23 rfl rfl rfl) ?_
            refine XOps.loud rfl (L.storen (k := 2) ag23 rfl rfl rfl rfl rfl) ?_
            rintro _ _ ⟨rfl, rfl⟩
            refine XOps.s rfl rfl rfl (Q.assign_d rfl) ?_
            refine XOps.nil ?_
            refine W.ret ?_
            exact ⟨_, hs, (.cons (by first | exact .celln 0 ag23 rfl rfl rfl | exact .cell1 0 ag23 rfl rfl rfl | exact .celln 1 ag23 rfl rfl rfl | exact .cell1 1 ag23 rfl rfl rfl | exact .celln 2 ag23 rfl rfl rfl | exact .cell1 2 ag23 rfl rfl rfl | exact .celln 3 ag23 rfl rfl rfl | exact .cell1 3 ag23 rfl rfl rfl | exact .celln 4 ag23 rfl rfl rfl | exact .cell1 4 ag23 rfl rfl rfl | exact .celln 5 ag23 rfl rfl rfl | exact .cell1 5 ag23 rfl rfl rfl) (.cons (.tmp _) .nil)), HLe.skip _ (HLe.skip _ (HLe.skip _ (HLe.refl _))), rfl, rfl⟩

def exS : ByteArray := ⟨#[104, 101, 105, 103, 104, 116, 32, 65, 66, 49, 32, 57, 48, 48, 48]⟩
def exC : CC := ⟨⟨#[104, 101, 105, 103, 104, 116]⟩, ⟨#[65, 66, 49]⟩, 9000, ⟨#[]⟩⟩
theorem ex_e : paE exS = 0 := by kernel_rfl
theorem ex_v : paV exS = exC := by kernel_rfl
theorem exs_c (hs : Hp) : AC P 6 [.d (.str exS)] hs (fun r h => r = .tup [.d (.agg exC.enc), .d (.int .i64 0)] ∧ h = hs) := by
  have h := parse_c exS hs (by decide)
  rw [ex_e, ex_v] at h; exact h

set_option maxHeartbeats 1000000 in
set_option maxRecDepth 100000 in
theorem cfact_c (hs : Hp) : AC P 7 [] hs (fun r h => r = .d (.bool true) ∧ h = hs) := by
  refine AC.of 14 Tryd.func7 rfl rfl rfl ?_
  refine W.reg ?_
  refine XOps.s rfl rfl rfl (Q.assign_d rfl) ?_
  refine XOps.nil ?_
  refine W.reg ?_
  refine XOps.s rfl rfl rfl (Q.call rfl Tryd.func6 go6 rfl (exs_c _)) ?_
  refine XOps.s rfl rfl rfl (Q.move_tup rfl) ?_
  refine XOps.s rfl rfl rfl (Q.extract rfl rfl) ?_
  refine XOps.s rfl rfl rfl (Q.extract rfl rfl) ?_
  (refine XOps.loud rfl (L.alloc tz23 rfl rfl) ?_; rintro _ _ ⟨b1, rfl, rfl⟩)
  refine XOps.loud rfl (L.storen (k := 0) ag23 rfl rfl rfl rfl rfl) ?_
  rintro _ _ ⟨rfl, rfl⟩
  refine XOps.s rfl rfl rfl (Q.assign_d rfl) ?_
  refine XOps.nil ?_
  refine W.reg ?_
  refine XOps.s rfl rfl rfl (Q.move_d rfl) ?_
  refine XOps.s rfl rfl rfl (Q.eql rfl rfl) ?_
  refine XOps.s rfl rfl rfl (Q.move_d rfl) ?_
  refine XOps.gs rfl rfl rfl rfl rfl rfl rfl (fun hg => Q.ld_ptrn (k := 0) ag23 rfl rfl rfl) ?_
  refine XOps.gs rfl rfl rfl rfl rfl rfl rfl (fun hg => Q.build pl23 tz23 tzd23 rfl) ?_
  refine XOps.gs rfl rfl rfl rfl rfl rfl rfl (fun hg => Quiet.open 10 hg rfl (Quiet.open 11 hg rfl (Q.eql_agg eqt23 rfl rfl rfl rfl rfl))) ?_
  refine XOps.s rfl rfl rfl (Q.pick_and rfl rfl rfl (fun h => by first | (rw [h]; rfl) | (rw [hg, h]; rfl) | (simp [h, hg]; done))) ?_
  refine XOps.s rfl rfl rfl (Q.assign_d rfl) ?_
  refine XOps.nil ?_
  refine W.ret ?_
  refine ⟨_, hs, rfl, HLe.skip _ (HLe.refl _), ?_, rfl⟩
  show AV.d (.bool (true && allD (exC.enc.take 4) (exC.enc.take 4))) = _
  rw [same_cc, decide_eq_true rfl]; rfl
end Go.Proofs.YtdddebheolmldaaDoorA
