/- R.Itoa, skywaykeep4.stack. -/
import Derived.Test.YtpdeopgmgeaglaaBase
import Derived.Test.YtpdeopgmgeaglaaWalkB
set_option linter.unusedVariables false
set_option linter.unusedSimpArgs false
set_option linter.unnecessarySimpa false
namespace Go.Proofs.YtpdeopgmgeaglaaA.FWalkC
open Go
theorem ag3 : tAgg P 3 = some ((false, 1)) := by kernel_rfl
theorem ag9 : tAgg P 9 = some ((false, 1)) := by kernel_rfl
theorem ap33 : tApp P 33 = some ((1, 16)) := by kernel_rfl
theorem fl39_0 : tFld P 39 0 = some (0) := by kernel_rfl
theorem go10 : callGo Go.Proofs.Try.f10 = true := by kernel_rfl
theorem go12 : callGo Go.Proofs.Try.f12 = true := by kernel_rfl
theorem go13 : callGo Go.Proofs.Try.f13 = true := by kernel_rfl
theorem go21 : callGo Go.Proofs.Try.f21 = true := by kernel_rfl
theorem go7 : callGo Go.Proofs.Try.f7 = true := by kernel_rfl
theorem go8 : callGo Go.Proofs.Try.f8 = true := by kernel_rfl
theorem go9 : callGo Go.Proofs.Try.f9 = true := by kernel_rfl
theorem ipt23 : isPtr P 23 = true := by kernel_rfl
theorem isl32 : isSl P 32 = true := by kernel_rfl
theorem isl36 : isSl P 36 = true := by kernel_rfl
theorem ist9 : isStr P 9 = true := by kernel_rfl
theorem pl28 : tPl P 28 = some ([(0, 1), (1, 1), (2, 1)]) := by kernel_rfl
theorem sl32 : tSl P 32 = some (1) := by kernel_rfl
theorem sl33 : tSl P 33 = some (1) := by kernel_rfl
theorem sl36 : tSl P 36 = some (3) := by kernel_rfl
theorem tz28 : tZero P 28 = some ([.int .i64 0, .int .i64 0, .int .i64 0]) := by kernel_rfl
theorem tzd28 : cellsD [.int .i64 0, .int .i64 0, .int .i64 0] = some ([.int .i64 0, .int .i64 0, .int .i64 0]) := rfl
theorem zr33 : tZrow P 33 = some ([.string ⟨#[]⟩]) := by kernel_rfl
theorem zrd33 : cellsD [.string ⟨#[]⟩] = some ([.str ⟨#[]⟩]) := rfl
end Go.Proofs.YtpdeopgmgeaglaaA.FWalkC
namespace Go.Proofs.YtpdeopgmgeaglaaA
open Go FWalkC
set_option maxHeartbeats 1000000 in
set_option maxRecDepth 100000 in
theorem itoa_c (n : Nat) (hs : Hp) (hn : n ≤ 1000000) (hz : (itoaS n).size ≤ 1000) : AC P 21 [.d (.int .i64 (n : Int))] hs (fun r h => r = .d (.str (itoaS n)) ∧ h = hs) := by
  refine AC.of 21 Try.func21 rfl rfl rfl ?_
  refine W.reg ?_
  refine XOps.s rfl rfl rfl (Q.assign_d rfl) ?_
  refine XOps.nil ?_
  refine W.reg ?_
  refine XOps.s rfl rfl rfl (Q.assign_d rfl) ?_
  refine XOps.nil ?_
  refine W.seq ?_
  refine W.block ?_
  refine W.loop (ι := Nat × Nat × ByteArray) (fun p => [(0, .d (.int .i64 (p.2.1 : Nat))), (3, .d (.str p.2.2))]) (fun p => hs) (fun p => itoaR p.1 p.2.1 p.2.2 = itoaS n ∧ p.2.1 + (if seq p.2.2 ⟨#[]⟩ = true then 1 else 0) ≤ p.1 ∧ p.2.1 ≤ 1000000) (fun p => p.1) (n + 1, n, ⟨#[]⟩) ?_ ?_ ?_ ?_
  · exact ⟨rfl, by simp [seq_refl], hn⟩
  · exact ⟨by first | rfl | exact int_eq (by omega) | exact len_eq (by simp) | exact int_eq (by simp; done), by first | rfl | exact int_eq (by omega) | exact len_eq (by simp) | exact int_eq (by simp; done), trivial⟩
  · repeat (first | exact HLe.refl _ | refine HLe.cons' (by first | rfl | (simp; done)) ?_ | refine HLe.pick 1 rfl (by first | rfl | (simp; done)) ?_ | refine HLe.pick 2 rfl (by first | rfl | (simp; done)) ?_ | refine HLe.pick 3 rfl (by first | rfl | (simp; done)) ?_ | refine HLe.pick 4 rfl (by first | rfl | (simp; done)) ?_ | refine HLe.pick 5 rfl (by first | rfl | (simp; done)) ?_ | refine HLe.skip _ ?_)
  · rintro ⟨f, m, s⟩ hI
    try dsimp only at hI ⊢
    refine W.seq ?_
    refine W.reg ?_
    refine XOps.s rfl rfl rfl (Q.move_d rfl) ?_
    refine XOps.s rfl rfl rfl (Q.gtr rfl rfl) ?_
    refine XOps.s rfl rfl rfl (Q.move_d rfl) ?_
    refine XOps.gs rfl rfl rfl rfl rfl rfl rfl (fun hg => Q.move_d rfl) ?_
    refine XOps.gs rfl rfl rfl rfl rfl rfl rfl (fun hg => Quiet.open 7 hg rfl (Q.eql_str rfl rfl)) ?_
    refine XOps.s rfl rfl rfl (Q.pick_or rfl rfl rfl (fun h => by first | (rw [h]; rfl) | (rw [hg, h]; rfl) | (simp [h, hg]; done))) ?_
    refine XOps.nil ?_
    refine W.cond rfl (fun hc9 => ?_) (fun hc9 => ?_)
    · try simp only [Bool.or_eq_true, Bool.or_eq_false_iff, Bool.and_eq_true, Bool.and_eq_false_iff, decide_eq_true_eq, decide_eq_false_iff_not, Bool.not_eq_true', Bool.not_eq_false', Int.not_lt, Int.not_le, List.length_map] at hc9
      have hne : ¬ (m = 0 ∧ seq s ⟨#[]⟩ = false) := fun ⟨h1, h2⟩ => by
        rcases hc9 with h | h
        · omega
        · unfold seq at h2; rw [h2] at h; cases h
      have hf : 1 ≤ f := by
        have h2 := hI.2.1
        split at h2
        · omega
        · rename_i h3
          have : m ≠ 0 := fun h0 => hne ⟨h0, eq_false_of_ne_true h3⟩
          omega
      have hstep : itoaR f m s = itoaR (f - 1) (m / 10) (digs.extract (m % 10) (m % 10 + 1) ++ s) := by
        obtain ⟨g, rfl⟩ : ∃ g, f = g + 1 := ⟨f - 1, by omega⟩
        rw [itoaR, if_neg hne]; rfl
      have hds : (⟨#[48, 49, 50, 51, 52, 53, 54, 55, 56, 57]⟩ : ByteArray).size = 10 := rfl
      have hcut : ((⟨#[48, 49, 50, 51, 52, 53, 54, 55, 56, 57]⟩ : ByteArray).extract ((m : Int) % 10).toNat ((m : Int) % 10 + 1).toNat) = digs.extract (m % 10) (m % 10 + 1) := by rw [show ((m : Int) % 10).toNat = m % 10 by omega, show ((m : Int) % 10 + 1).toNat = m % 10 + 1 by omega]; rfl
      have hm6 := hI.2.2
      refine W.skip ?_
      refine W.block ?_
      refine W.reg ?_
      refine XOps.s rfl rfl rfl (Q.move_d rfl) ?_
      refine XOps.s rfl rfl rfl (Q.rem rfl rfl (by decide) (wrem (by omega))) ?_
      refine XOps.s rfl rfl rfl (Q.move_d rfl) ?_
      refine XOps.s rfl rfl rfl (Q.rem rfl rfl (by decide) (wrem (by omega))) ?_
      refine XOps.s rfl rfl rfl (Q.add rfl rfl (wi64 (by first | omega | (dsimp only; omega) | (simp only [List.length_map]; omega)) (by first | omega | (dsimp only; omega) | (simp only [List.length_map]; omega)))) ?_
      refine XOps.s rfl rfl rfl (Q.cut_str ist9 rfl rfl rfl (by omega) (by omega) (by omega)) ?_
      refine XOps.s rfl rfl rfl (Q.move_d rfl) ?_
      refine XOps.s rfl rfl rfl (Q.adds rfl rfl (by have := itoaR_size (f - 1) (m / 10) (digs.extract (m % 10) (m % 10 + 1) ++ s); have h2 := ByteArray.size_append (a := digs.extract (m % 10) (m % 10 + 1)) (b := s); rw [← hstep, hI.1] at this; rw [hcut]; omega)) ?_
      refine XOps.s rfl rfl rfl (Q.assign_d rfl) ?_
      refine XOps.nil ?_
      refine W.region ?_
      refine XOps.s rfl rfl rfl (Q.move_d rfl) ?_
      refine XOps.s rfl rfl rfl (Q.quo rfl rfl (by decide) (wquo (by omega) (by omega) (by omega))) ?_
      refine XOps.s rfl rfl rfl (Q.assign_d rfl) ?_
      refine XOps.nil ?_
      refine ⟨(f - 1, m / 10, digs.extract (m % 10) (m % 10 + 1) ++ s), ?_, ?_, ?_, ?_⟩
      · refine ⟨by rw [← hstep]; exact hI.1, ?_, ?_⟩
        · dsimp only; rw [dig_ne, if_neg (by decide)]; omega
        · dsimp only; omega
      · dsimp only; omega
      · exact ⟨by exact int_eq (by dsimp only; omega), by (rw [hcut]; rfl), trivial⟩
      · repeat (first | exact HLe.refl _ | refine HLe.cons' (by first | rfl | (simp; done)) ?_ | refine HLe.pick 1 rfl (by first | rfl | (simp; done)) ?_ | refine HLe.pick 2 rfl (by first | rfl | (simp; done)) ?_ | refine HLe.pick 3 rfl (by first | rfl | (simp; done)) ?_ | refine HLe.pick 4 rfl (by first | rfl | (simp; done)) ?_ | refine HLe.pick 5 rfl (by first | rfl | (simp; done)) ?_ | refine HLe.skip _ ?_)
    · try simp only [Bool.or_eq_true, Bool.or_eq_false_iff, Bool.and_eq_true, Bool.and_eq_false_iff, decide_eq_true_eq, decide_eq_false_iff_not, Bool.not_eq_true', Bool.not_eq_false', Int.not_lt, Int.not_le, List.length_map] at hc9
      have hst := itoaR_stop f (n := m) (s := s) ⟨by omega, by unfold seq; simpa using hc9.2⟩
      rw [hst] at hI
      rw [← hI.1]
      refine W.exit ?_
      refine W.reg ?_
      refine XOps.s rfl rfl rfl (Q.move_d rfl) ?_
      refine XOps.s rfl rfl rfl (Q.assign_d rfl) ?_
      refine XOps.nil ?_
      refine W.ret ?_
      refine ⟨_, hs, rfl, by repeat (first | exact HLe.refl _ | refine HLe.cons' (by first | rfl | (simp; done)) ?_ | refine HLe.pick 1 rfl (by first | rfl | (simp; done)) ?_ | refine HLe.pick 2 rfl (by first | rfl | (simp; done)) ?_ | refine HLe.pick 3 rfl (by first | rfl | (simp; done)) ?_ | refine HLe.pick 4 rfl (by first | rfl | (simp; done)) ?_ | refine HLe.pick 5 rfl (by first | rfl | (simp; done)) ?_ | refine HLe.skip _ ?_), ?_, rfl⟩
      rfl

theorem cut30 {l : List Int} : ((l.take (min (((l.map nE).length : Nat) : Int) 30).toNat).drop (0 : Int).toNat).map nE = (l.take (min l.length 30)).map nE := by
  rw [List.length_map, show (min ((l.length : Nat) : Int) 30).toNat = min l.length 30 by omega]; rfl

set_option maxHeartbeats 1000000 in
set_option maxRecDepth 100000 in
theorem stack_c (l : List Int) (hs : Hp) (hL : l.length ≤ 140737488351232) : AC P 11 [.d (slN l)] hs (fun r h => ∃ b id i o, r = .tup [.ptr b 0, .vs i 0 (stK l (min l.length 30)).2.1.length 1, .vs o 0 (stK l (min l.length 30)).2.2.length 1] ∧ h = stH b (stK l (min l.length 30)).1 id ((i, .lst 1 ((stK l (min l.length 30)).2.1.map sE)) :: (o, .lst 1 ((stK l (min l.length 30)).2.2.map sE)) :: hs)) := by
  refine AC.of 94 Try.func11 rfl rfl rfl ?_
  refine W.reg ?_
  refine XOps.s rfl rfl rfl (Q.assign_d rfl) ?_
  refine XOps.s rfl rfl rfl (Q.assign_nilsl rfl) ?_
  refine XOps.s rfl rfl rfl (Q.assign_nilsl rfl) ?_
  refine XOps.nil ?_
  refine W.reg ?_
  refine XOps.s rfl rfl rfl (Q.build pl28 tz28 tzd28 rfl) ?_
  (refine XOps.loud rfl (L.call rfl Try.func8 go8 rfl (new_c 3000 7000 1000 hs (by decide) (by decide) (by decide)) rfl) ?_; rintro _ _ ⟨_, rfl, b, id0, rfl, rfl⟩)
  refine XOps.s rfl rfl rfl (Q.move_tup rfl) ?_
  refine XOps.s rfl rfl rfl (Q.extract rfl rfl) ?_
  refine XOps.s rfl rfl rfl (Q.extract rfl rfl) ?_
  refine XOps.s rfl rfl rfl (Q.assign_ptr rfl) ?_
  refine XOps.s rfl rfl rfl (Q.assign_d rfl) ?_
  refine XOps.nil ?_
  refine W.seq ?_
  refine W.reg ?_
  refine XOps.s rfl rfl rfl (Q.move_d rfl) ?_
  refine XOps.s rfl rfl rfl (Q.neq rfl rfl) ?_
  refine XOps.s rfl rfl rfl (Q.move_d rfl) ?_
  refine XOps.gs rfl rfl rfl rfl rfl rfl rfl (fun hg => Q.move_ptr rfl) ?_
  refine XOps.gs rfl rfl rfl rfl rfl rfl rfl (fun hg => Quiet.open 25 hg rfl (Q.eql_ptr ipt23 rfl rfl)) ?_
  refine XOps.s rfl rfl rfl (Q.pick_or rfl rfl rfl (fun h => by first | (rw [h]; rfl) | (rw [hg, h]; rfl) | (simp [h, hg]; done))) ?_
  refine XOps.nil ?_
  refine W.cond rfl (fun hc27 => ?_) (fun hc27 => ?_)
  · try simp only [Bool.or_eq_true, Bool.or_eq_false_iff, Bool.and_eq_true, Bool.and_eq_false_iff, decide_eq_true_eq, decide_eq_false_iff_not, Bool.not_eq_true', Bool.not_eq_false', Int.not_lt, Int.not_le, List.length_map] at hc27
    exact absurd hc27 (by simp)
  · try simp only [Bool.or_eq_true, Bool.or_eq_false_iff, Bool.and_eq_true, Bool.and_eq_false_iff, decide_eq_true_eq, decide_eq_false_iff_not, Bool.not_eq_true', Bool.not_eq_false', Int.not_lt, Int.not_le, List.length_map] at hc27
    refine W.skip ?_
    refine W.reg ?_
    refine XOps.s rfl rfl rfl (Q.assign_nilsl rfl) ?_
    refine XOps.s rfl rfl rfl (Q.assign_nilsl rfl) ?_
    refine XOps.nil ?_
    refine W.seq ?_
    refine W.ghost 7 1 (by decide) rfl (by decide) (fun i0 => ?_)
    refine W.ghost 8 1 (by decide) rfl (by decide) (fun o0 => ?_)
    refine W.reg ?_
    refine XOps.s rfl rfl rfl (Q.move_d rfl) ?_
    refine XOps.s rfl rfl rfl (Q.move_d rfl) ?_
    refine XOps.s rfl rfl rfl (Q.len_sl isl32 rfl) ?_
    refine XOps.s rfl rfl rfl (Q.mini rfl rfl) ?_
    refine XOps.s rfl rfl rfl (Q.cut_slm sl32 rfl rfl rfl (by omega) (by omega) (by simp; omega)) ?_
    refine XOps.s rfl rfl rfl (Q.len_sl isl32 rfl) ?_
    refine XOps.s rfl rfl rfl (Q.move_d rfl) ?_
    refine XOps.nil ?_
    refine W.block ?_
    refine W.loop (ι := Nat × Nat × Nat × Nat) (fun p => [(5, .ptr b 0), (7, .vs p.2.2.1 0 (stK l p.1).2.1.length 1), (8, .vs p.2.2.2 0 (stK l p.1).2.2.length 1), (32, .d (.sl 1 ((l.take (min l.length 30)).map nE))), (33, .d (.int .i64 (min l.length 30 : Nat))), (34, .d (.int .i64 p.1))]) (fun p => stH b (stK l p.1).1 p.2.1 ((p.2.2.1, .lst 1 ((stK l p.1).2.1.map sE)) :: (p.2.2.2, .lst 1 ((stK l p.1).2.2.map sE)) :: hs)) (fun p => p.1 ≤ min l.length 30) (fun p => min l.length 30 - p.1) (0, id0, i0, o0) ?_ ?_ ?_ ?_
    · exact Nat.zero_le _
    · exact ⟨by first | rfl | exact int_eq (by omega) | exact len_eq (by simp) | exact int_eq (by simp; done), by first | rfl | exact int_eq (by omega) | exact len_eq (by simp) | exact int_eq (by simp; done), by first | rfl | exact int_eq (by omega) | exact len_eq (by simp) | exact int_eq (by simp; done), by exact congrArg (fun z => AV.d (.sl 1 z)) cut30, by exact len_eq (by simp; omega), by first | rfl | exact int_eq (by omega) | exact len_eq (by simp) | exact int_eq (by simp; done), trivial⟩
    · repeat (first | exact HLe.refl _ | refine HLe.cons' (by first | rfl | (simp [sE, fName, HSt.cells, Lv.enc]; done)) ?_ | refine HLe.pick 1 rfl (by first | rfl | (simp [sE, fName, HSt.cells, Lv.enc]; done)) ?_ | refine HLe.pick 2 rfl (by first | rfl | (simp [sE, fName, HSt.cells, Lv.enc]; done)) ?_ | refine HLe.pick 3 rfl (by first | rfl | (simp [sE, fName, HSt.cells, Lv.enc]; done)) ?_ | refine HLe.pick 4 rfl (by first | rfl | (simp [sE, fName, HSt.cells, Lv.enc]; done)) ?_ | refine HLe.pick 5 rfl (by first | rfl | (simp [sE, fName, HSt.cells, Lv.enc]; done)) ?_ | refine HLe.skip _ ?_)
    · rintro ⟨k, id, i, o⟩ hk
      try dsimp only at hk ⊢
      refine W.reg ?_
      refine XOps.s rfl rfl rfl (Q.lss rfl rfl) ?_
      refine XOps.nil ?_
      refine W.seq ?_
      refine W.cond rfl (fun hc35 => ?_) (fun hc35 => ?_)
      · try simp only [Bool.or_eq_true, Bool.or_eq_false_iff, Bool.and_eq_true, Bool.and_eq_false_iff, decide_eq_true_eq, decide_eq_false_iff_not, Bool.not_eq_true', Bool.not_eq_false', Int.not_lt, Int.not_le, List.length_map] at hc35
        obtain ⟨x, hx⟩ : ∃ x, (l.take (min l.length 30))[k]? = some x := ⟨_, List.getElem?_eq_getElem (by simp; omega)⟩
        have hgd : l.getD k 0 = x := by rw [List.getElem?_take] at hx; split at hx <;> first | (cases hx; done) | simp [List.getD_eq_getElem?_getD, hx]
        have hsk := stK_ok l k (by omega)
        have hok := hsk.ok (by omega)
        have hin := hsk.inl
        have hout := hsk.outl
        have hst : stK l (k + 1) = skStep (stK l k) k (cutI x 0 7) := by rw [stK, hgd]
        have hcb := cutI_bounds x (show (0 : Int) ≤ 7 by decide)
        refine W.skip ?_
        refine W.seq ?_
        refine W.block ?_
        refine W.reg ?_
        refine XOps.s rfl rfl rfl (Q.move_d rfl) ?_
        refine XOps.s rfl rfl rfl (Q.idx_sl sl32 (by decide) rfl rfl (by first | omega | (simp only [List.length_map]; omega)) (by first | exact map_at hx | exact hrow)) ?_
        refine XOps.s rfl rfl rfl (Q.ld_dp ag3 rfl rfl) ?_
        refine XOps.s rfl rfl rfl (Q.assign_d rfl) ?_
        refine XOps.s rfl rfl rfl (Q.assign_d rfl) ?_
        refine XOps.nil ?_
        refine W.reg ?_
        refine XOps.s rfl rfl rfl (Q.move_d rfl) ?_
        refine XOps.s rfl rfl rfl (Q.call rfl Try.func7 go7 rfl (cut_c x 0 7 _ (by decide) (by decide) (by decide))) ?_
        refine XOps.s rfl rfl rfl (Q.assign_d rfl) ?_
        refine XOps.nil ?_
        refine W.block ?_
        refine W.reg ?_
        refine XOps.s rfl rfl rfl (Q.move_d rfl) ?_
        refine XOps.s rfl rfl rfl (Q.lss rfl rfl) ?_
        refine XOps.s rfl rfl rfl (Q.assign_d rfl) ?_
        refine XOps.nil ?_
        refine W.cond rfl (fun hc65 => ?_) (fun hc65 => ?_)
        · try simp only [Bool.or_eq_true, Bool.or_eq_false_iff, Bool.and_eq_true, Bool.and_eq_false_iff, decide_eq_true_eq, decide_eq_false_iff_not, Bool.not_eq_true', Bool.not_eq_false', Int.not_lt, Int.not_le, List.length_map] at hc65
          unfold skStep at hst
          rw [if_pos hc65] at hst
          refine W.reg ?_
          refine XOps.s rfl rfl rfl (Q.move_d rfl) ?_
          refine XOps.s rfl rfl rfl (Q.call rfl Try.func21 go21 rfl (itoa_c k _ (by omega) (by have := itoaS_small k (by omega); omega))) ?_
          refine XOps.s rfl rfl rfl (Q.adds rfl rfl (by have := itoaS_small k (by omega); have h1 : (⟨#[70]⟩ : ByteArray).size = 1 := rfl; omega)) ?_
          refine XOps.s rfl rfl rfl (Q.assign_d rfl) ?_
          refine XOps.nil ?_
          refine W.reg ?_
          refine XOps.s rfl rfl rfl (Q.move_ptr rfl) ?_
          refine XOps.s rfl rfl rfl (Q.move_d rfl) ?_
          refine XOps.s rfl rfl rfl (Q.move_d rfl) ?_
          (refine XOps.loud rfl (L.call rfl Try.func9 go9 rfl (enter_c b id (stK l k).1 (fName k) k _ hok (by have := itoaS_small k (by omega); unfold fName; rw [ByteArray.size_append]; have h1 : (⟨#[70]⟩ : ByteArray).size = 1 := rfl; omega)) rfl) ?_; rintro _ _ ⟨_, rfl, id2, rfl, rfl⟩)
          refine XOps.s rfl rfl rfl (Q.move_tup rfl) ?_
          refine XOps.s rfl rfl rfl (Q.extract rfl rfl) ?_
          refine XOps.s rfl rfl rfl (Q.extract rfl rfl) ?_
          refine XOps.s rfl rfl rfl (Q.assign_d rfl) ?_
          refine XOps.s rfl rfl rfl (Q.assign_d rfl) ?_
          refine XOps.nil ?_
          refine W.reg ?_
          refine XOps.s rfl rfl rfl (Q.move_d rfl) ?_
          refine XOps.s rfl rfl rfl (Q.eql rfl rfl) ?_
          refine XOps.nil ?_
          refine W.cond rfl (fun hc79 => ?_) (fun hc79 => ?_)
          · try simp only [Bool.or_eq_true, Bool.or_eq_false_iff, Bool.and_eq_true, Bool.and_eq_false_iff, decide_eq_true_eq, decide_eq_false_iff_not, Bool.not_eq_true', Bool.not_eq_false', Int.not_lt, Int.not_le, List.length_map] at hc79
            rw [if_pos hc79] at hst
            refine W.region ?_
            refine XOps.s rfl rfl rfl (Q.move_vs rfl) ?_
            refine XOps.s rfl rfl rfl (Q.move_d rfl) ?_
            refine XOps.s rfl rfl rfl (Q.bsl1 sl33 zr33 rfl zrd33 rfl rfl) ?_
            refine XOps.loud rfl (L.app (k := 2) ap33 rfl rfl (by first | rfl | (simp [List.length_map]; done)) rfl (by simp; omega) rfl) ?_
            rintro _ _ ⟨v83, rfl, rfl⟩
            refine XOps.s rfl rfl rfl (Q.assign_vs rfl) ?_
            refine XOps.nil ?_
            refine W.region ?_
            refine XOps.s rfl rfl rfl (Q.add rfl rfl (wi64 (by first | omega | (dsimp only; omega) | (simp only [List.length_map]; omega)) (by first | omega | (dsimp only; omega) | (simp only [List.length_map]; omega)))) ?_
            refine XOps.s rfl rfl rfl (Q.move_d rfl) ?_
            refine XOps.nil ?_
            refine ⟨(k + 1, id2, v83, o), ?_, ?_, ?_, ?_⟩
            · show k + 1 ≤ min l.length 30; omega
            · show min l.length 30 - (k + 1) < min l.length 30 - k; omega
            · exact ⟨by first | rfl | exact int_eq (by omega) | exact len_eq (by simp) | exact int_eq (by simp; done), by first | rfl | (rw [hst]; rfl) | (rw [hst]; dsimp only; exact vs_eq (by simp)) | (rw [hst]; dsimp only), by first | rfl | (rw [hst]; rfl) | (rw [hst]; dsimp only; exact vs_eq (by simp)) | (rw [hst]; dsimp only), by first | rfl | exact int_eq (by omega) | exact len_eq (by simp) | exact int_eq (by simp; done), by first | rfl | exact int_eq (by omega) | exact len_eq (by simp) | exact int_eq (by simp; done), by first | rfl | exact int_eq (by omega) | exact len_eq (by simp) | exact int_eq (by simp; done), trivial⟩
            · try dsimp only
              rw [hst]
              try dsimp only
              repeat (first | exact HLe.refl _ | refine HLe.cons' (by first | rfl | (simp [sE, fName, HSt.cells, Lv.enc]; done)) ?_ | refine HLe.pick 1 rfl (by first | rfl | (simp [sE, fName, HSt.cells, Lv.enc]; done)) ?_ | refine HLe.pick 2 rfl (by first | rfl | (simp [sE, fName, HSt.cells, Lv.enc]; done)) ?_ | refine HLe.pick 3 rfl (by first | rfl | (simp [sE, fName, HSt.cells, Lv.enc]; done)) ?_ | refine HLe.pick 4 rfl (by first | rfl | (simp [sE, fName, HSt.cells, Lv.enc]; done)) ?_ | refine HLe.pick 5 rfl (by first | rfl | (simp [sE, fName, HSt.cells, Lv.enc]; done)) ?_ | refine HLe.skip _ ?_)
          · try simp only [Bool.or_eq_true, Bool.or_eq_false_iff, Bool.and_eq_true, Bool.and_eq_false_iff, decide_eq_true_eq, decide_eq_false_iff_not, Bool.not_eq_true', Bool.not_eq_false', Int.not_lt, Int.not_le, List.length_map] at hc79
            rw [if_neg hc79] at hst
            refine W.skip ?_
            refine W.region ?_
            refine XOps.s rfl rfl rfl (Q.add rfl rfl (wi64 (by first | omega | (dsimp only; omega) | (simp only [List.length_map]; omega)) (by first | omega | (dsimp only; omega) | (simp only [List.length_map]; omega)))) ?_
            refine XOps.s rfl rfl rfl (Q.move_d rfl) ?_
            refine XOps.nil ?_
            refine ⟨(k + 1, id2, i, o), ?_, ?_, ?_, ?_⟩
            · show k + 1 ≤ min l.length 30; omega
            · show min l.length 30 - (k + 1) < min l.length 30 - k; omega
            · exact ⟨by first | rfl | exact int_eq (by omega) | exact len_eq (by simp) | exact int_eq (by simp; done), by first | rfl | (rw [hst]; rfl) | (rw [hst]; dsimp only; exact vs_eq (by simp)) | (rw [hst]; dsimp only), by first | rfl | (rw [hst]; rfl) | (rw [hst]; dsimp only; exact vs_eq (by simp)) | (rw [hst]; dsimp only), by first | rfl | exact int_eq (by omega) | exact len_eq (by simp) | exact int_eq (by simp; done), by first | rfl | exact int_eq (by omega) | exact len_eq (by simp) | exact int_eq (by simp; done), by first | rfl | exact int_eq (by omega) | exact len_eq (by simp) | exact int_eq (by simp; done), trivial⟩
            · try dsimp only
              rw [hst]
              try dsimp only
              repeat (first | exact HLe.refl _ | refine HLe.cons' (by first | rfl | (simp [sE, fName, HSt.cells, Lv.enc]; done)) ?_ | refine HLe.pick 1 rfl (by first | rfl | (simp [sE, fName, HSt.cells, Lv.enc]; done)) ?_ | refine HLe.pick 2 rfl (by first | rfl | (simp [sE, fName, HSt.cells, Lv.enc]; done)) ?_ | refine HLe.pick 3 rfl (by first | rfl | (simp [sE, fName, HSt.cells, Lv.enc]; done)) ?_ | refine HLe.pick 4 rfl (by first | rfl | (simp [sE, fName, HSt.cells, Lv.enc]; done)) ?_ | refine HLe.pick 5 rfl (by first | rfl | (simp [sE, fName, HSt.cells, Lv.enc]; done)) ?_ | refine HLe.skip _ ?_)
        · try simp only [Bool.or_eq_true, Bool.or_eq_false_iff, Bool.and_eq_true, Bool.and_eq_false_iff, decide_eq_true_eq, decide_eq_false_iff_not, Bool.not_eq_true', Bool.not_eq_false', Int.not_lt, Int.not_le, List.length_map] at hc65
          unfold skStep at hst
          rw [if_neg (by omega)] at hst
          refine W.reg ?_
          refine XOps.s rfl rfl rfl (Q.move_d rfl) ?_
          refine XOps.s rfl rfl rfl (Q.eql rfl rfl) ?_
          refine XOps.s rfl rfl rfl (Q.assign_d rfl) ?_
          refine XOps.nil ?_
          refine W.cond rfl (fun hc84 => ?_) (fun hc84 => ?_)
          · try simp only [Bool.or_eq_true, Bool.or_eq_false_iff, Bool.and_eq_true, Bool.and_eq_false_iff, decide_eq_true_eq, decide_eq_false_iff_not, Bool.not_eq_true', Bool.not_eq_false', Int.not_lt, Int.not_le, List.length_map] at hc84
            rw [if_pos hc84] at hst
            refine W.region ?_
            refine XOps.s rfl rfl rfl (Q.move_ptr rfl) ?_
            refine XOps.s rfl rfl rfl (Q.move_d rfl) ?_
            (refine XOps.loud rfl (L.call rfl Try.func13 go13 rfl (down_c b id (stK l k).1 k _ hok) rfl) ?_; rintro _ _ ⟨_, rfl, rfl, rfl⟩)
            refine XOps.nil ?_
            refine W.region ?_
            refine XOps.s rfl rfl rfl (Q.add rfl rfl (wi64 (by first | omega | (dsimp only; omega) | (simp only [List.length_map]; omega)) (by first | omega | (dsimp only; omega) | (simp only [List.length_map]; omega)))) ?_
            refine XOps.s rfl rfl rfl (Q.move_d rfl) ?_
            refine XOps.nil ?_
            refine ⟨(k + 1, id, i, o), ?_, ?_, ?_, ?_⟩
            · show k + 1 ≤ min l.length 30; omega
            · show min l.length 30 - (k + 1) < min l.length 30 - k; omega
            · exact ⟨by first | rfl | exact int_eq (by omega) | exact len_eq (by simp) | exact int_eq (by simp; done), by first | rfl | (rw [hst]; rfl) | (rw [hst]; dsimp only; exact vs_eq (by simp)) | (rw [hst]; dsimp only), by first | rfl | (rw [hst]; rfl) | (rw [hst]; dsimp only; exact vs_eq (by simp)) | (rw [hst]; dsimp only), by first | rfl | exact int_eq (by omega) | exact len_eq (by simp) | exact int_eq (by simp; done), by first | rfl | exact int_eq (by omega) | exact len_eq (by simp) | exact int_eq (by simp; done), by first | rfl | exact int_eq (by omega) | exact len_eq (by simp) | exact int_eq (by simp; done), trivial⟩
            · try dsimp only
              rw [hst]
              try dsimp only
              repeat (first | exact HLe.refl _ | refine HLe.cons' (by first | rfl | (simp [sE, fName, HSt.cells, Lv.enc]; done)) ?_ | refine HLe.pick 1 rfl (by first | rfl | (simp [sE, fName, HSt.cells, Lv.enc]; done)) ?_ | refine HLe.pick 2 rfl (by first | rfl | (simp [sE, fName, HSt.cells, Lv.enc]; done)) ?_ | refine HLe.pick 3 rfl (by first | rfl | (simp [sE, fName, HSt.cells, Lv.enc]; done)) ?_ | refine HLe.pick 4 rfl (by first | rfl | (simp [sE, fName, HSt.cells, Lv.enc]; done)) ?_ | refine HLe.pick 5 rfl (by first | rfl | (simp [sE, fName, HSt.cells, Lv.enc]; done)) ?_ | refine HLe.skip _ ?_)
          · try simp only [Bool.or_eq_true, Bool.or_eq_false_iff, Bool.and_eq_true, Bool.and_eq_false_iff, decide_eq_true_eq, decide_eq_false_iff_not, Bool.not_eq_true', Bool.not_eq_false', Int.not_lt, Int.not_le, List.length_map] at hc84
            rw [if_neg hc84] at hst
            refine W.reg ?_
            refine XOps.s rfl rfl rfl (Q.move_ptr rfl) ?_
            (refine XOps.loud rfl (L.call rfl Try.func12 go12 rfl (list_c b id (stK l k).1 _ hok.len) rfl) ?_; rintro _ _ ⟨_, rfl, v, rfl, rfl⟩)
            refine XOps.s rfl rfl rfl (Q.assign_vs rfl) ?_
            refine XOps.nil ?_
            refine W.reg ?_
            refine XOps.s rfl rfl rfl (Q.move_vs rfl) ?_
            refine XOps.s rfl rfl rfl (Q.len_vs isl36 rfl) ?_
            refine XOps.s rfl rfl rfl (Q.gtr rfl rfl) ?_
            refine XOps.nil ?_
            refine W.cond rfl (fun hc45 => ?_) (fun hc45 => ?_)
            · try simp only [Bool.or_eq_true, Bool.or_eq_false_iff, Bool.and_eq_true, Bool.and_eq_false_iff, decide_eq_true_eq, decide_eq_false_iff_not, Bool.not_eq_true', Bool.not_eq_false', Int.not_lt, Int.not_le, List.length_map] at hc45
              obtain ⟨x, rr, hxr⟩ : ∃ x rr, (stK l k).1.l = x :: rr := by
                cases h : (stK l k).1.l with
                | nil => rw [h] at hc45; simp at hc45
                | cons x r => exact ⟨x, r, rfl⟩
              rw [hxr] at hst
              dsimp only at hst
              have hrow : ((stK l k).1.l.map Lv.enc)[0 + (0 : Int).toNat]? = some x.enc := by rw [hxr]; rfl
              refine W.reg ?_
              refine XOps.s rfl rfl rfl (Q.move_ptr rfl) ?_
              refine XOps.s rfl rfl rfl (Q.move_vs rfl) ?_
              refine XOps.s rfl rfl rfl (Q.idx_vs (kk := 0) sl36 rfl rfl rfl (by omega) (by first | omega | (dsimp only; omega))) ?_
              refine XOps.s rfl rfl rfl (Q.fld_ep fl39_0 rfl) ?_
              refine XOps.s rfl rfl rfl (Q.ld_ep (k := 0) ag9 rfl rfl (by first | exact map_at hx | exact hrow) rfl) ?_
              refine XOps.s rfl rfl rfl (Q.move_d rfl) ?_
              (refine XOps.loud rfl (L.call rfl Try.func10 go10 rfl (AC.le (leave_c b id (stK l k).1 x.call k ((v, .lst 3 ((stK l k).1.l.map Lv.enc)) :: (i, .lst 1 ((stK l k).2.1.map sE)) :: (o, .lst 1 ((stK l k).2.2.map sE)) :: hs) hok) (HLe.perm (rot3 _ _ _ _))) rfl) ?_; rintro _ _ ⟨_, rfl, id2, rfl, rfl⟩)
              refine XOps.s rfl rfl rfl (Q.move_tup rfl) ?_
              refine XOps.s rfl rfl rfl (Q.extract rfl rfl) ?_
              refine XOps.s rfl rfl rfl (Q.extract rfl rfl) ?_
              refine XOps.s rfl rfl rfl (Q.assign_d rfl) ?_
              refine XOps.s rfl rfl rfl (Q.assign_d rfl) ?_
              refine XOps.nil ?_
              refine W.reg ?_
              refine XOps.s rfl rfl rfl (Q.move_d rfl) ?_
              refine XOps.s rfl rfl rfl (Q.eql rfl rfl) ?_
              refine XOps.nil ?_
              refine W.cond rfl (fun hc57 => ?_) (fun hc57 => ?_)
              · try simp only [Bool.or_eq_true, Bool.or_eq_false_iff, Bool.and_eq_true, Bool.and_eq_false_iff, decide_eq_true_eq, decide_eq_false_iff_not, Bool.not_eq_true', Bool.not_eq_false', Int.not_lt, Int.not_le, List.length_map] at hc57
                rw [if_pos hc57] at hst
                refine W.region ?_
                refine XOps.s rfl rfl rfl (Q.move_vs rfl) ?_
                refine XOps.s rfl rfl rfl (Q.move_vs rfl) ?_
                refine XOps.s rfl rfl rfl (Q.idx_vs (kk := 2) sl36 rfl rfl rfl (by omega) (by first | omega | (dsimp only; omega))) ?_
                refine XOps.s rfl rfl rfl (Q.fld_ep fl39_0 rfl) ?_
                refine XOps.s rfl rfl rfl (Q.ld_ep (k := 2) ag9 rfl rfl (by first | exact map_at hx | exact hrow) rfl) ?_
                refine XOps.s rfl rfl rfl (Q.bsl1 sl33 zr33 rfl zrd33 rfl rfl) ?_
                refine XOps.loud rfl (L.app (k := 4) ap33 rfl rfl (by first | rfl | (simp [List.length_map]; done)) rfl (by simp; omega) rfl) ?_
                rintro _ _ ⟨v64, rfl, rfl⟩
                refine XOps.s rfl rfl rfl (Q.assign_vs rfl) ?_
                refine XOps.nil ?_
                refine W.region ?_
                refine XOps.s rfl rfl rfl (Q.add rfl rfl (wi64 (by first | omega | (dsimp only; omega) | (simp only [List.length_map]; omega)) (by first | omega | (dsimp only; omega) | (simp only [List.length_map]; omega)))) ?_
                refine XOps.s rfl rfl rfl (Q.move_d rfl) ?_
                refine XOps.nil ?_
                refine ⟨(k + 1, id2, i, v64), ?_, ?_, ?_, ?_⟩
                · show k + 1 ≤ min l.length 30; omega
                · show min l.length 30 - (k + 1) < min l.length 30 - k; omega
                · exact ⟨by first | rfl | exact int_eq (by omega) | exact len_eq (by simp) | exact int_eq (by simp; done), by first | rfl | (rw [hst]; rfl) | (rw [hst]; dsimp only; exact vs_eq (by simp)) | (rw [hst]; dsimp only), by first | rfl | (rw [hst]; rfl) | (rw [hst]; dsimp only; exact vs_eq (by simp)) | (rw [hst]; dsimp only), by first | rfl | exact int_eq (by omega) | exact len_eq (by simp) | exact int_eq (by simp; done), by first | rfl | exact int_eq (by omega) | exact len_eq (by simp) | exact int_eq (by simp; done), by first | rfl | exact int_eq (by omega) | exact len_eq (by simp) | exact int_eq (by simp; done), trivial⟩
                · try dsimp only
                  rw [hst]
                  try dsimp only
                  repeat (first | exact HLe.refl _ | refine HLe.cons' (by first | rfl | (simp [sE, fName, HSt.cells, Lv.enc]; done)) ?_ | refine HLe.pick 1 rfl (by first | rfl | (simp [sE, fName, HSt.cells, Lv.enc]; done)) ?_ | refine HLe.pick 2 rfl (by first | rfl | (simp [sE, fName, HSt.cells, Lv.enc]; done)) ?_ | refine HLe.pick 3 rfl (by first | rfl | (simp [sE, fName, HSt.cells, Lv.enc]; done)) ?_ | refine HLe.pick 4 rfl (by first | rfl | (simp [sE, fName, HSt.cells, Lv.enc]; done)) ?_ | refine HLe.pick 5 rfl (by first | rfl | (simp [sE, fName, HSt.cells, Lv.enc]; done)) ?_ | refine HLe.skip _ ?_)
              · try simp only [Bool.or_eq_true, Bool.or_eq_false_iff, Bool.and_eq_true, Bool.and_eq_false_iff, decide_eq_true_eq, decide_eq_false_iff_not, Bool.not_eq_true', Bool.not_eq_false', Int.not_lt, Int.not_le, List.length_map] at hc57
                rw [if_neg hc57] at hst
                refine W.skip ?_
                refine W.region ?_
                refine XOps.s rfl rfl rfl (Q.add rfl rfl (wi64 (by first | omega | (dsimp only; omega) | (simp only [List.length_map]; omega)) (by first | omega | (dsimp only; omega) | (simp only [List.length_map]; omega)))) ?_
                refine XOps.s rfl rfl rfl (Q.move_d rfl) ?_
                refine XOps.nil ?_
                refine ⟨(k + 1, id2, i, o), ?_, ?_, ?_, ?_⟩
                · show k + 1 ≤ min l.length 30; omega
                · show min l.length 30 - (k + 1) < min l.length 30 - k; omega
                · exact ⟨by first | rfl | exact int_eq (by omega) | exact len_eq (by simp) | exact int_eq (by simp; done), by first | rfl | (rw [hst]; rfl) | (rw [hst]; dsimp only; exact vs_eq (by simp)) | (rw [hst]; dsimp only), by first | rfl | (rw [hst]; rfl) | (rw [hst]; dsimp only; exact vs_eq (by simp)) | (rw [hst]; dsimp only), by first | rfl | exact int_eq (by omega) | exact len_eq (by simp) | exact int_eq (by simp; done), by first | rfl | exact int_eq (by omega) | exact len_eq (by simp) | exact int_eq (by simp; done), by first | rfl | exact int_eq (by omega) | exact len_eq (by simp) | exact int_eq (by simp; done), trivial⟩
                · try dsimp only
                  rw [hst]
                  try dsimp only
                  repeat (first | exact HLe.refl _ | refine HLe.cons' (by first | rfl | (simp [sE, fName, HSt.cells, Lv.enc]; done)) ?_ | refine HLe.pick 1 rfl (by first | rfl | (simp [sE, fName, HSt.cells, Lv.enc]; done)) ?_ | refine HLe.pick 2 rfl (by first | rfl | (simp [sE, fName, HSt.cells, Lv.enc]; done)) ?_ | refine HLe.pick 3 rfl (by first | rfl | (simp [sE, fName, HSt.cells, Lv.enc]; done)) ?_ | refine HLe.pick 4 rfl (by first | rfl | (simp [sE, fName, HSt.cells, Lv.enc]; done)) ?_ | refine HLe.pick 5 rfl (by first | rfl | (simp [sE, fName, HSt.cells, Lv.enc]; done)) ?_ | refine HLe.skip _ ?_)
            · try simp only [Bool.or_eq_true, Bool.or_eq_false_iff, Bool.and_eq_true, Bool.and_eq_false_iff, decide_eq_true_eq, decide_eq_false_iff_not, Bool.not_eq_true', Bool.not_eq_false', Int.not_lt, Int.not_le, List.length_map] at hc45
              have hnil : (stK l k).1.l = [] := by
                cases h : (stK l k).1.l with
                | nil => rfl
                | cons x r => rw [h] at hc45; simp at hc45; omega
              rw [hnil] at hst
              dsimp only at hst
              refine W.skip ?_
              refine W.region ?_
              refine XOps.s rfl rfl rfl (Q.add rfl rfl (wi64 (by first | omega | (dsimp only; omega) | (simp only [List.length_map]; omega)) (by first | omega | (dsimp only; omega) | (simp only [List.length_map]; omega)))) ?_
              refine XOps.s rfl rfl rfl (Q.move_d rfl) ?_
              refine XOps.nil ?_
              refine ⟨(k + 1, id, i, o), ?_, ?_, ?_, ?_⟩
              · show k + 1 ≤ min l.length 30; omega
              · show min l.length 30 - (k + 1) < min l.length 30 - k; omega
              · exact ⟨by first | rfl | exact int_eq (by omega) | exact len_eq (by simp) | exact int_eq (by simp; done), by first | rfl | (rw [hst]; rfl) | (rw [hst]; dsimp only; exact vs_eq (by simp)) | (rw [hst]; dsimp only), by first | rfl | (rw [hst]; rfl) | (rw [hst]; dsimp only; exact vs_eq (by simp)) | (rw [hst]; dsimp only), by first | rfl | exact int_eq (by omega) | exact len_eq (by simp) | exact int_eq (by simp; done), by first | rfl | exact int_eq (by omega) | exact len_eq (by simp) | exact int_eq (by simp; done), by first | rfl | exact int_eq (by omega) | exact len_eq (by simp) | exact int_eq (by simp; done), trivial⟩
              · try dsimp only
                rw [hst]
                try dsimp only
                repeat (first | exact HLe.refl _ | refine HLe.cons' (by first | rfl | (simp [sE, fName, HSt.cells, Lv.enc]; done)) ?_ | refine HLe.pick 1 rfl (by first | rfl | (simp [sE, fName, HSt.cells, Lv.enc]; done)) ?_ | refine HLe.pick 2 rfl (by first | rfl | (simp [sE, fName, HSt.cells, Lv.enc]; done)) ?_ | refine HLe.pick 3 rfl (by first | rfl | (simp [sE, fName, HSt.cells, Lv.enc]; done)) ?_ | refine HLe.pick 4 rfl (by first | rfl | (simp [sE, fName, HSt.cells, Lv.enc]; done)) ?_ | refine HLe.pick 5 rfl (by first | rfl | (simp [sE, fName, HSt.cells, Lv.enc]; done)) ?_ | refine HLe.skip _ ?_)
      · try simp only [Bool.or_eq_true, Bool.or_eq_false_iff, Bool.and_eq_true, Bool.and_eq_false_iff, decide_eq_true_eq, decide_eq_false_iff_not, Bool.not_eq_true', Bool.not_eq_false', Int.not_lt, Int.not_le, List.length_map] at hc35
        refine W.exit ?_
        refine W.reg ?_
        refine XOps.s rfl rfl rfl (Q.move_ptr rfl) ?_
        refine XOps.s rfl rfl rfl (Q.move_vs rfl) ?_
        refine XOps.s rfl rfl rfl (Q.move_vs rfl) ?_
        refine XOps.s rfl rfl rfl (Q.assign_ptr rfl) ?_
        refine XOps.s rfl rfl rfl (Q.assign_vs rfl) ?_
        refine XOps.s rfl rfl rfl (Q.assign_vs rfl) ?_
        refine XOps.nil ?_
        refine W.ret ?_
        obtain rfl : k = min l.length 30 := by omega
        exact ⟨_, _, rfl, HLe.refl _, b, id, i, o, rfl, rfl⟩
end Go.Proofs.YtpdeopgmgeaglaaA
