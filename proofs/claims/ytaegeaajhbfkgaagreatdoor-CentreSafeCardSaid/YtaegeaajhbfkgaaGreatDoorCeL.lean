/- Flights: find, copies, inserting, deleting. -/
import Derived.Test.YtaegeaajhbfkgaaGreatDoorFrB
import Derived.Test.YtaegeaajhbfkgaaGreatDoorCeG
import Derived.Test.YtaegeaajhbfkgaaGreatDoorCen5
set_option linter.unusedVariables false
set_option linter.unusedSimpArgs false
set_option linter.unnecessarySimpa false
namespace Go.Proofs.YtaegeaajhbfkgaaGreatDoorA.FCeL
open Go
theorem ag37 : tAgg P 37 = some ((false, 1)) := by kernel_rfl
theorem ag41 : tAgg P 41 = some ((true, 8)) := by kernel_rfl
theorem ag9 : tAgg P 9 = some ((false, 1)) := by kernel_rfl
theorem ap33 : tApp P 33 = some ((6, 48)) := by kernel_rfl
theorem ap37 : tApp P 37 = some ((8, 104)) := by kernel_rfl
theorem fl41_0 : tFld P 41 0 = some (0) := by kernel_rfl
theorem fl83_2 : tFld P 83 2 = some (19) := by kernel_rfl
theorem go105 : callGo Go.Proofs.Tryz.f105 = true := by kernel_rfl
theorem go106 : callGo Go.Proofs.Tryz.f106 = true := by kernel_rfl
theorem go107 : callGo Go.Proofs.Tryz.f107 = true := by kernel_rfl
theorem ik167 : tInt P 167 = some (.u64) := by kernel_rfl
theorem ik3 : tInt P 3 = some (.i64) := by kernel_rfl
theorem isl37 : isSl P 37 = true := by kernel_rfl
theorem sl33 : tSl P 33 = some (6) := by kernel_rfl
theorem sl37 : tSl P 37 = some (8) := by kernel_rfl
theorem zr37 : tZrow P 37 = some ([.string ⟨#[]⟩, .int .i64 0, .int .i64 0, .bool false, .slice none 0 0, .slice none 0 0, .int .i64 0, .int .i64 0]) := by kernel_rfl
theorem zrd37 : cellsD [.string ⟨#[]⟩, .int .i64 0, .int .i64 0, .bool false, .slice none 0 0, .slice none 0 0, .int .i64 0, .int .i64 0] = some ([.str ⟨#[]⟩, .int .i64 0, .int .i64 0, .bool false, .sl 0 [], .sl 0 [], .int .i64 0, .int .i64 0]) := rfl
end Go.Proofs.YtaegeaajhbfkgaaGreatDoorA.FCeL
namespace Go.Proofs.YtaegeaajhbfkgaaGreatDoorA
open Go FCeL
attribute [local irreducible] XOps Quiet Loud W AC GQ DT
set_option maxHeartbeats 1000000 in
set_option maxRecDepth 100000 in
theorem cF_c (c : ByteArray) (x : Fl) (hs : Hp) : AC P 106 [.d (.agg (Fl.enc x)), .d (.str c)] hs (fun r h => r = .d (.int .i64 (cmpB x.call c)) ∧ h = hs) := by
  refine AC.of 9 Tryz.func106 rfl rfl rfl ?_
  refine W.reg ?_
  refine XOps.loud rfl (L.boxn rfl rfl) ?_
  rintro _ _ ⟨b2, rfl, rfl⟩
  refine XOps.s rfl rfl rfl (Q.assign_d rfl) ?_
  refine XOps.nil ?_
  refine W.reg ?_
  refine XOps.s rfl rfl rfl (Q.fld_ptr fl41_0 rfl) ?_
  refine XOps.s rfl rfl rfl (Q.ld_ptr (k := 0) ag9 rfl rfl rfl) ?_
  refine XOps.s rfl rfl rfl (Q.move_d rfl) ?_
  refine XOps.s rfl rfl rfl (Q.call rfl Tryz.func107 go107 rfl (compare_c x.call c _)) ?_
  refine XOps.s rfl rfl rfl (Q.assign_d rfl) ?_
  refine XOps.nil ?_
  refine W.ret ?_
  exact ⟨_, hs, rfl, HLe.skip _ (HLe.refl _), rfl, rfl⟩
set_option maxHeartbeats 1000000 in
set_option maxRecDepth 100000 in
theorem bsF_c (c0 : ByteArray) {fn : Func} (f : Nat) (caps : List AV) (x0 : Fl) (c : Fl → Int) (l : List Fl) (hs : Hp) (hL : l.length ≤ 4611686018427387903) (hf : P.funcs[f]? = some fn) (hgo : callGo fn = true) (hp : ∀ x ∈ l, AC P f ([.d (.agg (Fl.enc x)), .d (.str c0)] ++ caps) hs (fun r h => r = .d (.int .i64 (c x)) ∧ h = hs)) (hm : ∀ (i j : Nat) (x y : Fl), i ≤ j → l[i]? = some x → l[j]? = some y → c y < 0 → c x < 0) : AC P 105 [.d (.sl 8 (l.map Fl.enc)), .d (.str c0), .fn f caps] hs (fun r h => r = .tup [.d (.int .i64 (bsK c l : Nat)), .d (.bool (bsF c l))] ∧ h = hs) := by
  refine AC.of 49 Tryz.func105 rfl rfl rfl ?_
  refine W.reg ?_
  refine XOps.s rfl rfl rfl (Q.assign_d rfl) ?_
  refine XOps.s rfl rfl rfl (Q.assign_d rfl) ?_
  refine XOps.nil ?_
  refine W.reg ?_
  refine XOps.s rfl rfl rfl (Q.move_d rfl) ?_
  refine XOps.s rfl rfl rfl (Q.len_sl isl37 rfl) ?_
  refine XOps.s rfl rfl rfl (Q.assign_d rfl) ?_
  refine XOps.nil ?_
  refine W.reg ?_
  refine XOps.s rfl rfl rfl (Q.move_d rfl) ?_
  refine XOps.s rfl rfl rfl (Q.assign_d rfl) ?_
  refine XOps.s rfl rfl rfl (Q.assign_d rfl) ?_
  refine XOps.nil ?_
  refine W.seq ?_
  refine W.block ?_
  refine W.loop (ι := Nat × Nat) (fun p => [(0, .d (.sl 8 (l.map Fl.enc))), (1, .d (.str c0)), (2, .fn f caps), (8, .d (.int .i64 l.length)), (9, .d (.int .i64 p.1)), (10, .d (.int .i64 p.2))]) (fun p => hs) (fun p => p.1 ≤ p.2 ∧ p.2 ≤ l.length ∧ (∀ (q : Nat) x, q < p.1 → l[q]? = some x → c x < 0) ∧ (∀ (q : Nat) x, p.2 ≤ q → l[q]? = some x → ¬ c x < 0)) (fun p => p.2 - p.1) (0, l.length) ?_ ?_ ?_ ?_
  · exact ⟨Nat.zero_le _, Nat.le_refl _, fun q x h => absurd h (Nat.not_lt_zero _), fun q x h hx => absurd (List.getElem?_eq_some_iff.1 hx).1 (by dsimp only at h; omega)⟩
  · exact ⟨by first | rfl | exact int_eq (by omega) | exact len_eq (by simp) | exact int_eq (by simp; done), by first | rfl | exact int_eq (by omega) | exact len_eq (by simp) | exact int_eq (by simp; done), by first | rfl | exact int_eq (by omega) | exact len_eq (by simp) | exact int_eq (by simp; done), by first | rfl | exact int_eq (by omega) | exact len_eq (by simp) | exact int_eq (by simp; done), by first | rfl | exact int_eq (by omega) | exact len_eq (by simp) | exact int_eq (by simp; done), by first | rfl | exact int_eq (by omega) | exact len_eq (by simp) | exact int_eq (by simp; done), trivial⟩
  · repeat (first | exact HLe.refl _ | refine HLe.cons' (by first | rfl | (simp [Nd.enc]; done)) ?_ | refine HLe.pick 1 rfl (by first | rfl | (simp [Nd.enc]; done)) ?_ | refine HLe.pick 2 rfl (by first | rfl | (simp [Nd.enc]; done)) ?_ | refine HLe.pick 3 rfl (by first | rfl | (simp [Nd.enc]; done)) ?_ | refine HLe.pick 4 rfl (by first | rfl | (simp [Nd.enc]; done)) ?_ | refine HLe.pick 5 rfl (by first | rfl | (simp [Nd.enc]; done)) ?_ | refine HLe.skip _ ?_)
  · rintro ⟨i, j⟩ hI
    try dsimp only at hI ⊢
    refine W.seq ?_
    refine W.reg ?_
    refine XOps.s rfl rfl rfl (Q.move_d rfl) ?_
    refine XOps.s rfl rfl rfl (Q.move_d rfl) ?_
    refine XOps.s rfl rfl rfl (Q.lss rfl rfl) ?_
    refine XOps.nil ?_
    refine W.cond rfl (fun hc17 => ?_) (fun hc17 => ?_)
    · try simp only [Bool.or_eq_true, Bool.or_eq_false_iff, Bool.and_eq_true, Bool.and_eq_false_iff, decide_eq_true_eq, decide_eq_false_iff_not, Bool.not_eq_true', Bool.not_eq_false', Int.not_lt, Int.not_le, List.length_map] at hc17
      obtain ⟨x, hx⟩ : ∃ x, l[(i + j) / 2]? = some x := ⟨_, List.getElem?_eq_getElem (by omega)⟩
      refine W.skip ?_
      refine W.block ?_
      refine W.reg ?_
      refine XOps.s rfl rfl rfl (Q.move_d rfl) ?_
      refine XOps.s rfl rfl rfl (Q.move_d rfl) ?_
      refine XOps.s rfl rfl rfl (Q.add rfl rfl (wi64 (by first | omega | (dsimp only; omega) | (simp only [List.length_map]; omega)) (by first | omega | (dsimp only; omega) | (simp only [List.length_map]; omega)))) ?_
      refine XOps.s rfl rfl rfl (Q.conv_cnt ik167 rfl (und_int ik3) (by omega) (by omega) (.inl rfl)) ?_
      refine XOps.s rfl rfl rfl (Q.shr1 (n := i + j) rfl rfl) ?_
      refine XOps.s rfl rfl rfl (Q.conv_cnt ik3 rfl (und_int ik167) (by omega) (by omega) (.inr rfl)) ?_
      refine XOps.s rfl rfl rfl (Q.assign_d rfl) ?_
      refine XOps.nil ?_
      refine W.reg ?_
      refine XOps.s rfl rfl rfl (Q.move_fn rfl) ?_
      refine XOps.s rfl rfl rfl (Q.move_d rfl) ?_
      refine XOps.s rfl rfl rfl (Q.move_d rfl) ?_
      refine XOps.s rfl rfl rfl (Q.idx_sl sl37 (by decide) rfl rfl (by first | omega | (simp only [List.length_map]; omega)) (by first | exact map_at hx | exact map_at (hx (by first | omega | (simp at hg; omega))))) ?_
      refine XOps.s rfl rfl rfl (Q.ld_dpn ag41 rfl rfl) ?_
      refine XOps.s rfl rfl rfl (Q.move_d rfl) ?_
      refine XOps.s rfl rfl rfl (Q.call rfl hf hgo rfl (hp x (List.mem_of_getElem? hx))) ?_
      refine XOps.s rfl rfl rfl (Q.lss rfl rfl) ?_
      refine XOps.nil ?_
      refine W.cond rfl (fun hc31 => ?_) (fun hc31 => ?_)
      · try simp only [Bool.or_eq_true, Bool.or_eq_false_iff, Bool.and_eq_true, Bool.and_eq_false_iff, decide_eq_true_eq, decide_eq_false_iff_not, Bool.not_eq_true', Bool.not_eq_false', Int.not_lt, Int.not_le, List.length_map] at hc31
        have hlo := hc31
        refine W.region ?_
        refine XOps.s rfl rfl rfl (Q.move_d rfl) ?_
        refine XOps.s rfl rfl rfl (Q.add rfl rfl (wi64 (by first | omega | (dsimp only; omega) | (simp only [List.length_map]; omega)) (by first | omega | (dsimp only; omega) | (simp only [List.length_map]; omega)))) ?_
        refine XOps.s rfl rfl rfl (Q.assign_d rfl) ?_
        refine XOps.nil ?_
        refine ⟨by clear hlo; exact ((i + j) / 2 + 1, j), ?_, ?_, ?_, ?_⟩
        · exact ⟨by dsimp only; omega, hI.2.1, fun q y hq hy => hm q _ y x (by dsimp only at hq; omega) hy hx hc31, hI.2.2.2⟩
        · dsimp only; omega
        · exact ⟨by first | rfl | exact int_eq (by omega) | exact len_eq (by simp) | exact int_eq (by simp; done), by first | rfl | exact int_eq (by omega) | exact len_eq (by simp) | exact int_eq (by simp; done), by first | rfl | exact int_eq (by omega) | exact len_eq (by simp) | exact int_eq (by simp; done), by first | rfl | exact int_eq (by omega) | exact len_eq (by simp) | exact int_eq (by simp; done), by first | rfl | exact int_eq (by omega) | exact len_eq (by simp) | exact int_eq (by simp; done), by first | rfl | exact int_eq (by omega) | exact len_eq (by simp) | exact int_eq (by simp; done), trivial⟩
        · repeat (first | exact HLe.refl _ | refine HLe.cons' (by first | rfl | (simp [Nd.enc]; done)) ?_ | refine HLe.pick 1 rfl (by first | rfl | (simp [Nd.enc]; done)) ?_ | refine HLe.pick 2 rfl (by first | rfl | (simp [Nd.enc]; done)) ?_ | refine HLe.pick 3 rfl (by first | rfl | (simp [Nd.enc]; done)) ?_ | refine HLe.pick 4 rfl (by first | rfl | (simp [Nd.enc]; done)) ?_ | refine HLe.pick 5 rfl (by first | rfl | (simp [Nd.enc]; done)) ?_ | refine HLe.skip _ ?_)
      · try simp only [Bool.or_eq_true, Bool.or_eq_false_iff, Bool.and_eq_true, Bool.and_eq_false_iff, decide_eq_true_eq, decide_eq_false_iff_not, Bool.not_eq_true', Bool.not_eq_false', Int.not_lt, Int.not_le, List.length_map] at hc31
        have hhi := hc31
        refine W.region ?_
        refine XOps.s rfl rfl rfl (Q.move_d rfl) ?_
        refine XOps.s rfl rfl rfl (Q.assign_d rfl) ?_
        refine XOps.nil ?_
        refine ⟨by clear hhi; exact (i, (i + j) / 2), ?_, ?_, ?_, ?_⟩
        · exact ⟨by dsimp only; omega, by dsimp only; omega, hI.2.2.1, fun q y hq hy hn => absurd (hm _ q x y hq hx hy hn) (by omega)⟩
        · dsimp only; omega
        · exact ⟨by first | rfl | exact int_eq (by omega) | exact len_eq (by simp) | exact int_eq (by simp; done), by first | rfl | exact int_eq (by omega) | exact len_eq (by simp) | exact int_eq (by simp; done), by first | rfl | exact int_eq (by omega) | exact len_eq (by simp) | exact int_eq (by simp; done), by first | rfl | exact int_eq (by omega) | exact len_eq (by simp) | exact int_eq (by simp; done), by first | rfl | exact int_eq (by omega) | exact len_eq (by simp) | exact int_eq (by simp; done), by first | rfl | exact int_eq (by omega) | exact len_eq (by simp) | exact int_eq (by simp; done), trivial⟩
        · repeat (first | exact HLe.refl _ | refine HLe.cons' (by first | rfl | (simp [Nd.enc]; done)) ?_ | refine HLe.pick 1 rfl (by first | rfl | (simp [Nd.enc]; done)) ?_ | refine HLe.pick 2 rfl (by first | rfl | (simp [Nd.enc]; done)) ?_ | refine HLe.pick 3 rfl (by first | rfl | (simp [Nd.enc]; done)) ?_ | refine HLe.pick 4 rfl (by first | rfl | (simp [Nd.enc]; done)) ?_ | refine HLe.pick 5 rfl (by first | rfl | (simp [Nd.enc]; done)) ?_ | refine HLe.skip _ ?_)
    · try simp only [Bool.or_eq_true, Bool.or_eq_false_iff, Bool.and_eq_true, Bool.and_eq_false_iff, decide_eq_true_eq, decide_eq_false_iff_not, Bool.not_eq_true', Bool.not_eq_false', Int.not_lt, Int.not_le, List.length_map] at hc17
      obtain rfl : i = j := by omega
      have hK : bsK c l = i := bsK_eq c hI.2.2.1 (fun x hx => hI.2.2.2 i x (Nat.le_refl _) hx) hI.2.1
      obtain ⟨x, hx⟩ : ∃ x, i < l.length → l[i]? = some x := by
        rcases Nat.lt_or_ge i l.length with h | h
        · exact ⟨l[i], fun _ => List.getElem?_eq_getElem h⟩
        · exact ⟨x0, fun h2 => absurd h2 (by omega)⟩
      have hF : bsF c l = (decide ((i : Int) < (l.length : Nat)) && decide (c x = 0)) := by
        unfold bsF; rw [hK]
        rcases Nat.lt_or_ge i l.length with h | h
        · rw [hx h, decide_eq_true (show (i : Int) < (l.length : Nat) by omega)]; rfl
        · rw [List.getElem?_eq_none h, decide_eq_false (show ¬ (i : Int) < (l.length : Nat) by omega)]; rfl
      refine W.exit ?_
      refine W.reg ?_
      refine XOps.s rfl rfl rfl (Q.move_d rfl) ?_
      refine XOps.s rfl rfl rfl (Q.move_d rfl) ?_
      refine XOps.s rfl rfl rfl (Q.move_d rfl) ?_
      refine XOps.s rfl rfl rfl (Q.lss rfl rfl) ?_
      refine XOps.s rfl rfl rfl (Q.move_d rfl) ?_
      refine XOps.gs rfl rfl rfl rfl rfl rfl rfl (fun hg => Q.move_fn rfl) ?_
      refine XOps.gs rfl rfl rfl rfl rfl rfl rfl (fun hg => Q.move_d rfl) ?_
      refine XOps.gs rfl rfl rfl rfl rfl rfl rfl (fun hg => Q.move_d rfl) ?_
      refine XOps.gs rfl rfl rfl rfl rfl rfl rfl (fun hg => Quiet.open 41 hg rfl (Quiet.open 42 hg rfl (Q.idx_sl sl37 (by decide) rfl rfl (by first | omega | (simp only [List.length_map]; omega)) (by first | exact map_at hx | exact map_at (hx (by first | omega | (simp at hg; omega))))))) ?_
      refine XOps.gs rfl rfl rfl rfl rfl rfl rfl (fun hg => Quiet.open 43 hg rfl (Q.ld_dpn ag41 rfl rfl)) ?_
      refine XOps.gs rfl rfl rfl rfl rfl rfl rfl (fun hg => Q.move_d rfl) ?_
      refine XOps.gs rfl rfl rfl rfl rfl rfl rfl (fun hg => Quiet.open 40 hg rfl (Quiet.open 44 hg rfl (Quiet.open 45 hg rfl (Q.call rfl hf hgo rfl (hp x (List.mem_of_getElem? (hx (by first | omega | (simp at hg; omega))))))))) ?_
      refine XOps.gs rfl rfl rfl rfl rfl rfl rfl (fun hg => Quiet.open 46 hg rfl (Q.eql rfl rfl)) ?_
      refine XOps.s rfl rfl rfl (Q.pick_and rfl rfl rfl (fun h => by first | (rw [h]; rfl) | (rw [hg, h]; rfl) | (simp [h, hg]; done))) ?_
      refine XOps.s rfl rfl rfl (Q.assign_d rfl) ?_
      refine XOps.s rfl rfl rfl (Q.assign_d rfl) ?_
      refine XOps.nil ?_
      refine W.ret ?_
      refine ⟨_, hs, rfl, by repeat (first | exact HLe.refl _ | refine HLe.cons' (by first | rfl | (simp [Nd.enc]; done)) ?_ | refine HLe.pick 1 rfl (by first | rfl | (simp [Nd.enc]; done)) ?_ | refine HLe.pick 2 rfl (by first | rfl | (simp [Nd.enc]; done)) ?_ | refine HLe.pick 3 rfl (by first | rfl | (simp [Nd.enc]; done)) ?_ | refine HLe.pick 4 rfl (by first | rfl | (simp [Nd.enc]; done)) ?_ | refine HLe.pick 5 rfl (by first | rfl | (simp [Nd.enc]; done)) ?_ | refine HLe.skip _ ?_), ?_, rfl⟩
      rw [hK, hF]; rfl
set_option maxHeartbeats 1000000 in
set_option maxRecDepth 100000 in
theorem cfind_c (su : Su) (tm : AV) (fl : List Fl) (T : List AV) (b q : Nat) (hs : Hp) (hq : hs[q]? = some (b, .cells (su.enc.map AV.d ++ tm :: .d (.sl 8 (fl.map Fl.enc)) :: T))) (c : ByteArray) (so : SrtK Fl.call fl) (hf : fl.length ≤ 1000) : AC P 82 [.ptr b 0, .d (.str c)] hs (fun r h => r = .tup [.d (.int .i64 (posK Fl.call fl c : Nat)), .d (.bool (hasK Fl.call fl c))] ∧ h = hs) := by
  refine AC.of 14 Tryz.func82 rfl rfl rfl ?_
  refine W.reg ?_
  refine XOps.s rfl rfl rfl (Q.assign_d rfl) ?_
  refine XOps.s rfl rfl rfl (Q.assign_d rfl) ?_
  refine XOps.nil ?_
  refine W.reg ?_
  refine XOps.s rfl rfl rfl (Q.move_ptr rfl) ?_
  refine XOps.s rfl rfl rfl (Q.nil_ptr rfl) ?_
  refine XOps.s rfl rfl rfl (Q.fld_ptr fl83_2 rfl) ?_
  refine XOps.s rfl rfl rfl (Q.ld_ptr (k := q) ag37 rfl hq rfl) ?_
  refine XOps.s rfl rfl rfl (Q.move_d rfl) ?_
  refine XOps.s rfl rfl rfl (Q.call rfl Tryz.func105 go105 rfl (bsF_c c 106 [] Fl.zero (fun x => cmpB x.call c) fl _ (by omega) Tryz.func106 go106 (fun x _ => cF_c c x _) (so.mono c))) ?_
  refine XOps.s rfl rfl rfl (Q.extract rfl rfl) ?_
  refine XOps.s rfl rfl rfl (Q.extract rfl rfl) ?_
  refine XOps.s rfl rfl rfl (Q.assign_d rfl) ?_
  refine XOps.s rfl rfl rfl (Q.assign_d rfl) ?_
  refine XOps.nil ?_
  refine W.ret ?_
  exact ⟨_, hs, rfl, HLe.refl _, rfl, rfl⟩
set_option maxHeartbeats 1000000 in
set_option maxRecDepth 100000 in
theorem cloneT_own (l : List Nd) (hs : Hp) (hL : l.length * 48 ≤ 140737488355328) : AC P 65 [.d (.sl 6 (l.map Nd.enc))] hs (fun r h => ∃ v, r = .vs v 0 l.length 6 ∧ h = (v, .lst 6 (l.map Nd.enc)) :: hs) := by
  refine AC.of 8 Tryz.func65 rfl rfl rfl ?_
  refine W.reg ?_
  refine XOps.s rfl rfl rfl (Q.assign_nilsl rfl) ?_
  refine XOps.nil ?_
  refine W.seq ?_
  refine W.reg ?_
  refine XOps.s rfl rfl rfl (Q.move_d rfl) ?_
  (refine XOps.loud rfl (L.eqnil sl33 (by decide) rfl rfl rfl) ?_; rintro _ _ ⟨bb, hbb, rfl, hh⟩; obtain rfl := hh.symm)
  refine XOps.nil ?_
  refine W.cond rfl (fun hc4 => ?_) (fun hc4 => ?_)
  · try simp only [Bool.or_eq_true, Bool.or_eq_false_iff, Bool.and_eq_true, Bool.and_eq_false_iff, decide_eq_true_eq, decide_eq_false_iff_not, Bool.not_eq_true', Bool.not_eq_false', Int.not_lt, Int.not_le, List.length_map] at hc4
    have hle : l = [] := by simpa using hbb hc4
    subst hle
    refine W.reg ?_
    refine XOps.s rfl rfl rfl (Q.assign_nilsl rfl) ?_
    refine XOps.nil ?_
    refine W.ghost 2 6 (by decide) rfl rfl (fun v2 => ?_)
    refine W.ret ?_
    exact ⟨_, (v2, .lst 6 []) :: hs, rfl, by repeat (first | exact HLe.refl _ | refine HLe.cons' (by first | rfl | (simp [Nd.enc]; done)) ?_ | refine HLe.pick 1 rfl (by first | rfl | (simp [Nd.enc]; done)) ?_ | refine HLe.pick 2 rfl (by first | rfl | (simp [Nd.enc]; done)) ?_ | refine HLe.pick 3 rfl (by first | rfl | (simp [Nd.enc]; done)) ?_ | refine HLe.pick 4 rfl (by first | rfl | (simp [Nd.enc]; done)) ?_ | refine HLe.pick 5 rfl (by first | rfl | (simp [Nd.enc]; done)) ?_ | refine HLe.skip _ ?_), v2, rfl, rfl⟩
  · try simp only [Bool.or_eq_true, Bool.or_eq_false_iff, Bool.and_eq_true, Bool.and_eq_false_iff, decide_eq_true_eq, decide_eq_false_iff_not, Bool.not_eq_true', Bool.not_eq_false', Int.not_lt, Int.not_le, List.length_map] at hc4
    refine W.skip ?_
    refine W.reg ?_
    refine XOps.s rfl rfl rfl (Q.bsl0 sl33) ?_
    refine XOps.s rfl rfl rfl (Q.move_d rfl) ?_
    refine XOps.loud rfl (L.app_new ap33 (.inl rfl) (by first | exact .inl rfl | exact .inr (by simp)) rfl (by simp; omega) rfl) ?_
    rintro _ _ ⟨v7, rfl, rfl⟩
    refine XOps.s rfl rfl rfl (Q.assign_vs rfl) ?_
    refine XOps.nil ?_
    refine W.ret ?_
    exact ⟨_, (v7, .lst 6 (l.map Nd.enc)) :: hs, rfl, by repeat (first | exact HLe.refl _ | refine HLe.cons' (by first | rfl | (simp [Nd.enc]; done)) ?_ | refine HLe.pick 1 rfl (by first | rfl | (simp [Nd.enc]; done)) ?_ | refine HLe.pick 2 rfl (by first | rfl | (simp [Nd.enc]; done)) ?_ | refine HLe.pick 3 rfl (by first | rfl | (simp [Nd.enc]; done)) ?_ | refine HLe.pick 4 rfl (by first | rfl | (simp [Nd.enc]; done)) ?_ | refine HLe.pick 5 rfl (by first | rfl | (simp [Nd.enc]; done)) ?_ | refine HLe.skip _ ?_), v7, by show AV.vs _ _ _ _ = _; congr 1; simp, rfl⟩
theorem cloneT_c (l : List Nd) (hs : Hp) (hL : l.length ≤ 1000000) : AC P 65 [.d (tuD l)] hs (fun r h => r = .d (tuD l) ∧ h = hs) :=
  AC.frz ((cloneT_own l hs (by omega)).mono fun r h ⟨v, h1, h2⟩ => ⟨v, h2, h1 ▸ .vs (by simp)⟩)
set_option maxHeartbeats 1000000 in
set_option maxRecDepth 100000 in
theorem cloneF_c (l : List Fl) (hs : Hp) (hL : l.length * 104 ≤ 140737488355328) : AC P 84 [.d (.sl 8 (l.map Fl.enc))] hs (fun r h => ∃ v, r = .vs v 0 l.length 8 ∧ h = (v, .lst 8 (l.map Fl.enc)) :: hs) := by
  refine AC.of 8 Tryz.func84 rfl rfl rfl ?_
  refine W.reg ?_
  refine XOps.s rfl rfl rfl (Q.assign_nilsl rfl) ?_
  refine XOps.nil ?_
  refine W.seq ?_
  refine W.reg ?_
  refine XOps.s rfl rfl rfl (Q.move_d rfl) ?_
  (refine XOps.loud rfl (L.eqnil sl37 (by decide) rfl rfl rfl) ?_; rintro _ _ ⟨bb, hbb, rfl, hh⟩; obtain rfl := hh.symm)
  refine XOps.nil ?_
  refine W.cond rfl (fun hc4 => ?_) (fun hc4 => ?_)
  · try simp only [Bool.or_eq_true, Bool.or_eq_false_iff, Bool.and_eq_true, Bool.and_eq_false_iff, decide_eq_true_eq, decide_eq_false_iff_not, Bool.not_eq_true', Bool.not_eq_false', Int.not_lt, Int.not_le, List.length_map] at hc4
    have hle : l = [] := by simpa using hbb hc4
    subst hle
    refine W.reg ?_
    refine XOps.s rfl rfl rfl (Q.assign_nilsl rfl) ?_
    refine XOps.nil ?_
    refine W.ghost 2 8 (by decide) rfl rfl (fun v2 => ?_)
    refine W.ret ?_
    exact ⟨_, (v2, .lst 8 []) :: hs, rfl, by repeat (first | exact HLe.refl _ | refine HLe.cons' (by first | rfl | (simp [Nd.enc]; done)) ?_ | refine HLe.pick 1 rfl (by first | rfl | (simp [Nd.enc]; done)) ?_ | refine HLe.pick 2 rfl (by first | rfl | (simp [Nd.enc]; done)) ?_ | refine HLe.pick 3 rfl (by first | rfl | (simp [Nd.enc]; done)) ?_ | refine HLe.pick 4 rfl (by first | rfl | (simp [Nd.enc]; done)) ?_ | refine HLe.pick 5 rfl (by first | rfl | (simp [Nd.enc]; done)) ?_ | refine HLe.skip _ ?_), v2, rfl, rfl⟩
  · try simp only [Bool.or_eq_true, Bool.or_eq_false_iff, Bool.and_eq_true, Bool.and_eq_false_iff, decide_eq_true_eq, decide_eq_false_iff_not, Bool.not_eq_true', Bool.not_eq_false', Int.not_lt, Int.not_le, List.length_map] at hc4
    refine W.skip ?_
    refine W.reg ?_
    refine XOps.s rfl rfl rfl (Q.bsl0 sl37) ?_
    refine XOps.s rfl rfl rfl (Q.move_d rfl) ?_
    refine XOps.loud rfl (L.app_new ap37 (.inl rfl) (by first | exact .inl rfl | exact .inr (by simp)) rfl (by simp; omega) rfl) ?_
    rintro _ _ ⟨v7, rfl, rfl⟩
    refine XOps.s rfl rfl rfl (Q.assign_vs rfl) ?_
    refine XOps.nil ?_
    refine W.ret ?_
    exact ⟨_, (v7, .lst 8 (l.map Fl.enc)) :: hs, rfl, by repeat (first | exact HLe.refl _ | refine HLe.cons' (by first | rfl | (simp [Nd.enc]; done)) ?_ | refine HLe.pick 1 rfl (by first | rfl | (simp [Nd.enc]; done)) ?_ | refine HLe.pick 2 rfl (by first | rfl | (simp [Nd.enc]; done)) ?_ | refine HLe.pick 3 rfl (by first | rfl | (simp [Nd.enc]; done)) ?_ | refine HLe.pick 4 rfl (by first | rfl | (simp [Nd.enc]; done)) ?_ | refine HLe.pick 5 rfl (by first | rfl | (simp [Nd.enc]; done)) ?_ | refine HLe.skip _ ?_), v7, by show AV.vs _ _ _ _ = _; congr 1; simp, rfl⟩
set_option maxHeartbeats 4000000 in
set_option maxRecDepth 100000 in
theorem insF_c_raw (vid id i : Nat) (x : List D) (rows : List (List D)) (hs : Hp) (hi : i ≤ rows.length) (hn : rows.length ≤ 100000) (hx3 : x.length = 8) (hx1 : ∀ d ∈ x, d.one = true) : AC P 83 [.vs id 0 rows.length 8, .d (.int .i64 i), .vs vid 0 1 8] ((vid, .lst 8 [x]) :: (id, .lst 8 rows) :: hs) (fun r h => ∃ id2, r = .vs id2 0 (rows.length + 1) 8 ∧ h = (id2, .lst 8 (rows.take i ++ x :: rows.drop i)) :: hs) := by
  refine AC.of 95 Tryz.func83 rfl rfl rfl ?_
  refine W.reg ?_
  refine XOps.s rfl rfl rfl (Q.assign_nilsl rfl) ?_
  refine XOps.nil ?_
  refine W.reg ?_
  refine XOps.s rfl rfl rfl (Q.move_vs rfl) ?_
  refine XOps.s rfl rfl rfl (Q.move_d rfl) ?_
  refine XOps.s rfl rfl rfl (Q.cut_vs2 (kk := 1) sl37 rfl rfl rfl rfl (by omega) (by omega) (by omega)) ?_
  refine XOps.nil ?_
  refine W.reg ?_
  refine XOps.s rfl rfl rfl (Q.move_vs rfl) ?_
  refine XOps.s rfl rfl rfl (Q.len_vs isl37 rfl) ?_
  refine XOps.s rfl rfl rfl (Q.assign_d rfl) ?_
  refine XOps.nil ?_
  refine W.seq ?_
  refine W.reg ?_
  refine XOps.s rfl rfl rfl (Q.move_d rfl) ?_
  refine XOps.s rfl rfl rfl (Q.eql rfl rfl) ?_
  refine XOps.nil ?_
  refine W.cond rfl (fun hc16 => ?_) (fun hc16 => ?_)
  · try simp only [Bool.or_eq_true, Bool.or_eq_false_iff, Bool.and_eq_true, Bool.and_eq_false_iff, decide_eq_true_eq, decide_eq_false_iff_not, Bool.not_eq_true', Bool.not_eq_false', Int.not_lt, Int.not_le, List.length_map] at hc16
    exact absurd hc16 (by decide)
  · try simp only [Bool.or_eq_true, Bool.or_eq_false_iff, Bool.and_eq_true, Bool.and_eq_false_iff, decide_eq_true_eq, decide_eq_false_iff_not, Bool.not_eq_true', Bool.not_eq_false', Int.not_lt, Int.not_le, List.length_map] at hc16
    refine W.skip ?_
    refine W.reg ?_
    refine XOps.s rfl rfl rfl (Q.move_vs rfl) ?_
    refine XOps.s rfl rfl rfl (Q.len_vs isl37 rfl) ?_
    refine XOps.s rfl rfl rfl (Q.assign_d rfl) ?_
    refine XOps.nil ?_
    refine W.seq ?_
    refine W.reg ?_
    refine XOps.s rfl rfl rfl (Q.move_d rfl) ?_
    refine XOps.s rfl rfl rfl (Q.move_d rfl) ?_
    refine XOps.s rfl rfl rfl (Q.eql rfl rfl) ?_
    refine XOps.nil ?_
    refine W.cond rfl (fun hc22 => ?_) (fun hc22 => ?_)
    · try simp only [Bool.or_eq_true, Bool.or_eq_false_iff, Bool.and_eq_true, Bool.and_eq_false_iff, decide_eq_true_eq, decide_eq_false_iff_not, Bool.not_eq_true', Bool.not_eq_false', Int.not_lt, Int.not_le, List.length_map] at hc22
      refine W.freeze 2 0 rfl rfl rfl ?_
      refine W.reg ?_
      refine XOps.s rfl rfl rfl (Q.move_vs rfl) ?_
      refine XOps.s rfl rfl rfl (Q.move_d rfl) ?_
      (refine XOps.loud rfl (L.app (k := 0) ap37 rfl rfl rfl rfl (by simp; omega) rfl) ?_; rintro _ _ ⟨v25, rfl, rfl⟩)
      refine XOps.s rfl rfl rfl (Q.assign_vs rfl) ?_
      refine XOps.nil ?_
      refine W.ret ?_
      exact ⟨_, (v25, .lst 8 (rows ++ [x])) :: hs, rfl, HLe.refl _, v25, rfl, by rw [ins_end rows x i (by omega)]⟩
    · try simp only [Bool.or_eq_true, Bool.or_eq_false_iff, Bool.and_eq_true, Bool.and_eq_false_iff, decide_eq_true_eq, decide_eq_false_iff_not, Bool.not_eq_true', Bool.not_eq_false', Int.not_lt, Int.not_le, List.length_map] at hc22
      refine W.skip ?_
      refine W.seq ?_
      refine W.reg ?_
      refine XOps.s rfl rfl rfl (Q.move_d rfl) ?_
      refine XOps.s rfl rfl rfl (Q.move_d rfl) ?_
      refine XOps.s rfl rfl rfl (Q.add rfl rfl (wi64 (by first | omega | (dsimp only; omega) | (simp only [List.length_map]; omega)) (by first | omega | (dsimp only; omega) | (simp only [List.length_map]; omega)))) ?_
      refine XOps.s rfl rfl rfl (Q.move_vs rfl) ?_
      (refine XOps.loud rfl (L.cap (k := 1) isl37 rfl rfl rfl) ?_; rintro _ _ ⟨idc, c, ⟨hcp1, hcp2⟩, rfl, rfl⟩)
      refine XOps.s rfl rfl rfl (Q.gtr rfl rfl) ?_
      refine XOps.nil ?_
      refine W.cond rfl (fun hc31 => ?_) (fun hc31 => ?_)
      · try simp only [Bool.or_eq_true, Bool.or_eq_false_iff, Bool.and_eq_true, Bool.and_eq_false_iff, decide_eq_true_eq, decide_eq_false_iff_not, Bool.not_eq_true', Bool.not_eq_false', Int.not_lt, Int.not_le, List.length_map] at hc31
        refine W.reg ?_
        refine XOps.s rfl rfl rfl (Q.move_vs rfl) ?_
        refine XOps.s rfl rfl rfl (Q.move_d rfl) ?_
        refine XOps.s rfl rfl rfl (Q.cut_vs2 (kk := 2) sl37 rfl rfl rfl rfl (by omega) (by omega) (by omega)) ?_
        refine XOps.s rfl rfl rfl (Q.move_d rfl) ?_
        refine XOps.s rfl rfl rfl (Q.move_d rfl) ?_
        refine XOps.s rfl rfl rfl (Q.add rfl rfl (wi64 (by first | omega | (dsimp only; omega) | (simp only [List.length_map]; omega)) (by first | omega | (dsimp only; omega) | (simp only [List.length_map]; omega)))) ?_
        refine XOps.s rfl rfl rfl (Q.move_d rfl) ?_
        refine XOps.s rfl rfl rfl (Q.sub rfl rfl (wi64 (by first | omega | (dsimp only; omega) | (simp only [List.length_map]; omega)) (by first | omega | (dsimp only; omega) | (simp only [List.length_map]; omega)))) ?_
        (refine XOps.loud rfl (L.app_mk2 (k := 2) (kk := 0) (i := i) (m := rows.length + 1 - i) (n := rows.length + 1 - i) ap37 zr37 zrd37 ik3 rfl rfl (by omega) rfl (by exact int_eq (by omega)) rfl (by omega) (by omega) (by omega) rfl) ?_; rintro _ _ ⟨v40, rfl, rfl⟩)
        refine XOps.s rfl rfl rfl (Q.assign_vs rfl) ?_
        refine XOps.nil ?_
        refine W.reg ?_
        refine XOps.s rfl rfl rfl (Q.move_vs rfl) ?_
        refine XOps.s rfl rfl rfl (Q.move_d rfl) ?_
        refine XOps.s rfl rfl rfl (Q.cut_vs2 (kk := 0) sl37 rfl rfl rfl rfl (by omega) (by omega) (by simp; omega)) ?_
        refine XOps.s rfl rfl rfl (Q.move_vs rfl) ?_
        (refine XOps.loud rfl (L.copy_own (k := 0) (k2 := 2) 1 sl37 rfl rfl (by simp; omega) rfl rfl (by omega) (by simp) rfl) ?_; rintro _ _ ⟨rfl, rfl⟩)
        refine XOps.nil ?_
        refine W.drawTreg 9 [8] follows (by kernel_rfl) (by decide) ?_
        apply DT.moreF [.new, .new, .new, .new, .new, .new, .new, .new, .now] (by kernel_rfl)
        refine PC.new _ rfl (GQ.q rfl (Q.move_vs rfl)) rfl ?_
        refine PC.new _ rfl (GQ.q rfl (Q.move_d rfl)) rfl ?_
        refine PC.new _ rfl (GQ.q rfl (Q.move_d rfl)) rfl ?_
        refine PC.new _ rfl (GQ.q rfl (Q.add rfl rfl (wi64 (by first | omega | (dsimp only; omega) | (simp only [List.length_map]; omega)) (by first | omega | (dsimp only; omega) | (simp only [List.length_map]; omega))))) rfl ?_
        refine PC.new _ rfl (GQ.q rfl (Q.cut_vs2 (kk := 0) sl37 rfl rfl rfl rfl (by omega) (by omega) (by simp; omega))) rfl ?_
        refine PC.new _ rfl (GQ.q rfl (Q.move_vs rfl)) rfl ?_
        refine PC.new _ rfl (GQ.q rfl (Q.move_d rfl)) rfl ?_
        refine PC.new _ rfl (GQ.q rfl (Q.cut_vs2 (kk := 3) sl37 rfl rfl rfl rfl (by omega) (by omega) (by simp))) rfl ?_
        refine PC.now rfl rfl (fun τ => Loud.to (L.copy_own (k := 0) (k2 := 3) (rows.length - i) sl37 rfl rfl (by simp; omega) rfl rfl (by omega) (by omega) rfl) (fun _ _ h => ⟨_, h.1, rfl, h.2⟩)) ?_
        refine PC.nil ?_
        rintro _ _ ⟨rfl, rfl⟩
        refine DT.last [.did, .did, .did, .did, .did, .did, .did, .did, .did] (by kernel_rfl) ?_
        refine PC.did rfl ?_
        refine PC.did rfl ?_
        refine PC.did rfl ?_
        refine PC.did rfl ?_
        refine PC.did rfl ?_
        refine PC.did rfl ?_
        refine PC.did rfl ?_
        refine PC.did rfl ?_
        refine PC.did rfl ?_
        refine PC.nil ?_
        refine XOps.nil ?_
        refine W.reg ?_
        refine XOps.s rfl rfl rfl (Q.move_vs rfl) ?_
        refine XOps.s rfl rfl rfl (Q.assign_vs rfl) ?_
        refine XOps.nil ?_
        refine W.ret ?_
        exact ⟨_, (v40, .lst 8 (rows.take i ++ x :: rows.drop i)) :: hs, rfl, HLe.cons' (by refine (congrArg (HO.lst 8) (ins_rep rows x [.str ⟨#[]⟩, .int .i64 0, .int .i64 0, .bool false, .sl 0 [], .sl 0 [], .int .i64 0, .int .i64 0] i _ (by omega) rfl).symm).trans ?_; simp only [Nat.zero_add, (show ((i : Int) + ((1 : Nat) : Int)).toNat = i + 1 by omega), Int.toNat_natCast]; rfl) (HLe.skip _ (HLe.skip _ (HLe.skip _ (HLe.refl _)))), v40, (by show AV.vs _ _ _ _ = _; exact vs_eq (by omega)), rfl⟩
      · try simp only [Bool.or_eq_true, Bool.or_eq_false_iff, Bool.and_eq_true, Bool.and_eq_false_iff, decide_eq_true_eq, decide_eq_false_iff_not, Bool.not_eq_true', Bool.not_eq_false', Int.not_lt, Int.not_le, List.length_map] at hc31
        refine W.skip ?_
        refine W.reg ?_
        refine XOps.s rfl rfl rfl (Q.move_vs rfl) ?_
        refine XOps.s rfl rfl rfl (Q.move_d rfl) ?_
        refine XOps.s rfl rfl rfl (Q.move_d rfl) ?_
        refine XOps.s rfl rfl rfl (Q.add rfl rfl (wi64 (by first | omega | (dsimp only; omega) | (simp only [List.length_map]; omega)) (by first | omega | (dsimp only; omega) | (simp only [List.length_map]; omega)))) ?_
        refine XOps.s rfl rfl rfl (Q.cut_cap (kk := 0) sl37 rfl rfl rfl rfl (by omega) (by omega) (by omega)) ?_
        refine XOps.s rfl rfl rfl (Q.assign_vs rfl) ?_
        refine XOps.nil ?_
        refine W.seq ?_
        refine W.reg ?_
        refine XOps.s rfl rfl rfl (Q.move_vs rfl) ?_
        refine XOps.s rfl rfl rfl (Q.move_vs rfl) ?_
        refine XOps.s rfl rfl rfl (Q.move_d rfl) ?_
        refine XOps.s rfl rfl rfl (Q.move_d rfl) ?_
        refine XOps.s rfl rfl rfl (Q.add rfl rfl (wi64 (by first | omega | (dsimp only; omega) | (simp only [List.length_map]; omega)) (by first | omega | (dsimp only; omega) | (simp only [List.length_map]; omega)))) ?_
        refine XOps.s rfl rfl rfl (Q.cut_cap (kk := 0) sl37 rfl rfl rfl rfl (by omega) (by omega) (by omega)) ?_
        refine XOps.s rfl rfl rfl (Q.overlaps (k := 1) (k2 := 2) sl37 rfl (run_callFunc_extern (e := Extern.SlicesOverlaps.overlaps #[37, 37] #[4]) Tryz.func108 (by kernel_rfl) (by kernel_rfl) (by kernel_rfl) (by kernel_rfl)) rfl rfl rfl rfl (by decide) (by decide) (by omega)) ?_
        refine XOps.s rfl rfl rfl (Q.not rfl) ?_
        refine XOps.nil ?_
        refine W.cond_t rfl ?_
        refine W.drawTreg 9 [8] follows (by kernel_rfl) (by decide) ?_
        apply DT.moreF [.new, .new, .new, .new, .new, .new, .new, .new, .now] (by kernel_rfl)
        refine PC.new _ rfl (GQ.q rfl (Q.move_vs rfl)) rfl ?_
        refine PC.new _ rfl (GQ.q rfl (Q.move_d rfl)) rfl ?_
        refine PC.new _ rfl (GQ.q rfl (Q.move_d rfl)) rfl ?_
        refine PC.new _ rfl (GQ.q rfl (Q.add rfl rfl (wi64 (by first | omega | (dsimp only; omega) | (simp only [List.length_map]; omega)) (by first | omega | (dsimp only; omega) | (simp only [List.length_map]; omega))))) rfl ?_
        refine PC.new _ rfl (GQ.q rfl (Q.cut_cap (kk := 0) sl37 rfl rfl rfl rfl (by omega) (by omega) (by omega))) rfl ?_
        refine PC.new _ rfl (GQ.q rfl (Q.move_vs rfl)) rfl ?_
        refine PC.new _ rfl (GQ.q rfl (Q.move_d rfl)) rfl ?_
        refine PC.new _ rfl (GQ.q rfl (Q.cut_cap (kk := 0) sl37 rfl rfl rfl rfl (by omega) (by omega) (by omega))) rfl ?_
        refine PC.now rfl rfl (fun τ => Loud.to (L.copy_own (k := 2) (k2 := 2) (rows.length - i) sl37 rfl rfl (by omega) rfl rfl (by omega) (by omega) rfl) (fun _ _ h => ⟨_, h.1, rfl, h.2⟩)) ?_
        refine PC.nil ?_
        rintro _ _ ⟨rfl, rfl⟩
        refine DT.last [.did, .did, .did, .did, .did, .did, .did, .did, .did] (by kernel_rfl) ?_
        refine PC.did rfl ?_
        refine PC.did rfl ?_
        refine PC.did rfl ?_
        refine PC.did rfl ?_
        refine PC.did rfl ?_
        refine PC.did rfl ?_
        refine PC.did rfl ?_
        refine PC.did rfl ?_
        refine PC.did rfl ?_
        refine PC.nil ?_
        refine XOps.nil ?_
        refine W.reg ?_
        refine XOps.s rfl rfl rfl (Q.move_vs rfl) ?_
        refine XOps.s rfl rfl rfl (Q.move_d rfl) ?_
        refine XOps.s rfl rfl rfl (Q.cut_cap (kk := 0) sl37 rfl rfl rfl rfl (by omega) (by omega) (by omega)) ?_
        refine XOps.s rfl rfl rfl (Q.move_vs rfl) ?_
        (refine XOps.loud rfl (L.copy_own (k := 2) (k2 := 1) 1 sl37 rfl rfl (by simp; omega) rfl rfl (by omega) (by simp) rfl) ?_; rintro _ _ ⟨rfl, rfl⟩)
        refine XOps.nil ?_
        refine W.reg ?_
        refine XOps.s rfl rfl rfl (Q.move_vs rfl) ?_
        refine XOps.s rfl rfl rfl (Q.assign_vs rfl) ?_
        refine XOps.nil ?_
        refine W.ret ?_
        exact ⟨_, (id, .lst 8 (rows.take i ++ x :: rows.drop i)) :: hs, rfl, HLe.skip _ (HLe.skip _ (HLe.cons' (by refine (congrArg (HO.lst 8) (ins_in rows x i (by omega)).symm).trans ?_; simp only [Nat.zero_add, (show ((i : Int) + ((1 : Nat) : Int)).toNat = i + 1 by omega), Int.toNat_natCast]; rfl) (HLe.refl _))), id, (by show AV.vs _ _ _ _ = _; exact vs_eq (by omega)), rfl⟩
theorem insF_c (vid id i : Nat) (x : Fl) (l : List Fl) (hs : Hp) (hi : i ≤ l.length) (hn : l.length ≤ 100000) : AC P 83 [.vs id 0 l.length 8, .d (.int .i64 i), .vs vid 0 1 8] ((vid, .lst 8 [Fl.enc x]) :: (id, .lst 8 (l.map Fl.enc)) :: hs)
    (fun r h => ∃ id2, r = .vs id2 0 (l.length + 1) 8 ∧ h = (id2, .lst 8 ((l.take i ++ x :: l.drop i).map Fl.enc)) :: hs) := by
  have h := insF_c_raw vid id i (Fl.enc x) (l.map Fl.enc) hs (by simpa using hi) (by simpa using hn) rfl (by simp [Fl.enc, lgD, tuD, D.one])
  rw [List.length_map] at h
  exact h.mono fun r h' ⟨id2, h1, h2⟩ => ⟨id2, h1, by rw [h2]; simp⟩
set_option maxHeartbeats 1000000 in
set_option maxRecDepth 100000 in
theorem delF_c (m i j : Nat) (rows : List (List D)) (hs : Hp) (hij : i < j) (hj : j ≤ rows.length) (hn : rows.length ≤ 4611686018427387904) : AC P 87 [.vs m 0 rows.length 8, .d (.int .i64 i), .d (.int .i64 j)] ((m, .lst 8 rows) :: hs) (fun r h => r = .vs m 0 (rows.length - (j - i)) 8 ∧ h = (m, .lst 8 (rows.take i ++ rows.drop j)) :: hs) := by
  refine AC.of 33 Tryz.func87 rfl rfl rfl ?_
  refine W.reg ?_
  refine XOps.s rfl rfl rfl (Q.assign_nilsl rfl) ?_
  refine XOps.nil ?_
  refine W.reg ?_
  refine XOps.s rfl rfl rfl (Q.move_vs rfl) ?_
  refine XOps.s rfl rfl rfl (Q.move_d rfl) ?_
  refine XOps.s rfl rfl rfl (Q.move_d rfl) ?_
  refine XOps.s rfl rfl rfl (Q.move_vs rfl) ?_
  refine XOps.s rfl rfl rfl (Q.len_vs isl37 rfl) ?_
  refine XOps.s rfl rfl rfl (Q.cut3_vs sl37 rfl rfl rfl rfl (by first | omega | (simp at hg; omega)) (by first | omega | (simp at hg; omega)) (by first | omega | (simp at hg; omega)) (by first | omega | (simp at hg; omega))) ?_
  refine XOps.nil ?_
  refine W.seq ?_
  refine W.reg ?_
  refine XOps.s rfl rfl rfl (Q.move_d rfl) ?_
  refine XOps.s rfl rfl rfl (Q.move_d rfl) ?_
  refine XOps.s rfl rfl rfl (Q.eql rfl rfl) ?_
  refine XOps.nil ?_
  refine W.cond rfl (fun hc16 => ?_) (fun hc16 => ?_)
  · try simp only [Bool.or_eq_true, Bool.or_eq_false_iff, Bool.and_eq_true, Bool.and_eq_false_iff, decide_eq_true_eq, decide_eq_false_iff_not, Bool.not_eq_true', Bool.not_eq_false', Int.not_lt, Int.not_le, List.length_map] at hc16
    exact absurd hc16 (by omega)
  · try simp only [Bool.or_eq_true, Bool.or_eq_false_iff, Bool.and_eq_true, Bool.and_eq_false_iff, decide_eq_true_eq, decide_eq_false_iff_not, Bool.not_eq_true', Bool.not_eq_false', Int.not_lt, Int.not_le, List.length_map] at hc16
    refine W.skip ?_
    refine W.reg ?_
    refine XOps.s rfl rfl rfl (Q.move_vs rfl) ?_
    refine XOps.s rfl rfl rfl (Q.len_vs isl37 rfl) ?_
    refine XOps.s rfl rfl rfl (Q.assign_d rfl) ?_
    refine XOps.nil ?_
    refine W.drawTreg 8 [6] follows (by kernel_rfl) (by decide) ?_
    refine DT.more (Rp := fun v h => v = .vs m 0 (i + (rows.length - j)) 8 ∧ h = (m, .lst 8 (rows.take i ++ (rows.drop j).take (rows.length - j) ++ rows.drop (i + (rows.length - j)))) :: hs) [.new, .new, .new, .new, .new, .new, .now, .later] (by kernel_rfl) ?_
    refine PC.new _ rfl (GQ.q rfl (Q.move_vs rfl)) rfl ?_
    refine PC.new _ rfl (GQ.q rfl (Q.move_d rfl)) rfl ?_
    refine PC.new _ rfl (GQ.q rfl (Q.cut_vs sl37 rfl rfl rfl (by first | omega | (simp only [List.length_map]; omega)) (by first | omega | (simp only [List.length_map]; omega)) (by first | omega | (simp only [List.length_map]; omega)))) rfl ?_
    refine PC.new _ rfl (GQ.q rfl (Q.move_vs rfl)) rfl ?_
    refine PC.new _ rfl (GQ.q rfl (Q.move_d rfl)) rfl ?_
    refine PC.new _ rfl (GQ.q rfl (Q.cut_vs sl37 rfl rfl rfl (by first | omega | (simp only [List.length_map]; omega)) (by first | omega | (simp only [List.length_map]; omega)) (by first | omega | (simp only [List.length_map]; omega)))) rfl ?_
    refine PC.now rfl rfl (fun τ => Loud.to (L.app_in (k := 0) ap37 rfl rfl rfl (by simp; omega) (by simp; omega) rfl) (fun _ _ h => ⟨_, h.1, rfl, by simpa using h.2⟩)) ?_
    refine PC.later rfl ?_
    refine PC.nil ?_
    rintro _ _ ⟨rfl, rfl⟩
    refine DT.last [.did, .did, .did, .did, .did, .did, .did, .new] (by kernel_rfl) ?_
    refine PC.did rfl ?_
    refine PC.did rfl ?_
    refine PC.did rfl ?_
    refine PC.did rfl ?_
    refine PC.did rfl ?_
    refine PC.did rfl ?_
    refine PC.did rfl ?_
    refine PC.new _ rfl (GQ.q rfl (Q.assign_vs rfl)) rfl ?_
    refine PC.nil ?_
    refine XOps.nil ?_
    refine W.reg ?_
    refine XOps.s rfl rfl rfl (Q.move_vs rfl) ?_
    refine XOps.s rfl rfl rfl (Q.move_vs rfl) ?_
    refine XOps.s rfl rfl rfl (Q.len_vs isl37 rfl) ?_
    refine XOps.s rfl rfl rfl (Q.move_d rfl) ?_
    refine XOps.s rfl rfl rfl (Q.cut_vs2 (kk := 0) sl37 rfl rfl rfl rfl (by omega) (by omega) (by simp; omega)) ?_
    refine XOps.loud rfl (L.clear (k := 0) sl37 zr37 rfl zrd37 (by decide) rfl rfl (by simp; omega)) ?_
    rintro _ _ ⟨rfl, rfl⟩
    refine XOps.nil ?_
    refine W.front_of 0 (rows.length - (j - i)) rfl ?_
    refine W.reg ?_
    refine XOps.s rfl rfl rfl (Q.move_vs rfl) ?_
    refine XOps.s rfl rfl rfl (Q.assign_vs rfl) ?_
    refine XOps.nil ?_
    refine W.ret ?_
    refine ⟨_, (m, .lst 8 (rows.take i ++ rows.drop j)) :: hs, rfl, HLe.cons' ?_ (HLe.refl _), ?_, rfl⟩
    · congr 1
      rw [List.append_assoc]
      exact (del_rows rows i j _ _ hij hj (by omega) (by omega) _ _).symm
    · show AV.vs _ _ _ _ = _
      congr 1
      omega
end Go.Proofs.YtaegeaajhbfkgaaGreatDoorA

