/- Library functions, On, List and find of package contact. -/
import Derived.Test.YtaegecnjimbfbaaBase
import Derived.Test.YtaegecnjimbfbaaSpec
import Derived.Test.YtaegecnjimbfbaaAbs13
set_option linter.unusedVariables false
set_option linter.unusedSimpArgs false
set_option linter.unnecessarySimpa false
namespace Go.Proofs.YtaegecnjimbfbaaA.FWalkA
open Go
theorem ag22 : tAgg P 22 = some ((false, 1)) := by kernel_rfl
theorem ag27 : tAgg P 27 = some ((true, 3)) := by kernel_rfl
theorem ag3 : tAgg P 3 = some ((false, 1)) := by kernel_rfl
theorem ag5 : tAgg P 5 = some ((false, 1)) := by kernel_rfl
theorem ag9 : tAgg P 9 = some ((false, 1)) := by kernel_rfl
theorem ap22 : tApp P 22 = some ((3, 32)) := by kernel_rfl
theorem ap31 : tApp P 31 = some ((1, 16)) := by kernel_rfl
theorem fl27_0 : tFld P 27 0 = some (0) := by kernel_rfl
theorem fl27_1 : tFld P 27 1 = some (1) := by kernel_rfl
theorem fl41_0 : tFld P 41 0 = some (0) := by kernel_rfl
theorem go18 : callGo Go.Proofs.Try.f18 = true := by kernel_rfl
theorem go19 : callGo Go.Proofs.Try.f19 = true := by kernel_rfl
theorem go20 : callGo Go.Proofs.Try.f20 = true := by kernel_rfl
theorem go24 : callGo Go.Proofs.Try.f24 = true := by kernel_rfl
theorem go25 : callGo Go.Proofs.Try.f25 = true := by kernel_rfl
theorem go26 : callGo Go.Proofs.Try.f26 = true := by kernel_rfl
theorem go29 : callGo Go.Proofs.Try.f29 = true := by kernel_rfl
theorem go31 : callGo Go.Proofs.Try.f31 = true := by kernel_rfl
theorem ibs55 : isBytes P 55 = true := by kernel_rfl
theorem ik3 : tInt P 3 = some (.i64) := by kernel_rfl
theorem ik59 : tInt P 59 = some (.u64) := by kernel_rfl
theorem isl22 : isSl P 22 = true := by kernel_rfl
theorem isl31 : isSl P 31 = true := by kernel_rfl
theorem isl55 : isSl P 55 = true := by kernel_rfl
theorem ist9 : isStr P 9 = true := by kernel_rfl
theorem sl22 : tSl P 22 = some (3) := by kernel_rfl
theorem sl31 : tSl P 31 = some (1) := by kernel_rfl
theorem sl55 : tSl P 55 = some (1) := by kernel_rfl
theorem tz27 : tZero P 27 = some ([.string ⟨#[]⟩, .int .i64 0, .int .i64 0]) := by kernel_rfl
theorem zr31 : tZrow P 31 = some ([.string ⟨#[]⟩]) := by kernel_rfl
theorem zrd31 : cellsD [.string ⟨#[]⟩] = some ([.str ⟨#[]⟩]) := rfl
end Go.Proofs.YtaegecnjimbfbaaA.FWalkA
namespace Go.Proofs.YtaegecnjimbfbaaA
open Go FWalkA
set_option maxHeartbeats 1000000 in
set_option maxRecDepth 100000 in
theorem named_c (s : ByteArray) (hs : Hp) (hL : s.size ≤ 140737488351232) : AC P 16 [.d (.str s)] hs (fun r h => r = .d (.bool (namedS s)) ∧ h = hs) := by
  have hbl := bytes_len s
  refine AC.of 40 Try.func16 rfl rfl rfl ?_
  refine W.reg ?_
  refine XOps.s rfl rfl rfl (Q.assign_d rfl) ?_
  refine XOps.nil ?_
  refine W.seq ?_
  refine W.reg ?_
  refine XOps.s rfl rfl rfl (Q.move_d rfl) ?_
  refine XOps.s rfl rfl rfl (Q.conv_bytes ist9 ibs55 rfl) ?_
  refine XOps.s rfl rfl rfl (Q.len_sl isl55 rfl) ?_
  refine XOps.s rfl rfl rfl (Q.move_d rfl) ?_
  refine XOps.nil ?_
  refine W.block ?_
  refine W.loop (ι := Nat) (fun k => [(0, .d (.str s)), (6, .d (bytesD s)), (7, .d (.int .i64 s.size)), (8, .d (.int .i64 k))]) (fun k => hs) (fun k => k ≤ s.size ∧ ∀ i, i < k → okB i (byteAt s i) = true) (fun k => s.size - k) 0 ?_ ?_ ?_ ?_
  · exact ⟨Nat.zero_le _, fun i hi => absurd hi (Nat.not_lt_zero _)⟩
  · exact ⟨by first | rfl | exact int_eq (by omega) | exact len_eq (by simp) | exact int_eq (by simp; done), by first | rfl | exact int_eq (by omega) | exact len_eq (by simp) | exact int_eq (by simp; done), by exact len_eq (bytes_len s), by first | rfl | exact int_eq (by omega) | exact len_eq (by simp) | exact int_eq (by simp; done), trivial⟩
  · repeat (first | exact HLe.refl _ | refine HLe.cons' (by first | rfl | (simp; done)) ?_ | refine HLe.pick 1 rfl (by first | rfl | (simp; done)) ?_ | refine HLe.pick 2 rfl (by first | rfl | (simp; done)) ?_ | refine HLe.pick 3 rfl (by first | rfl | (simp; done)) ?_ | refine HLe.pick 4 rfl (by first | rfl | (simp; done)) ?_ | refine HLe.pick 5 rfl (by first | rfl | (simp; done)) ?_ | refine HLe.skip _ ?_)
  · rintro k ⟨hk, hI⟩
    try dsimp only
    refine W.reg ?_
    refine XOps.s rfl rfl rfl (Q.lss rfl rfl) ?_
    refine XOps.nil ?_
    refine W.seq ?_
    refine W.cond rfl (fun hc9 => ?_) (fun hc9 => ?_)
    · try simp only [Bool.or_eq_true, Bool.or_eq_false_iff, Bool.and_eq_true, Bool.and_eq_false_iff, decide_eq_true_eq, decide_eq_false_iff_not, Bool.not_eq_true', Bool.not_eq_false', Int.not_lt, Int.not_le, List.length_map] at hc9
      have hks : k < s.size := by omega
      have hb := okB_iff k (byteAt s k)
      refine W.skip ?_
      refine W.seq ?_
      refine W.block ?_
      refine W.reg ?_
      refine XOps.s rfl rfl rfl (Q.move_d rfl) ?_
      refine XOps.s rfl rfl rfl (Q.idx_sl sl55 (by decide) rfl rfl (by first | omega | (simp only [List.length_map]; omega)) (by exact bytes_row (by omega))) ?_
      refine XOps.s rfl rfl rfl (Q.ld_dp ag5 rfl rfl) ?_
      refine XOps.s rfl rfl rfl (Q.assign_d rfl) ?_
      refine XOps.s rfl rfl rfl (Q.assign_d rfl) ?_
      refine XOps.nil ?_
      refine W.reg ?_
      refine XOps.s rfl rfl rfl (Q.move_d rfl) ?_
      refine XOps.s rfl rfl rfl (Q.geq rfl rfl) ?_
      refine XOps.s rfl rfl rfl (Q.move_d rfl) ?_
      refine XOps.gs rfl rfl rfl rfl rfl rfl rfl (fun hg => Q.move_d rfl) ?_
      refine XOps.gs rfl rfl rfl rfl rfl rfl rfl (fun hg => Quiet.open 16 hg rfl (Q.leq rfl rfl)) ?_
      refine XOps.s rfl rfl rfl (Q.pick_and rfl rfl rfl (fun h => by first | (rw [h]; rfl) | (rw [hg, h]; rfl) | (simp [h, hg]; done))) ?_
      refine XOps.s rfl rfl rfl (Q.move_d rfl) ?_
      refine XOps.gs rfl rfl rfl rfl rfl rfl rfl (fun hg => Q.move_d rfl) ?_
      refine XOps.gs rfl rfl rfl rfl rfl rfl rfl (fun hg => Quiet.open 20 hg rfl (Q.gtr rfl rfl)) ?_
      refine XOps.gs rfl rfl rfl rfl rfl rfl rfl (fun hg => Quiet.open 21 hg rfl (Q.move_d rfl)) ?_
      refine XOps.gsw rfl rfl rfl rfl rfl rfl rfl (fun hg => Q.move_d rfl) ?_
      refine XOps.gsw rfl rfl rfl rfl rfl rfl rfl (fun hg => Quiet.open 23 hg rfl (Q.geq rfl rfl)) ?_
      refine XOps.gs rfl rfl rfl rfl rfl rfl rfl (fun hg => Quiet.open 22 hg rfl (Q.pick_and rfl rfl rfl (fun h => by first | (rw [h]; rfl) | (rw [hg, h]; rfl) | (simp [h, hg]; done)))) ?_
      refine XOps.gs rfl rfl rfl rfl rfl rfl rfl (fun hg => Quiet.open 25 hg rfl (Q.move_d rfl)) ?_
      refine XOps.gsw rfl rfl rfl rfl rfl rfl rfl (fun hg => Q.move_d rfl) ?_
      refine XOps.gsw rfl rfl rfl rfl rfl rfl rfl (fun hg => Quiet.open 27 hg rfl (Q.leq rfl rfl)) ?_
      refine XOps.gs rfl rfl rfl rfl rfl rfl rfl (fun hg => Quiet.open 26 hg rfl (Q.pick_and rfl rfl rfl (fun h => by first | (rw [h]; rfl) | (rw [hg, h]; rfl) | (simp [h, hg]; done)))) ?_
      refine XOps.s rfl rfl rfl (Q.pick_or rfl rfl rfl (fun h => by first | (rw [h]; rfl) | (rw [hg, h]; rfl) | (simp [h, hg]; done))) ?_
      refine XOps.s rfl rfl rfl (Q.not rfl) ?_
      refine XOps.nil ?_
      refine W.cond rfl (fun hc31 => ?_) (fun hc31 => ?_)
      · try simp only [Bool.or_eq_true, Bool.or_eq_false_iff, Bool.and_eq_true, Bool.and_eq_false_iff, decide_eq_true_eq, decide_eq_false_iff_not, Bool.not_eq_true', Bool.not_eq_false', Int.not_lt, Int.not_le, List.length_map] at hc31
        have hr : namedS s = false := named_bad hks (by cases h : okB k (byteAt s k) with | false => rfl | true => exact absurd (hb.1 h) (by unfold byteAt; omega))
        rw [hr]
        refine W.reg ?_
        refine XOps.s rfl rfl rfl (Q.assign_d rfl) ?_
        refine XOps.nil ?_
        refine W.ret ?_
        refine ⟨_, hs, rfl, by repeat (first | exact HLe.refl _ | refine HLe.cons' (by first | rfl | (simp; done)) ?_ | refine HLe.pick 1 rfl (by first | rfl | (simp; done)) ?_ | refine HLe.pick 2 rfl (by first | rfl | (simp; done)) ?_ | refine HLe.pick 3 rfl (by first | rfl | (simp; done)) ?_ | refine HLe.pick 4 rfl (by first | rfl | (simp; done)) ?_ | refine HLe.pick 5 rfl (by first | rfl | (simp; done)) ?_ | refine HLe.skip _ ?_), ?_, rfl⟩
        rfl
      · try simp only [Bool.or_eq_true, Bool.or_eq_false_iff, Bool.and_eq_true, Bool.and_eq_false_iff, decide_eq_true_eq, decide_eq_false_iff_not, Bool.not_eq_true', Bool.not_eq_false', Int.not_lt, Int.not_le, List.length_map] at hc31
        have hok : okB k (byteAt s k) = true := hb.2 (by unfold byteAt; omega)
        refine W.skip ?_
        refine W.region ?_
        refine XOps.s rfl rfl rfl (Q.add rfl rfl (wi64 (by first | omega | (dsimp only; omega) | (simp only [List.length_map]; omega)) (by first | omega | (dsimp only; omega) | (simp only [List.length_map]; omega)))) ?_
        refine XOps.s rfl rfl rfl (Q.move_d rfl) ?_
        refine XOps.nil ?_
        refine ⟨k + 1, ?_, ?_, ?_, ?_⟩
        · refine ⟨by omega, fun i hi => ?_⟩
          by_cases h : i = k
          · subst h; exact hok
          · exact hI i (by omega)
        · omega
        · exact ⟨by first | rfl | exact int_eq (by omega) | exact len_eq (by simp) | exact int_eq (by simp; done), by first | rfl | exact int_eq (by omega) | exact len_eq (by simp) | exact int_eq (by simp; done), by first | rfl | exact int_eq (by omega) | exact len_eq (by simp) | exact int_eq (by simp; done), by first | rfl | exact int_eq (by omega) | exact len_eq (by simp) | exact int_eq (by simp; done), trivial⟩
        · repeat (first | exact HLe.refl _ | refine HLe.cons' (by first | rfl | (simp; done)) ?_ | refine HLe.pick 1 rfl (by first | rfl | (simp; done)) ?_ | refine HLe.pick 2 rfl (by first | rfl | (simp; done)) ?_ | refine HLe.pick 3 rfl (by first | rfl | (simp; done)) ?_ | refine HLe.pick 4 rfl (by first | rfl | (simp; done)) ?_ | refine HLe.pick 5 rfl (by first | rfl | (simp; done)) ?_ | refine HLe.skip _ ?_)
    · try simp only [Bool.or_eq_true, Bool.or_eq_false_iff, Bool.and_eq_true, Bool.and_eq_false_iff, decide_eq_true_eq, decide_eq_false_iff_not, Bool.not_eq_true', Bool.not_eq_false', Int.not_lt, Int.not_le, List.length_map] at hc9
      have hr := named_ok fun i hi => hI i (by omega)
      rw [hr]
      refine W.exit ?_
      refine W.reg ?_
      refine XOps.s rfl rfl rfl (Q.move_d rfl) ?_
      refine XOps.s rfl rfl rfl (Q.neq_str rfl rfl) ?_
      refine XOps.s rfl rfl rfl (Q.move_d rfl) ?_
      refine XOps.gs rfl rfl rfl rfl rfl rfl rfl (fun hg => Q.move_d rfl) ?_
      refine XOps.gs rfl rfl rfl rfl rfl rfl rfl (fun hg => Quiet.open 36 hg rfl (Q.len_str ist9 rfl)) ?_
      refine XOps.gs rfl rfl rfl rfl rfl rfl rfl (fun hg => Quiet.open 37 hg rfl (Q.leq rfl rfl)) ?_
      refine XOps.s rfl rfl rfl (Q.pick_and rfl rfl rfl (fun h => by first | (rw [h]; rfl) | (rw [hg, h]; rfl) | (simp [h, hg]; done))) ?_
      refine XOps.s rfl rfl rfl (Q.assign_d rfl) ?_
      refine XOps.nil ?_
      refine W.ret ?_
      refine ⟨_, hs, rfl, by repeat (first | exact HLe.refl _ | refine HLe.cons' (by first | rfl | (simp; done)) ?_ | refine HLe.pick 1 rfl (by first | rfl | (simp; done)) ?_ | refine HLe.pick 2 rfl (by first | rfl | (simp; done)) ?_ | refine HLe.pick 3 rfl (by first | rfl | (simp; done)) ?_ | refine HLe.pick 4 rfl (by first | rfl | (simp; done)) ?_ | refine HLe.pick 5 rfl (by first | rfl | (simp; done)) ?_ | refine HLe.skip _ ?_), ?_, rfl⟩
      rfl

set_option maxHeartbeats 1000000 in
set_option maxRecDepth 100000 in
theorem valid_c (f : Int) (hs : Hp) : AC P 6 [.d (.int .i64 f)] hs (fun r h => r = .d (.bool (validF f)) ∧ h = hs) := by
  refine AC.of 14 Try.func6 rfl rfl rfl ?_
  refine W.reg ?_
  refine XOps.s rfl rfl rfl (Q.assign_d rfl) ?_
  refine XOps.nil ?_
  refine W.reg ?_
  refine XOps.s rfl rfl rfl (Q.move_d rfl) ?_
  refine XOps.s rfl rfl rfl (Q.geq rfl rfl) ?_
  refine XOps.s rfl rfl rfl (Q.move_d rfl) ?_
  refine XOps.gs rfl rfl rfl rfl rfl rfl rfl (fun hg => Q.move_d rfl) ?_
  refine XOps.gs rfl rfl rfl rfl rfl rfl rfl (fun hg => Quiet.open 6 hg rfl (Q.leq rfl rfl)) ?_
  refine XOps.s rfl rfl rfl (Q.pick_and rfl rfl rfl (fun h => by first | (rw [h]; rfl) | (rw [hg, h]; rfl) | (simp [h, hg]; done))) ?_
  refine XOps.s rfl rfl rfl (Q.move_d rfl) ?_
  refine XOps.gs rfl rfl rfl rfl rfl rfl rfl (fun hg => Q.move_d rfl) ?_
  refine XOps.gs rfl rfl rfl rfl rfl rfl rfl (fun hg => Quiet.open 10 hg rfl (Q.rem rfl rfl (by first | omega | (simp at hg; omega)) (wrem (by first | omega | (simp at hg; omega))))) ?_
  refine XOps.gs rfl rfl rfl rfl rfl rfl rfl (fun hg => Quiet.open 11 hg rfl (Q.eql rfl rfl)) ?_
  refine XOps.s rfl rfl rfl (Q.pick_and rfl rfl rfl (fun h => by first | (rw [h]; rfl) | (rw [hg, h]; rfl) | (simp [h, hg]; done))) ?_
  refine XOps.s rfl rfl rfl (Q.assign_d rfl) ?_
  refine XOps.nil ?_
  refine W.ret ?_
  refine ⟨_, hs, rfl, by repeat (first | exact HLe.refl _ | refine HLe.cons' (by first | rfl | (simp; done)) ?_ | refine HLe.pick 1 rfl (by first | rfl | (simp; done)) ?_ | refine HLe.pick 2 rfl (by first | rfl | (simp; done)) ?_ | refine HLe.pick 3 rfl (by first | rfl | (simp; done)) ?_ | refine HLe.pick 4 rfl (by first | rfl | (simp; done)) ?_ | refine HLe.pick 5 rfl (by first | rfl | (simp; done)) ?_ | refine HLe.skip _ ?_), ?_, rfl⟩
  unfold validF; rw [← Bool.and_assoc]; rfl

set_option maxHeartbeats 1000000 in
set_option maxRecDepth 100000 in
theorem cmps_c (a b : ByteArray) (hs : Hp) : AC P 31 [.d (.str a), .d (.str b)] hs (fun r h => r = .d (.int .i64 (cmpB a b)) ∧ h = hs) := by
  refine AC.of 8 Try.func31 rfl rfl rfl ?_
  refine W.reg ?_
  refine XOps.s rfl rfl rfl (Q.assign_d rfl) ?_
  refine XOps.nil ?_
  refine W.reg ?_
  refine XOps.s rfl rfl rfl (Q.move_d rfl) ?_
  refine XOps.s rfl rfl rfl (Q.move_d rfl) ?_
  refine XOps.s rfl rfl rfl (Q.cmpstr rfl (run_callFunc_extern (e := Extern.BytealgCompare.compare) Try.func35 (by kernel_rfl) (by kernel_rfl) (by kernel_rfl) (by kernel_rfl)) rfl rfl) ?_
  refine XOps.s rfl rfl rfl (Q.assign_d rfl) ?_
  refine XOps.nil ?_
  refine W.ret ?_
  refine ⟨_, hs, rfl, by repeat (first | exact HLe.refl _ | refine HLe.cons' (by first | rfl | (simp; done)) ?_ | refine HLe.pick 1 rfl (by first | rfl | (simp; done)) ?_ | refine HLe.pick 2 rfl (by first | rfl | (simp; done)) ?_ | refine HLe.pick 3 rfl (by first | rfl | (simp; done)) ?_ | refine HLe.pick 4 rfl (by first | rfl | (simp; done)) ?_ | refine HLe.pick 5 rfl (by first | rfl | (simp; done)) ?_ | refine HLe.skip _ ?_), ?_, rfl⟩
  rfl

set_option maxHeartbeats 1000000 in
set_option maxRecDepth 100000 in
theorem compare_c (a b : ByteArray) (hs : Hp) : AC P 26 [.d (.str a), .d (.str b)] hs (fun r h => r = .d (.int .i64 (cmpB a b)) ∧ h = hs) := by
  refine AC.of 8 Try.func26 rfl rfl rfl ?_
  refine W.reg ?_
  refine XOps.s rfl rfl rfl (Q.assign_d rfl) ?_
  refine XOps.nil ?_
  refine W.reg ?_
  refine XOps.s rfl rfl rfl (Q.move_d rfl) ?_
  refine XOps.s rfl rfl rfl (Q.move_d rfl) ?_
  refine XOps.s rfl rfl rfl (Q.call rfl Try.func31 go31 rfl (cmps_c a b _)) ?_
  refine XOps.s rfl rfl rfl (Q.assign_d rfl) ?_
  refine XOps.nil ?_
  refine W.ret ?_
  refine ⟨_, hs, rfl, by repeat (first | exact HLe.refl _ | refine HLe.cons' (by first | rfl | (simp; done)) ?_ | refine HLe.pick 1 rfl (by first | rfl | (simp; done)) ?_ | refine HLe.pick 2 rfl (by first | rfl | (simp; done)) ?_ | refine HLe.pick 3 rfl (by first | rfl | (simp; done)) ?_ | refine HLe.pick 4 rfl (by first | rfl | (simp; done)) ?_ | refine HLe.pick 5 rfl (by first | rfl | (simp; done)) ?_ | refine HLe.skip _ ?_), ?_, rfl⟩
  rfl

set_option maxHeartbeats 1000000 in
set_option maxRecDepth 100000 in
theorem cC_c (c : ByteArray) (x : Ct) (hs : Hp) : AC P 25 [.d (.agg x.enc), .d (.str c)] hs (fun r h => r = .d (.int .i64 (cC c x)) ∧ h = hs) := by
  refine AC.of 9 Try.func25 rfl rfl rfl ?_
  refine W.reg ?_
  refine XOps.loud rfl (L.boxn rfl rfl) ?_
  rintro _ _ ⟨b2, rfl, rfl⟩
  refine XOps.s rfl rfl rfl (Q.assign_d rfl) ?_
  refine XOps.nil ?_
  refine W.reg ?_
  refine XOps.s rfl rfl rfl (Q.fld_ptr fl27_0 rfl) ?_
  refine XOps.s rfl rfl rfl (Q.ld_ptr (k := 0) ag9 rfl rfl rfl) ?_
  refine XOps.s rfl rfl rfl (Q.move_d rfl) ?_
  refine XOps.s rfl rfl rfl (Q.call rfl Try.func26 go26 rfl (compare_c x.call c _)) ?_
  refine XOps.s rfl rfl rfl (Q.assign_d rfl) ?_
  refine XOps.nil ?_
  refine W.ret ?_
  refine ⟨_, hs, rfl, by repeat (first | exact HLe.refl _ | refine HLe.cons' (by first | rfl | (simp; done)) ?_ | refine HLe.pick 1 rfl (by first | rfl | (simp; done)) ?_ | refine HLe.pick 2 rfl (by first | rfl | (simp; done)) ?_ | refine HLe.pick 3 rfl (by first | rfl | (simp; done)) ?_ | refine HLe.pick 4 rfl (by first | rfl | (simp; done)) ?_ | refine HLe.pick 5 rfl (by first | rfl | (simp; done)) ?_ | refine HLe.skip _ ?_), ?_, rfl⟩
  rfl

theorem map_atI {α β : Type} {l : List α} {z : Int} {x : α} {f : α → β} (hx : l[z.toNat]? = some x) : (l.map f)[z.toNat]? = some (f x) := by rw [List.getElem?_map, hx]; rfl
theorem und_int {t : Nat} {k : IntKind} (h : tInt P t = some k) : ∃ u, P.underlying t = some u := ⟨_, tInt_spec h⟩

set_option maxHeartbeats 1000000 in
set_option maxRecDepth 100000 in
theorem bs_c (c0 : ByteArray) {fn : Func} (f : Nat) (caps : List AV) (x0 : Ct) (c : Ct → Int) (l : List Ct) (hs : Hp) (hL : l.length ≤ 4611686018427387903) (hf : P.funcs[f]? = some fn) (hgo : callGo fn = true) (hp : ∀ x ∈ l, AC P f ([.d (.agg (Ct.enc x)), .d (.str c0)] ++ caps) hs (fun r h => r = .d (.int .i64 (c x)) ∧ h = hs)) (hm : ∀ (i j : Nat) (x y : Ct), i ≤ j → l[i]? = some x → l[j]? = some y → c y < 0 → c x < 0) : AC P 24 [.d (.sl 3 (l.map Ct.enc)), .d (.str c0), .fn f caps] hs (fun r h => r = .tup [.d (.int .i64 (bsK c l : Nat)), .d (.bool (bsF c l))] ∧ h = hs) := by
  refine AC.of 49 Try.func24 rfl rfl rfl ?_
  refine W.reg ?_
  refine XOps.s rfl rfl rfl (Q.assign_d rfl) ?_
  refine XOps.s rfl rfl rfl (Q.assign_d rfl) ?_
  refine XOps.nil ?_
  refine W.reg ?_
  refine XOps.s rfl rfl rfl (Q.move_d rfl) ?_
  refine XOps.s rfl rfl rfl (Q.len_sl isl22 rfl) ?_
  refine XOps.s rfl rfl rfl (Q.assign_d rfl) ?_
  refine XOps.nil ?_
  refine W.reg ?_
  refine XOps.s rfl rfl rfl (Q.move_d rfl) ?_
  refine XOps.s rfl rfl rfl (Q.assign_d rfl) ?_
  refine XOps.s rfl rfl rfl (Q.assign_d rfl) ?_
  refine XOps.nil ?_
  refine W.seq ?_
  refine W.block ?_
  refine W.loop (ι := Nat × Nat) (fun p => [(0, .d (.sl 3 (l.map Ct.enc))), (1, .d (.str c0)), (2, .fn f caps), (8, .d (.int .i64 l.length)), (9, .d (.int .i64 p.1)), (10, .d (.int .i64 p.2))]) (fun p => hs) (fun p => p.1 ≤ p.2 ∧ p.2 ≤ l.length ∧ (∀ (q : Nat) x, q < p.1 → l[q]? = some x → c x < 0) ∧ (∀ (q : Nat) x, p.2 ≤ q → l[q]? = some x → ¬ c x < 0)) (fun p => p.2 - p.1) (0, l.length) ?_ ?_ ?_ ?_
  · exact ⟨Nat.zero_le _, Nat.le_refl _, fun q x h => absurd h (Nat.not_lt_zero _), fun q x h hx => absurd (List.getElem?_eq_some_iff.1 hx).1 (by dsimp only at h; omega)⟩
  · exact ⟨by first | rfl | exact int_eq (by omega) | exact len_eq (by simp) | exact int_eq (by simp; done), by first | rfl | exact int_eq (by omega) | exact len_eq (by simp) | exact int_eq (by simp; done), by first | rfl | exact int_eq (by omega) | exact len_eq (by simp) | exact int_eq (by simp; done), by first | rfl | exact int_eq (by omega) | exact len_eq (by simp) | exact int_eq (by simp; done), by first | rfl | exact int_eq (by omega) | exact len_eq (by simp) | exact int_eq (by simp; done), by first | rfl | exact int_eq (by omega) | exact len_eq (by simp) | exact int_eq (by simp; done), trivial⟩
  · repeat (first | exact HLe.refl _ | refine HLe.cons' (by first | rfl | (simp; done)) ?_ | refine HLe.pick 1 rfl (by first | rfl | (simp; done)) ?_ | refine HLe.pick 2 rfl (by first | rfl | (simp; done)) ?_ | refine HLe.pick 3 rfl (by first | rfl | (simp; done)) ?_ | refine HLe.pick 4 rfl (by first | rfl | (simp; done)) ?_ | refine HLe.pick 5 rfl (by first | rfl | (simp; done)) ?_ | refine HLe.skip _ ?_)
  · rintro ⟨i, j⟩ hI
    try dsimp only at hI ⊢
    refine W.seq ?_
    refine W.reg ?_
    refine XOps.s rfl rfl rfl (Q.move_d rfl) ?_
    refine XOps.s rfl rfl rfl (Q.move_d rfl) ?_
    refine XOps.s rfl rfl rfl (Q.lss rfl rfl) ?_
    refine XOps.nil ?_
    refine W.cond rfl (fun hc17 => ?_) (fun hc17 => ?_)
    · try simp only [Bool.or_eq_true, Bool.or_eq_false_iff, Bool.and_eq_true, Bool.and_eq_false_iff, decide_eq_true_eq, decide_eq_false_iff_not, Bool.not_eq_true', Bool.not_eq_false', Int.not_lt, Int.not_le, List.length_map] at hc17
      obtain ⟨x, hx⟩ : ∃ x, l[(i + j) / 2]? = some x := ⟨_, List.getElem?_eq_getElem (by omega)⟩
      refine W.skip ?_
      refine W.block ?_
      refine W.reg ?_
      refine XOps.s rfl rfl rfl (Q.move_d rfl) ?_
      refine XOps.s rfl rfl rfl (Q.move_d rfl) ?_
      refine XOps.s rfl rfl rfl (Q.add rfl rfl (wi64 (by first | omega | (dsimp only; omega) | (simp only [List.length_map]; omega)) (by first | omega | (dsimp only; omega) | (simp only [List.length_map]; omega)))) ?_
      refine XOps.s rfl rfl rfl (Q.conv_cnt ik59 rfl (und_int ik3) (by omega) (by omega) (.inl rfl)) ?_
      refine XOps.s rfl rfl rfl (Q.shr1 (n := i + j) rfl rfl) ?_
      refine XOps.s rfl rfl rfl (Q.conv_cnt ik3 rfl (und_int ik59) (by omega) (by omega) (.inr rfl)) ?_
      refine XOps.s rfl rfl rfl (Q.assign_d rfl) ?_
      refine XOps.nil ?_
      refine W.reg ?_
      refine XOps.s rfl rfl rfl (Q.move_fn rfl) ?_
      refine XOps.s rfl rfl rfl (Q.move_d rfl) ?_
      refine XOps.s rfl rfl rfl (Q.move_d rfl) ?_
      refine XOps.s rfl rfl rfl (Q.idx_sl sl22 (by decide) rfl rfl (by first | omega | (simp only [List.length_map]; omega)) (by first | exact map_at hx | exact map_at (hx (by first | omega | (simp at hg; omega))))) ?_
      refine XOps.s rfl rfl rfl (Q.ld_dpn ag27 rfl rfl) ?_
      refine XOps.s rfl rfl rfl (Q.move_d rfl) ?_
      refine XOps.s rfl rfl rfl (Q.call rfl hf hgo rfl (hp x (List.mem_of_getElem? hx))) ?_
      refine XOps.s rfl rfl rfl (Q.lss rfl rfl) ?_
      refine XOps.nil ?_
      refine W.cond rfl (fun hc31 => ?_) (fun hc31 => ?_)
      · try simp only [Bool.or_eq_true, Bool.or_eq_false_iff, Bool.and_eq_true, Bool.and_eq_false_iff, decide_eq_true_eq, decide_eq_false_iff_not, Bool.not_eq_true', Bool.not_eq_false', Int.not_lt, Int.not_le, List.length_map] at hc31
        have hlo := hc31
        refine W.region ?_
        refine XOps.s rfl rfl rfl (Q.move_d rfl) ?_
        refine XOps.s rfl rfl rfl (Q.add rfl rfl (wi64 (by first | omega | (dsimp only; omega) | (simp only [List.length_map]; omega)) (by first | omega | (dsimp only; omega) | (simp only [List.length_map]; omega)))) ?_
        refine XOps.s rfl rfl rfl (Q.assign_d rfl) ?_
        refine XOps.nil ?_
        refine ⟨by clear hlo; exact ((i + j) / 2 + 1, j), ?_, ?_, ?_, ?_⟩
        · exact ⟨by dsimp only; omega, hI.2.1, fun q y hq hy => hm q _ y x (by dsimp only at hq; omega) hy hx hc31, hI.2.2.2⟩
        · dsimp only; omega
        · exact ⟨by first | rfl | exact int_eq (by omega) | exact len_eq (by simp) | exact int_eq (by simp; done), by first | rfl | exact int_eq (by omega) | exact len_eq (by simp) | exact int_eq (by simp; done), by first | rfl | exact int_eq (by omega) | exact len_eq (by simp) | exact int_eq (by simp; done), by first | rfl | exact int_eq (by omega) | exact len_eq (by simp) | exact int_eq (by simp; done), by first | rfl | exact int_eq (by omega) | exact len_eq (by simp) | exact int_eq (by simp; done), by first | rfl | exact int_eq (by omega) | exact len_eq (by simp) | exact int_eq (by simp; done), trivial⟩
        · repeat (first | exact HLe.refl _ | refine HLe.cons' (by first | rfl | (simp; done)) ?_ | refine HLe.pick 1 rfl (by first | rfl | (simp; done)) ?_ | refine HLe.pick 2 rfl (by first | rfl | (simp; done)) ?_ | refine HLe.pick 3 rfl (by first | rfl | (simp; done)) ?_ | refine HLe.pick 4 rfl (by first | rfl | (simp; done)) ?_ | refine HLe.pick 5 rfl (by first | rfl | (simp; done)) ?_ | refine HLe.skip _ ?_)
      · try simp only [Bool.or_eq_true, Bool.or_eq_false_iff, Bool.and_eq_true, Bool.and_eq_false_iff, decide_eq_true_eq, decide_eq_false_iff_not, Bool.not_eq_true', Bool.not_eq_false', Int.not_lt, Int.not_le, List.length_map] at hc31
        have hhi := hc31
        refine W.region ?_
        refine XOps.s rfl rfl rfl (Q.move_d rfl) ?_
        refine XOps.s rfl rfl rfl (Q.assign_d rfl) ?_
        refine XOps.nil ?_
        refine ⟨by clear hhi; exact (i, (i + j) / 2), ?_, ?_, ?_, ?_⟩
        · exact ⟨by dsimp only; omega, by dsimp only; omega, hI.2.2.1, fun q y hq hy hn => absurd (hm _ q x y hq hx hy hn) (by omega)⟩
        · dsimp only; omega
        · exact ⟨by first | rfl | exact int_eq (by omega) | exact len_eq (by simp) | exact int_eq (by simp; done), by first | rfl | exact int_eq (by omega) | exact len_eq (by simp) | exact int_eq (by simp; done), by first | rfl | exact int_eq (by omega) | exact len_eq (by simp) | exact int_eq (by simp; done), by first | rfl | exact int_eq (by omega) | exact len_eq (by simp) | exact int_eq (by simp; done), by first | rfl | exact int_eq (by omega) | exact len_eq (by simp) | exact int_eq (by simp; done), by first | rfl | exact int_eq (by omega) | exact len_eq (by simp) | exact int_eq (by simp; done), trivial⟩
        · repeat (first | exact HLe.refl _ | refine HLe.cons' (by first | rfl | (simp; done)) ?_ | refine HLe.pick 1 rfl (by first | rfl | (simp; done)) ?_ | refine HLe.pick 2 rfl (by first | rfl | (simp; done)) ?_ | refine HLe.pick 3 rfl (by first | rfl | (simp; done)) ?_ | refine HLe.pick 4 rfl (by first | rfl | (simp; done)) ?_ | refine HLe.pick 5 rfl (by first | rfl | (simp; done)) ?_ | refine HLe.skip _ ?_)
    · try simp only [Bool.or_eq_true, Bool.or_eq_false_iff, Bool.and_eq_true, Bool.and_eq_false_iff, decide_eq_true_eq, decide_eq_false_iff_not, Bool.not_eq_true', Bool.not_eq_false', Int.not_lt, Int.not_le, List.length_map] at hc17
      obtain rfl : i = j := by omega
      have hK : bsK c l = i := bsK_eq c hI.2.2.1 (fun x hx => hI.2.2.2 i x (Nat.le_refl _) hx) hI.2.1
      obtain ⟨x, hx⟩ : ∃ x, i < l.length → l[i]? = some x := by
        rcases Nat.lt_or_ge i l.length with h | h
        · exact ⟨l[i], fun _ => List.getElem?_eq_getElem h⟩
        · exact ⟨x0, fun h2 => absurd h2 (by omega)⟩
      have hF : bsF c l = (decide ((i : Int) < (l.length : Nat)) && decide (c x = 0)) := by
        unfold bsF; rw [hK]
        rcases Nat.lt_or_ge i l.length with h | h
        · rw [hx h, decide_eq_true (show (i : Int) < (l.length : Nat) by omega)]; rfl
        · rw [List.getElem?_eq_none h, decide_eq_false (show ¬ (i : Int) < (l.length : Nat) by omega)]; rfl
      refine W.exit ?_
      refine W.reg ?_
      refine XOps.s rfl rfl rfl (Q.move_d rfl) ?_
      refine XOps.s rfl rfl rfl (Q.move_d rfl) ?_
      refine XOps.s rfl rfl rfl (Q.move_d rfl) ?_
      refine XOps.s rfl rfl rfl (Q.lss rfl rfl) ?_
      refine XOps.s rfl rfl rfl (Q.move_d rfl) ?_
      refine XOps.gs rfl rfl rfl rfl rfl rfl rfl (fun hg => Q.move_fn rfl) ?_
      refine XOps.gs rfl rfl rfl rfl rfl rfl rfl (fun hg => Q.move_d rfl) ?_
      refine XOps.gs rfl rfl rfl rfl rfl rfl rfl (fun hg => Q.move_d rfl) ?_
      refine XOps.gs rfl rfl rfl rfl rfl rfl rfl (fun hg => Quiet.open 41 hg rfl (Quiet.open 42 hg rfl (Q.idx_sl sl22 (by decide) rfl rfl (by first | omega | (simp only [List.length_map]; omega)) (by first | exact map_at hx | exact map_at (hx (by first | omega | (simp at hg; omega))))))) ?_
      refine XOps.gs rfl rfl rfl rfl rfl rfl rfl (fun hg => Quiet.open 43 hg rfl (Q.ld_dpn ag27 rfl rfl)) ?_
      refine XOps.gs rfl rfl rfl rfl rfl rfl rfl (fun hg => Q.move_d rfl) ?_
      refine XOps.gs rfl rfl rfl rfl rfl rfl rfl (fun hg => Quiet.open 40 hg rfl (Quiet.open 44 hg rfl (Quiet.open 45 hg rfl (Q.call rfl hf hgo rfl (hp x (List.mem_of_getElem? (hx (by first | omega | (simp at hg; omega))))))))) ?_
      refine XOps.gs rfl rfl rfl rfl rfl rfl rfl (fun hg => Quiet.open 46 hg rfl (Q.eql rfl rfl)) ?_
      refine XOps.s rfl rfl rfl (Q.pick_and rfl rfl rfl (fun h => by first | (rw [h]; rfl) | (rw [hg, h]; rfl) | (simp [h, hg]; done))) ?_
      refine XOps.s rfl rfl rfl (Q.assign_d rfl) ?_
      refine XOps.s rfl rfl rfl (Q.assign_d rfl) ?_
      refine XOps.nil ?_
      refine W.ret ?_
      refine ⟨_, hs, rfl, by repeat (first | exact HLe.refl _ | refine HLe.cons' (by first | rfl | (simp; done)) ?_ | refine HLe.pick 1 rfl (by first | rfl | (simp; done)) ?_ | refine HLe.pick 2 rfl (by first | rfl | (simp; done)) ?_ | refine HLe.pick 3 rfl (by first | rfl | (simp; done)) ?_ | refine HLe.pick 4 rfl (by first | rfl | (simp; done)) ?_ | refine HLe.pick 5 rfl (by first | rfl | (simp; done)) ?_ | refine HLe.skip _ ?_), ?_, rfl⟩
      rw [hK, hF]; rfl

set_option maxHeartbeats 1000000 in
set_option maxRecDepth 100000 in
theorem find_c (b id : Nat) (l : List Ct) (c : ByteArray) (hs : Hp) (hok : okC l) (hl : l.length ≤ 1000) : AC P 15 [.ptr b 0, .d (.str c)] (stC b l id hs) (fun r h => r = .tup [.d (.int .i64 (atK l c : Nat)), .d (.bool (isF l c))] ∧ h = stC b l id hs) := by
  refine AC.of 14 Try.func15 rfl rfl rfl ?_
  refine W.reg ?_
  refine XOps.s rfl rfl rfl (Q.assign_d rfl) ?_
  refine XOps.s rfl rfl rfl (Q.assign_d rfl) ?_
  refine XOps.nil ?_
  refine W.reg ?_
  refine XOps.s rfl rfl rfl (Q.move_ptr rfl) ?_
  refine XOps.s rfl rfl rfl (Q.nil_ptr rfl) ?_
  refine XOps.s rfl rfl rfl (Q.fld_ptr fl41_0 rfl) ?_
  refine XOps.s rfl rfl rfl (Q.ld_ptr (k := 0) ag22 rfl rfl rfl) ?_
  refine XOps.s rfl rfl rfl (Q.move_d rfl) ?_
  refine XOps.s rfl rfl rfl (Q.bcall rfl Try.func24 go24 rfl (.cons (.b1 (.b0 (.vs 1 rfl (by simp)))) (.cons (.b1 (.b0 (.d _))) (.cons (.fn (.nil)) .nil))) (bs_c c 25 [] ⟨c, 0, 0⟩ (cC c) l [] (by omega) Try.func25 go25 (fun x _ => cC_c c x []) (hok.mono c)) (by simp [OkR, Ok1, D.flat])) ?_
  refine XOps.s rfl rfl rfl (Q.extract rfl rfl) ?_
  refine XOps.s rfl rfl rfl (Q.extract rfl rfl) ?_
  refine XOps.s rfl rfl rfl (Q.assign_d rfl) ?_
  refine XOps.s rfl rfl rfl (Q.assign_d rfl) ?_
  refine XOps.nil ?_
  refine W.ret ?_
  exact ⟨_, stC b l id hs, rfl, HLe.refl _, rfl, rfl⟩

set_option maxHeartbeats 1000000 in
set_option maxRecDepth 100000 in
theorem cloneC_c (l : List Ct) (hs : Hp) (hL : l.length * 32 ≤ 140737488355328) : AC P 19 [.d (.sl 3 (l.map Ct.enc))] hs (fun r h => ∃ v, r = .vs v 0 l.length 3 ∧ h = (v, .lst 3 (l.map Ct.enc)) :: hs) := by
  refine AC.of 8 Try.func19 rfl rfl rfl ?_
  refine W.reg ?_
  refine XOps.s rfl rfl rfl (Q.assign_nilsl rfl) ?_
  refine XOps.nil ?_
  refine W.seq ?_
  refine W.reg ?_
  refine XOps.s rfl rfl rfl (Q.move_d rfl) ?_
  (refine XOps.loud rfl (L.eqnil sl22 (by decide) rfl rfl rfl) ?_; rintro _ _ ⟨bb, hbb, rfl, hh⟩; obtain rfl := hh.symm)
  refine XOps.nil ?_
  refine W.cond rfl (fun hc4 => ?_) (fun hc4 => ?_)
  · try simp only [Bool.or_eq_true, Bool.or_eq_false_iff, Bool.and_eq_true, Bool.and_eq_false_iff, decide_eq_true_eq, decide_eq_false_iff_not, Bool.not_eq_true', Bool.not_eq_false', Int.not_lt, Int.not_le, List.length_map] at hc4
    have hle : l = [] := by simpa using hbb hc4
    subst hle
    refine W.reg ?_
    refine XOps.s rfl rfl rfl (Q.assign_nilsl rfl) ?_
    refine XOps.nil ?_
    refine W.ghost 2 3 (by decide) rfl rfl (fun v2 => ?_)
    refine W.ret ?_
    exact ⟨_, (v2, .lst 3 []) :: hs, rfl, by repeat (first | exact HLe.refl _ | refine HLe.cons' (by first | rfl | (simp; done)) ?_ | refine HLe.pick 1 rfl (by first | rfl | (simp; done)) ?_ | refine HLe.pick 2 rfl (by first | rfl | (simp; done)) ?_ | refine HLe.pick 3 rfl (by first | rfl | (simp; done)) ?_ | refine HLe.pick 4 rfl (by first | rfl | (simp; done)) ?_ | refine HLe.pick 5 rfl (by first | rfl | (simp; done)) ?_ | refine HLe.skip _ ?_), v2, rfl, rfl⟩
  · try simp only [Bool.or_eq_true, Bool.or_eq_false_iff, Bool.and_eq_true, Bool.and_eq_false_iff, decide_eq_true_eq, decide_eq_false_iff_not, Bool.not_eq_true', Bool.not_eq_false', Int.not_lt, Int.not_le, List.length_map] at hc4
    refine W.skip ?_
    refine W.reg ?_
    refine XOps.s rfl rfl rfl (Q.bsl0 sl22) ?_
    refine XOps.s rfl rfl rfl (Q.move_d rfl) ?_
    refine XOps.loud rfl (L.app_new ap22 (.inl rfl) (by first | exact .inl rfl | exact .inr (by simp)) rfl (by simp; omega) rfl) ?_
    rintro _ _ ⟨v7, rfl, rfl⟩
    refine XOps.s rfl rfl rfl (Q.assign_vs rfl) ?_
    refine XOps.nil ?_
    refine W.ret ?_
    exact ⟨_, (v7, .lst 3 (l.map Ct.enc)) :: hs, rfl, by repeat (first | exact HLe.refl _ | refine HLe.cons' (by first | rfl | (simp; done)) ?_ | refine HLe.pick 1 rfl (by first | rfl | (simp; done)) ?_ | refine HLe.pick 2 rfl (by first | rfl | (simp; done)) ?_ | refine HLe.pick 3 rfl (by first | rfl | (simp; done)) ?_ | refine HLe.pick 4 rfl (by first | rfl | (simp; done)) ?_ | refine HLe.pick 5 rfl (by first | rfl | (simp; done)) ?_ | refine HLe.skip _ ?_), v7, by show AV.vs _ _ _ _ = _; congr 1; simp, rfl⟩

set_option maxHeartbeats 1000000 in
set_option maxRecDepth 100000 in
theorem list_c (b id : Nat) (l : List Ct) (hs : Hp) (hl : l.length ≤ 1000) : AC P 10 [.ptr b 0] (stC b l id hs) (fun r h => ∃ v, r = .vs v 0 l.length 3 ∧ h = (v, .lst 3 (l.map Ct.enc)) :: stC b l id hs) := by
  refine AC.of 8 Try.func10 rfl rfl rfl ?_
  refine W.reg ?_
  refine XOps.s rfl rfl rfl (Q.assign_nilsl rfl) ?_
  refine XOps.nil ?_
  refine W.reg ?_
  refine XOps.s rfl rfl rfl (Q.move_ptr rfl) ?_
  refine XOps.s rfl rfl rfl (Q.nil_ptr rfl) ?_
  refine XOps.s rfl rfl rfl (Q.fld_ptr fl41_0 rfl) ?_
  refine XOps.s rfl rfl rfl (Q.ld_ptr (k := 0) ag22 rfl rfl rfl) ?_
  (refine XOps.loud rfl (L.bcall rfl Try.func19 go19 rfl (.cons (.b1 (.b0 (.vs 1 rfl (by simp)))) .nil) (cloneC_c l [] (by omega)) (fun r h ⟨v, h1, h2⟩ => by subst h1; subst h2; exact ⟨by simp [OkR, Ok1], by simp [OkH, Ct.enc, D.flat]⟩) rfl) ?_; rintro _ _ ⟨_, _, rfl, ⟨v, rfl, rfl⟩, rfl⟩)
  refine XOps.s rfl rfl rfl (Q.assign_vs rfl) ?_
  refine XOps.nil ?_
  refine W.ret ?_
  exact ⟨_, (v, .lst 3 (l.map Ct.enc)) :: stC b l id hs, rfl, HLe.refl _, v, rfl, rfl⟩

set_option maxHeartbeats 1000000 in
set_option maxRecDepth 100000 in
theorem on_own (b id : Nat) (l : List Ct) (f : Int) (hs : Hp) (hl : l.length ≤ 1000) : AC P 9 [.ptr b 0, .d (.int .i64 f)] (stC b l id hs) (fun r h => ∃ v, r = .vs v 0 (onS l f).length 1 ∧ h = (v, .lst 1 ((onS l f).map sE)) :: stC b l id hs) := by
  refine AC.of 28 Try.func9 rfl rfl rfl ?_
  refine W.reg ?_
  refine XOps.s rfl rfl rfl (Q.assign_nilsl rfl) ?_
  refine XOps.nil ?_
  refine W.reg ?_
  refine XOps.s rfl rfl rfl (Q.assign_nilsl rfl) ?_
  refine XOps.nil ?_
  refine W.seq ?_
  refine W.reg ?_
  refine XOps.s rfl rfl rfl (Q.move_ptr rfl) ?_
  refine XOps.s rfl rfl rfl (Q.nil_ptr rfl) ?_
  refine XOps.s rfl rfl rfl (Q.fld_ptr fl41_0 rfl) ?_
  refine XOps.s rfl rfl rfl (Q.ld_ptr (k := 0) ag22 rfl rfl rfl) ?_
  refine XOps.s rfl rfl rfl (Q.len_vs isl22 rfl) ?_
  refine XOps.s rfl rfl rfl (Q.move_d rfl) ?_
  refine XOps.nil ?_
  refine W.ghost 5 1 (by decide) rfl rfl (fun v0 => ?_)
  refine W.block ?_
  refine W.loop (ι := Nat × Nat) (fun p => [(0, .ptr b 0), (1, .d (.int .i64 f)), (5, .vs p.2 0 (onS (l.take p.1) f).length 1), (11, .vs id 0 l.length 3), (12, .d (.int .i64 l.length)), (13, .d (.int .i64 p.1))]) (fun p => (p.2, .lst 1 ((onS (l.take p.1) f).map sE)) :: stC b l id hs) (fun p => p.1 ≤ l.length) (fun p => l.length - p.1) (0, v0) ?_ ?_ ?_ ?_
  · exact Nat.zero_le _
  · exact ⟨by first | rfl | exact int_eq (by omega) | exact len_eq (by simp) | exact int_eq (by simp; done), by first | rfl | exact int_eq (by omega) | exact len_eq (by simp) | exact int_eq (by simp; done), by first | rfl | exact int_eq (by omega) | exact len_eq (by simp) | exact int_eq (by simp; done), by first | rfl | exact int_eq (by omega) | exact len_eq (by simp) | exact int_eq (by simp; done), by first | rfl | exact int_eq (by omega) | exact len_eq (by simp) | exact int_eq (by simp; done), by first | rfl | exact int_eq (by omega) | exact len_eq (by simp) | exact int_eq (by simp; done), trivial⟩
  · repeat (first | exact HLe.refl _ | refine HLe.cons' (by first | rfl | (simp [sE]; done)) ?_ | refine HLe.pick 1 rfl (by first | rfl | (simp [sE]; done)) ?_ | refine HLe.pick 2 rfl (by first | rfl | (simp [sE]; done)) ?_ | refine HLe.pick 3 rfl (by first | rfl | (simp [sE]; done)) ?_ | refine HLe.pick 4 rfl (by first | rfl | (simp [sE]; done)) ?_ | refine HLe.pick 5 rfl (by first | rfl | (simp [sE]; done)) ?_ | refine HLe.skip _ ?_)
  · rintro ⟨k, v⟩ hk
    try dsimp only at hk ⊢
    refine W.reg ?_
    refine XOps.s rfl rfl rfl (Q.lss rfl rfl) ?_
    refine XOps.nil ?_
    refine W.seq ?_
    refine W.cond rfl (fun hc14 => ?_) (fun hc14 => ?_)
    · try simp only [Bool.or_eq_true, Bool.or_eq_false_iff, Bool.and_eq_true, Bool.and_eq_false_iff, decide_eq_true_eq, decide_eq_false_iff_not, Bool.not_eq_true', Bool.not_eq_false', Int.not_lt, Int.not_le, List.length_map] at hc14
      obtain ⟨x, hx⟩ : ∃ x, l[k]? = some x := ⟨_, List.getElem?_eq_getElem (by omega)⟩
      have hst := onS_take (f := f) hx
      have hol := onS_len (l.take k) f
      have htl : (l.take k).length ≤ 1000 := by rw [List.length_take]; omega
      refine W.skip ?_
      refine W.seq ?_
      refine W.block ?_
      refine W.reg ?_
      refine XOps.s rfl rfl rfl (Q.idx_vs (kk := 2) sl22 rfl rfl rfl (by first | omega | (simp at hg; omega)) (by first | omega | (dsimp only; omega))) ?_
      refine XOps.s rfl rfl rfl (Q.ld_epn (k := 2) ag27 rfl rfl (by exact map_at0 hx) rfl) ?_
      (refine XOps.loud rfl (L.alloc tz27 rfl rfl) ?_; rintro _ _ ⟨b7, rfl, rfl⟩)
      refine XOps.loud rfl (L.storen (k := 0) ag27 rfl rfl rfl rfl rfl) ?_
      rintro _ _ ⟨rfl, rfl⟩
      refine XOps.nil ?_
      refine W.reg ?_
      refine XOps.s rfl rfl rfl (Q.fld_ptr fl27_1 rfl) ?_
      refine XOps.s rfl rfl rfl (Q.ld_ptr (k := 0) ag3 rfl rfl rfl) ?_
      refine XOps.s rfl rfl rfl (Q.move_d rfl) ?_
      refine XOps.s rfl rfl rfl (Q.eql rfl rfl) ?_
      refine XOps.nil ?_
      refine W.cond rfl (fun hc20 => ?_) (fun hc20 => ?_)
      · try simp only [Bool.or_eq_true, Bool.or_eq_false_iff, Bool.and_eq_true, Bool.and_eq_false_iff, decide_eq_true_eq, decide_eq_false_iff_not, Bool.not_eq_true', Bool.not_eq_false', Int.not_lt, Int.not_le, List.length_map] at hc20
        rw [if_pos hc20] at hst
        refine W.region ?_
        refine XOps.s rfl rfl rfl (Q.move_vs rfl) ?_
        refine XOps.s rfl rfl rfl (Q.fld_ptr fl27_0 rfl) ?_
        refine XOps.s rfl rfl rfl (Q.ld_ptr (k := 0) ag9 rfl rfl rfl) ?_
        refine XOps.s rfl rfl rfl (Q.bsl1 sl31 zr31 rfl zrd31 rfl rfl) ?_
        refine XOps.loud rfl (L.app (k := 1) ap31 rfl rfl (by first | rfl | (simp [List.length_map]; done)) rfl (by simp; omega) rfl) ?_
        rintro _ _ ⟨v25, rfl, rfl⟩
        refine XOps.s rfl rfl rfl (Q.assign_vs rfl) ?_
        refine XOps.nil ?_
        refine W.region ?_
        refine XOps.s rfl rfl rfl (Q.add rfl rfl (wi64 (by first | omega | (dsimp only; omega) | (simp only [List.length_map]; omega)) (by first | omega | (dsimp only; omega) | (simp only [List.length_map]; omega)))) ?_
        refine XOps.s rfl rfl rfl (Q.move_d rfl) ?_
        refine XOps.nil ?_
        refine ⟨(k + 1, v25), ?_, ?_, ?_, ?_⟩
        · show k + 1 ≤ l.length; omega
        · show l.length - (k + 1) < l.length - k; omega
        · exact ⟨by first | rfl | exact int_eq (by omega) | exact len_eq (by simp) | exact int_eq (by simp; done), by first | rfl | exact int_eq (by omega) | exact len_eq (by simp) | exact int_eq (by simp; done), by first | rfl | (rw [hst]; rfl) | (rw [hst]; dsimp only; exact vs_eq (by simp)), by first | rfl | exact int_eq (by omega) | exact len_eq (by simp) | exact int_eq (by simp; done), by first | rfl | exact int_eq (by omega) | exact len_eq (by simp) | exact int_eq (by simp; done), by first | rfl | exact int_eq (by omega) | exact len_eq (by simp) | exact int_eq (by simp; done), trivial⟩
        · try dsimp only
          rw [hst]
          try dsimp only
          repeat (first | exact HLe.refl _ | refine HLe.cons' (by first | rfl | (simp [sE]; done)) ?_ | refine HLe.pick 1 rfl (by first | rfl | (simp [sE]; done)) ?_ | refine HLe.pick 2 rfl (by first | rfl | (simp [sE]; done)) ?_ | refine HLe.pick 3 rfl (by first | rfl | (simp [sE]; done)) ?_ | refine HLe.pick 4 rfl (by first | rfl | (simp [sE]; done)) ?_ | refine HLe.pick 5 rfl (by first | rfl | (simp [sE]; done)) ?_ | refine HLe.skip _ ?_)
      · try simp only [Bool.or_eq_true, Bool.or_eq_false_iff, Bool.and_eq_true, Bool.and_eq_false_iff, decide_eq_true_eq, decide_eq_false_iff_not, Bool.not_eq_true', Bool.not_eq_false', Int.not_lt, Int.not_le, List.length_map] at hc20
        rw [if_neg hc20] at hst
        refine W.skip ?_
        refine W.region ?_
        refine XOps.s rfl rfl rfl (Q.add rfl rfl (wi64 (by first | omega | (dsimp only; omega) | (simp only [List.length_map]; omega)) (by first | omega | (dsimp only; omega) | (simp only [List.length_map]; omega)))) ?_
        refine XOps.s rfl rfl rfl (Q.move_d rfl) ?_
        refine XOps.nil ?_
        refine ⟨(k + 1, v), ?_, ?_, ?_, ?_⟩
        · show k + 1 ≤ l.length; omega
        · show l.length - (k + 1) < l.length - k; omega
        · exact ⟨by first | rfl | exact int_eq (by omega) | exact len_eq (by simp) | exact int_eq (by simp; done), by first | rfl | exact int_eq (by omega) | exact len_eq (by simp) | exact int_eq (by simp; done), by first | rfl | (rw [hst]; rfl) | (rw [hst]; dsimp only; exact vs_eq (by simp)), by first | rfl | exact int_eq (by omega) | exact len_eq (by simp) | exact int_eq (by simp; done), by first | rfl | exact int_eq (by omega) | exact len_eq (by simp) | exact int_eq (by simp; done), by first | rfl | exact int_eq (by omega) | exact len_eq (by simp) | exact int_eq (by simp; done), trivial⟩
        · try dsimp only
          rw [hst]
          try dsimp only
          repeat (first | exact HLe.refl _ | refine HLe.cons' (by first | rfl | (simp [sE]; done)) ?_ | refine HLe.pick 1 rfl (by first | rfl | (simp [sE]; done)) ?_ | refine HLe.pick 2 rfl (by first | rfl | (simp [sE]; done)) ?_ | refine HLe.pick 3 rfl (by first | rfl | (simp [sE]; done)) ?_ | refine HLe.pick 4 rfl (by first | rfl | (simp [sE]; done)) ?_ | refine HLe.pick 5 rfl (by first | rfl | (simp [sE]; done)) ?_ | refine HLe.skip _ ?_)
    · try simp only [Bool.or_eq_true, Bool.or_eq_false_iff, Bool.and_eq_true, Bool.and_eq_false_iff, decide_eq_true_eq, decide_eq_false_iff_not, Bool.not_eq_true', Bool.not_eq_false', Int.not_lt, Int.not_le, List.length_map] at hc14
      obtain rfl : k = l.length := by omega
      rw [List.take_length]
      refine W.exit ?_
      refine W.reg ?_
      refine XOps.s rfl rfl rfl (Q.move_vs rfl) ?_
      refine XOps.s rfl rfl rfl (Q.assign_vs rfl) ?_
      refine XOps.nil ?_
      refine W.ret ?_
      exact ⟨_, (v, .lst 1 ((onS l f).map sE)) :: stC b l id hs, rfl, HLe.refl _, v, rfl, rfl⟩

theorem on_c (b id : Nat) (l : List Ct) (f : Int) (hs : Hp) (hl : l.length ≤ 1000) : AC P 9 [.ptr b 0, .d (.int .i64 f)] (stC b l id hs) (fun r h => r = .d (.sl 1 ((onS l f).map sE)) ∧ h = stC b l id hs) :=
  AC.frz ((on_own b id l f hs hl).mono fun r h ⟨v, h1, h2⟩ => ⟨v, h2, h1 ▸ .vs (by simp)⟩)

set_option maxHeartbeats 1000000 in
set_option maxRecDepth 100000 in
theorem isnan_c (s : ByteArray) (hs : Hp) : AC P 29 [.d (.str s)] hs (fun r h => r = .d (.bool false) ∧ h = hs) := by
  refine AC.of 6 Try.func29 rfl rfl rfl ?_
  refine W.reg ?_
  refine XOps.s rfl rfl rfl (Q.assign_d rfl) ?_
  refine XOps.nil ?_
  refine W.reg ?_
  refine XOps.s rfl rfl rfl (Q.move_d rfl) ?_
  refine XOps.s rfl rfl rfl (Q.move_d rfl) ?_
  refine XOps.s rfl rfl rfl (Q.neq_str rfl rfl) ?_
  refine XOps.s rfl rfl rfl (Q.assign_d rfl) ?_
  refine XOps.nil ?_
  refine W.ret ?_
  refine ⟨_, hs, rfl, by repeat (first | exact HLe.refl _ | refine HLe.cons' (by first | rfl | (simp; done)) ?_ | refine HLe.pick 1 rfl (by first | rfl | (simp; done)) ?_ | refine HLe.pick 2 rfl (by first | rfl | (simp; done)) ?_ | refine HLe.pick 3 rfl (by first | rfl | (simp; done)) ?_ | refine HLe.pick 4 rfl (by first | rfl | (simp; done)) ?_ | refine HLe.pick 5 rfl (by first | rfl | (simp; done)) ?_ | refine HLe.skip _ ?_), ?_, rfl⟩
  (show AV.d (.bool (!(s.toList == s.toList))) = _; simp)

set_option maxHeartbeats 1000000 in
set_option maxRecDepth 100000 in
theorem less_c (a b : ByteArray) (hs : Hp) : AC P 20 [.d (.str a), .d (.str b)] hs (fun r h => r = .d (.bool (decide (cmpB a b < 0))) ∧ h = hs) := by
  refine AC.of 17 Try.func20 rfl rfl rfl ?_
  refine W.reg ?_
  refine XOps.s rfl rfl rfl (Q.assign_d rfl) ?_
  refine XOps.nil ?_
  refine W.reg ?_
  refine XOps.s rfl rfl rfl (Q.move_d rfl) ?_
  refine XOps.s rfl rfl rfl (Q.call rfl Try.func29 go29 rfl (isnan_c a _)) ?_
  refine XOps.s rfl rfl rfl (Q.move_d rfl) ?_
  refine XOps.gs rfl rfl rfl rfl rfl rfl rfl (fun hg => Q.move_d rfl) ?_
  refine XOps.gs rfl rfl rfl rfl rfl rfl rfl (fun hg => Quiet.open 8 hg rfl (Q.call rfl Try.func29 go29 rfl (isnan_c b _))) ?_
  refine XOps.gs rfl rfl rfl rfl rfl rfl rfl (fun hg => Quiet.open 9 hg rfl (Q.not rfl)) ?_
  refine XOps.s rfl rfl rfl (Q.pick_and rfl rfl rfl (fun h => by first | (rw [h]; rfl) | (rw [hg, h]; rfl) | (simp [h, hg]; done))) ?_
  refine XOps.s rfl rfl rfl (Q.move_d rfl) ?_
  refine XOps.gs rfl rfl rfl rfl rfl rfl rfl (fun hg => Q.move_d rfl) ?_
  refine XOps.gs rfl rfl rfl rfl rfl rfl rfl (fun hg => Q.move_d rfl) ?_
  refine XOps.gs rfl rfl rfl rfl rfl rfl rfl (fun hg => Quiet.open 13 hg rfl (Quiet.open 14 hg rfl (Q.lss_str rfl rfl))) ?_
  refine XOps.s rfl rfl rfl (Q.pick_or rfl rfl rfl (fun h => by first | (rw [h]; rfl) | (rw [hg, h]; rfl) | (simp [h, hg]; done))) ?_
  refine XOps.s rfl rfl rfl (Q.assign_d rfl) ?_
  refine XOps.nil ?_
  refine W.ret ?_
  refine ⟨_, hs, rfl, by repeat (first | exact HLe.refl _ | refine HLe.cons' (by first | rfl | (simp; done)) ?_ | refine HLe.pick 1 rfl (by first | rfl | (simp; done)) ?_ | refine HLe.pick 2 rfl (by first | rfl | (simp; done)) ?_ | refine HLe.pick 3 rfl (by first | rfl | (simp; done)) ?_ | refine HLe.pick 4 rfl (by first | rfl | (simp; done)) ?_ | refine HLe.pick 5 rfl (by first | rfl | (simp; done)) ?_ | refine HLe.skip _ ?_), ?_, rfl⟩
  first | (rw [← less_cmpB]; rfl) | (rw [← less_cmpB]; simp; done)

set_option maxHeartbeats 1000000 in
set_option maxRecDepth 100000 in
theorem sorted_c (l : List ByteArray) (hs : Hp) (hL : l.length ≤ 4611686018427387904) (hp : l.Pairwise fun a b => cmpB a b < 0) : AC P 11 [.d (.sl 1 (l.map sE))] hs (fun r h => r = .d (.bool true) ∧ h = hs) := by
  refine AC.of 21 Try.func11 rfl rfl rfl ?_
  refine W.reg ?_
  refine XOps.s rfl rfl rfl (Q.assign_d rfl) ?_
  refine XOps.nil ?_
  refine W.seq ?_
  refine W.reg ?_
  refine XOps.s rfl rfl rfl (Q.move_d rfl) ?_
  refine XOps.s rfl rfl rfl (Q.len_sl isl31 rfl) ?_
  refine XOps.s rfl rfl rfl (Q.sub rfl rfl (wi64 (by first | omega | (dsimp only; omega) | (simp only [List.length_map]; omega)) (by first | omega | (dsimp only; omega) | (simp only [List.length_map]; omega)))) ?_
  refine XOps.s rfl rfl rfl (Q.assign_d rfl) ?_
  refine XOps.nil ?_
  refine W.block ?_
  refine W.loop (ι := Nat) (fun k => [(0, .d (.sl 1 (l.map sE))), (3, .d (.int .i64 ((l.length : Int) - 1 - (k : Nat))))]) (fun k => hs) (fun k => k ≤ l.length) (fun k => l.length - k) 0 ?_ ?_ ?_ ?_
  · exact Nat.zero_le _
  · exact ⟨by first | rfl | exact int_eq (by omega) | exact len_eq (by simp) | exact int_eq (by simp; done), by first | rfl | exact int_eq (by omega) | exact len_eq (by simp) | exact int_eq (by simp; done), trivial⟩
  · repeat (first | exact HLe.refl _ | refine HLe.cons' (by first | rfl | (simp; done)) ?_ | refine HLe.pick 1 rfl (by first | rfl | (simp; done)) ?_ | refine HLe.pick 2 rfl (by first | rfl | (simp; done)) ?_ | refine HLe.pick 3 rfl (by first | rfl | (simp; done)) ?_ | refine HLe.pick 4 rfl (by first | rfl | (simp; done)) ?_ | refine HLe.pick 5 rfl (by first | rfl | (simp; done)) ?_ | refine HLe.skip _ ?_)
  · rintro k hk
    try dsimp only
    refine W.seq ?_
    refine W.reg ?_
    refine XOps.s rfl rfl rfl (Q.move_d rfl) ?_
    refine XOps.s rfl rfl rfl (Q.gtr rfl rfl) ?_
    refine XOps.nil ?_
    refine W.cond rfl (fun hc8 => ?_) (fun hc8 => ?_)
    · try simp only [Bool.or_eq_true, Bool.or_eq_false_iff, Bool.and_eq_true, Bool.and_eq_false_iff, decide_eq_true_eq, decide_eq_false_iff_not, Bool.not_eq_true', Bool.not_eq_false', Int.not_lt, Int.not_le, List.length_map] at hc8
      obtain ⟨x, hx⟩ : ∃ x, l[(l.length - 1 - k)]? = some x := ⟨_, List.getElem?_eq_getElem (by omega)⟩
      obtain ⟨y, hy⟩ : ∃ y, l[(l.length - 1 - k - 1)]? = some y := ⟨_, List.getElem?_eq_getElem (by omega)⟩
      have hxy : cmpB y x < 0 := by
        obtain ⟨h1, rfl⟩ := List.getElem?_eq_some_iff.1 hx
        obtain ⟨h2, rfl⟩ := List.getElem?_eq_some_iff.1 hy
        exact List.pairwise_iff_getElem.1 hp _ _ h2 h1 (by omega)
      have hyx : ¬ cmpB x y < 0 := by rw [cmpB_anti]; omega
      have hx2 : l[((l.length : Int) - 1 - k).toNat]? = some x := by rw [show ((l.length : Int) - 1 - k).toNat = l.length - 1 - k by omega]; exact hx
      have hy2 : l[((l.length : Int) - 1 - k - 1).toNat]? = some y := by rw [show ((l.length : Int) - 1 - k - 1).toNat = l.length - 1 - k - 1 by omega]; exact hy
      refine W.skip ?_
      refine W.seq ?_
      refine W.block ?_
      refine W.drawreg 10 follows (by kernel_rfl) ?_
      refine Chain.cons _ (GQ.q rfl (Q.move_d rfl)) rfl ?_
      refine Chain.cons _ (GQ.q rfl (Q.move_d rfl)) rfl ?_
      refine Chain.cons _ (GQ.q rfl (Q.idx_sl sl31 (by decide) rfl rfl (by first | omega | (simp only [List.length_map]; omega)) (by first | exact map_atI hx2 | exact map_atI hy2))) rfl ?_
      refine Chain.cons _ (GQ.q rfl (Q.ld_dp ag9 rfl rfl)) rfl ?_
      refine Chain.cons _ (GQ.q rfl (Q.move_d rfl)) rfl ?_
      refine Chain.cons _ (GQ.q rfl (Q.move_d rfl)) rfl ?_
      refine Chain.cons _ (GQ.q rfl (Q.sub rfl rfl (wi64 (by first | omega | (dsimp only; omega) | (simp only [List.length_map]; omega)) (by first | omega | (dsimp only; omega) | (simp only [List.length_map]; omega))))) rfl ?_
      refine Chain.cons _ (GQ.q rfl (Q.idx_sl sl31 (by decide) rfl rfl (by first | omega | (simp only [List.length_map]; omega)) (by first | exact map_atI hx2 | exact map_atI hy2))) rfl ?_
      refine Chain.cons _ (GQ.q rfl (Q.ld_dp ag9 rfl rfl)) rfl ?_
      refine Chain.cons _ (GQ.q rfl (Q.call rfl Try.func20 go20 rfl (less_c x y _))) rfl ?_
      refine Chain.nil ?_
      refine XOps.nil ?_
      refine W.cond rfl (fun hc20 => ?_) (fun hc20 => ?_)
      · try simp only [Bool.or_eq_true, Bool.or_eq_false_iff, Bool.and_eq_true, Bool.and_eq_false_iff, decide_eq_true_eq, decide_eq_false_iff_not, Bool.not_eq_true', Bool.not_eq_false', Int.not_lt, Int.not_le, List.length_map] at hc20
        exact absurd hc20 hyx
      · try simp only [Bool.or_eq_true, Bool.or_eq_false_iff, Bool.and_eq_true, Bool.and_eq_false_iff, decide_eq_true_eq, decide_eq_false_iff_not, Bool.not_eq_true', Bool.not_eq_false', Int.not_lt, Int.not_le, List.length_map] at hc20
        refine W.skip ?_
        refine W.region ?_
        refine XOps.s rfl rfl rfl (Q.move_d rfl) ?_
        refine XOps.s rfl rfl rfl (Q.sub rfl rfl (wi64 (by first | omega | (dsimp only; omega) | (simp only [List.length_map]; omega)) (by first | omega | (dsimp only; omega) | (simp only [List.length_map]; omega)))) ?_
        refine XOps.s rfl rfl rfl (Q.assign_d rfl) ?_
        refine XOps.nil ?_
        refine ⟨k + 1, ?_, ?_, ?_, ?_⟩
        · omega
        · omega
        · exact ⟨by first | rfl | exact int_eq (by omega) | exact len_eq (by simp) | exact int_eq (by simp; done), by first | rfl | exact int_eq (by omega) | exact len_eq (by simp) | exact int_eq (by simp; done), trivial⟩
        · repeat (first | exact HLe.refl _ | refine HLe.cons' (by first | rfl | (simp; done)) ?_ | refine HLe.pick 1 rfl (by first | rfl | (simp; done)) ?_ | refine HLe.pick 2 rfl (by first | rfl | (simp; done)) ?_ | refine HLe.pick 3 rfl (by first | rfl | (simp; done)) ?_ | refine HLe.pick 4 rfl (by first | rfl | (simp; done)) ?_ | refine HLe.pick 5 rfl (by first | rfl | (simp; done)) ?_ | refine HLe.skip _ ?_)
    · try simp only [Bool.or_eq_true, Bool.or_eq_false_iff, Bool.and_eq_true, Bool.and_eq_false_iff, decide_eq_true_eq, decide_eq_false_iff_not, Bool.not_eq_true', Bool.not_eq_false', Int.not_lt, Int.not_le, List.length_map] at hc8
      refine W.exit ?_
      refine W.reg ?_
      refine XOps.s rfl rfl rfl (Q.assign_d rfl) ?_
      refine XOps.nil ?_
      refine W.ret ?_
      refine ⟨_, hs, rfl, by repeat (first | exact HLe.refl _ | refine HLe.cons' (by first | rfl | (simp; done)) ?_ | refine HLe.pick 1 rfl (by first | rfl | (simp; done)) ?_ | refine HLe.pick 2 rfl (by first | rfl | (simp; done)) ?_ | refine HLe.pick 3 rfl (by first | rfl | (simp; done)) ?_ | refine HLe.pick 4 rfl (by first | rfl | (simp; done)) ?_ | refine HLe.pick 5 rfl (by first | rfl | (simp; done)) ?_ | refine HLe.skip _ ?_), ?_, rfl⟩
      rfl

set_option maxHeartbeats 1000000 in
set_option maxRecDepth 100000 in
theorem indexS_c (l : List ByteArray) (v : ByteArray) (hs : Hp) (hL : l.length ≤ 4611686018427387904) : AC P 18 [.d (.sl 1 (l.map sE)), .d (.str v)] hs (fun r h => r = .d (.int .i64 (idxP (fun n => seq v n) l)) ∧ h = hs) := by
  refine AC.of 19 Try.func18 rfl rfl rfl ?_
  refine W.reg ?_
  refine XOps.s rfl rfl rfl (Q.assign_d rfl) ?_
  refine XOps.nil ?_
  refine W.seq ?_
  refine W.reg ?_
  refine XOps.s rfl rfl rfl (Q.move_d rfl) ?_
  refine XOps.s rfl rfl rfl (Q.len_sl isl31 rfl) ?_
  refine XOps.s rfl rfl rfl (Q.move_d rfl) ?_
  refine XOps.nil ?_
  refine W.block ?_
  refine W.loop (ι := Nat) (fun k => [(0, .d (.sl 1 (l.map sE))), (1, .d (.str v)), (7, .d (.int .i64 l.length)), (8, .d (.int .i64 (k : Nat)))]) (fun k => hs) (fun k => k ≤ l.length ∧ ∀ (i : Nat) x, i < k → l[i]? = some x → seq v x = false) (fun k => l.length - k) 0 ?_ ?_ ?_ ?_
  · exact ⟨Nat.zero_le _, fun i x h => absurd h (Nat.not_lt_zero _)⟩
  · exact ⟨by first | rfl | exact int_eq (by omega) | exact len_eq (by simp) | exact int_eq (by simp; done), by first | rfl | exact int_eq (by omega) | exact len_eq (by simp) | exact int_eq (by simp; done), by first | rfl | exact int_eq (by omega) | exact len_eq (by simp) | exact int_eq (by simp; done), by first | rfl | exact int_eq (by omega) | exact len_eq (by simp) | exact int_eq (by simp; done), trivial⟩
  · repeat (first | exact HLe.refl _ | refine HLe.cons' (by first | rfl | (simp; done)) ?_ | refine HLe.pick 1 rfl (by first | rfl | (simp; done)) ?_ | refine HLe.pick 2 rfl (by first | rfl | (simp; done)) ?_ | refine HLe.pick 3 rfl (by first | rfl | (simp; done)) ?_ | refine HLe.pick 4 rfl (by first | rfl | (simp; done)) ?_ | refine HLe.pick 5 rfl (by first | rfl | (simp; done)) ?_ | refine HLe.skip _ ?_)
  · rintro k ⟨hk, hI⟩
    try dsimp only
    refine W.reg ?_
    refine XOps.s rfl rfl rfl (Q.lss rfl rfl) ?_
    refine XOps.nil ?_
    refine W.seq ?_
    refine W.cond rfl (fun hc9 => ?_) (fun hc9 => ?_)
    · try simp only [Bool.or_eq_true, Bool.or_eq_false_iff, Bool.and_eq_true, Bool.and_eq_false_iff, decide_eq_true_eq, decide_eq_false_iff_not, Bool.not_eq_true', Bool.not_eq_false', Int.not_lt, Int.not_le, List.length_map] at hc9
      obtain ⟨x, hx⟩ : ∃ x, l[k]? = some x := ⟨_, List.getElem?_eq_getElem (by omega)⟩
      refine W.skip ?_
      refine W.seq ?_
      refine W.block ?_
      refine W.reg ?_
      refine XOps.s rfl rfl rfl (Q.move_d rfl) ?_
      refine XOps.s rfl rfl rfl (Q.assign_d rfl) ?_
      refine XOps.nil ?_
      refine W.reg ?_
      refine XOps.s rfl rfl rfl (Q.move_d rfl) ?_
      refine XOps.s rfl rfl rfl (Q.move_d rfl) ?_
      refine XOps.s rfl rfl rfl (Q.move_d rfl) ?_
      refine XOps.s rfl rfl rfl (Q.idx_sl sl31 (by decide) rfl rfl (by first | omega | (simp only [List.length_map]; omega)) (by first | exact map_at (by assumption) | exact map_at0 (by assumption) | assumption)) ?_
      refine XOps.s rfl rfl rfl (Q.ld_dp ag9 rfl rfl) ?_
      refine XOps.s rfl rfl rfl (Q.eql_str rfl rfl) ?_
      refine XOps.nil ?_
      refine W.cond rfl (fun hc16 => ?_) (fun hc16 => ?_)
      · try simp only [Bool.or_eq_true, Bool.or_eq_false_iff, Bool.and_eq_true, Bool.and_eq_false_iff, decide_eq_true_eq, decide_eq_false_iff_not, Bool.not_eq_true', Bool.not_eq_false', Int.not_lt, Int.not_le, List.length_map] at hc16
        have hr := idxP_some (p := fun n => seq v n) hx hc16 hI
        refine W.reg ?_
        refine XOps.s rfl rfl rfl (Q.move_d rfl) ?_
        refine XOps.s rfl rfl rfl (Q.assign_d rfl) ?_
        refine XOps.nil ?_
        refine W.ret ?_
        refine ⟨_, hs, rfl, by repeat (first | exact HLe.refl _ | refine HLe.cons' (by first | rfl | (simp; done)) ?_ | refine HLe.pick 1 rfl (by first | rfl | (simp; done)) ?_ | refine HLe.pick 2 rfl (by first | rfl | (simp; done)) ?_ | refine HLe.pick 3 rfl (by first | rfl | (simp; done)) ?_ | refine HLe.pick 4 rfl (by first | rfl | (simp; done)) ?_ | refine HLe.pick 5 rfl (by first | rfl | (simp; done)) ?_ | refine HLe.skip _ ?_), ?_, rfl⟩
        rw [hr]; rfl
      · try simp only [Bool.or_eq_true, Bool.or_eq_false_iff, Bool.and_eq_true, Bool.and_eq_false_iff, decide_eq_true_eq, decide_eq_false_iff_not, Bool.not_eq_true', Bool.not_eq_false', Int.not_lt, Int.not_le, List.length_map] at hc16
        refine W.skip ?_
        refine W.region ?_
        refine XOps.s rfl rfl rfl (Q.add rfl rfl (wi64 (by first | omega | (dsimp only; omega) | (simp only [List.length_map]; omega)) (by first | omega | (dsimp only; omega) | (simp only [List.length_map]; omega)))) ?_
        refine XOps.s rfl rfl rfl (Q.move_d rfl) ?_
        refine XOps.nil ?_
        refine ⟨k + 1, ?_, ?_, ?_, ?_⟩
        · refine ⟨by omega, fun i y h hy => ?_⟩
          rcases Nat.lt_or_ge i k with h2 | h2
          · exact hI i y h2 hy
          · obtain rfl : i = k := by omega
            rw [hx] at hy; obtain rfl := Option.some.inj hy; first | exact eq_false_of_ne_true hc16 | exact hc16 | (simpa using hc16)
        · omega
        · exact ⟨by first | rfl | exact int_eq (by omega) | exact len_eq (by simp) | exact int_eq (by simp; done), by first | rfl | exact int_eq (by omega) | exact len_eq (by simp) | exact int_eq (by simp; done), by first | rfl | exact int_eq (by omega) | exact len_eq (by simp) | exact int_eq (by simp; done), by first | rfl | exact int_eq (by omega) | exact len_eq (by simp) | exact int_eq (by simp; done), trivial⟩
        · repeat (first | exact HLe.refl _ | refine HLe.cons' (by first | rfl | (simp; done)) ?_ | refine HLe.pick 1 rfl (by first | rfl | (simp; done)) ?_ | refine HLe.pick 2 rfl (by first | rfl | (simp; done)) ?_ | refine HLe.pick 3 rfl (by first | rfl | (simp; done)) ?_ | refine HLe.pick 4 rfl (by first | rfl | (simp; done)) ?_ | refine HLe.pick 5 rfl (by first | rfl | (simp; done)) ?_ | refine HLe.skip _ ?_)
    · try simp only [Bool.or_eq_true, Bool.or_eq_false_iff, Bool.and_eq_true, Bool.and_eq_false_iff, decide_eq_true_eq, decide_eq_false_iff_not, Bool.not_eq_true', Bool.not_eq_false', Int.not_lt, Int.not_le, List.length_map] at hc9
      have hr := idxP_none (p := fun n => seq v n) (l := l) fun i x h => hI i x (by have := (List.getElem?_eq_some_iff.1 h).1; omega) h
      refine W.exit ?_
      refine W.reg ?_
      refine XOps.s rfl rfl rfl (Q.assign_d rfl) ?_
      refine XOps.nil ?_
      refine W.ret ?_
      refine ⟨_, hs, rfl, by repeat (first | exact HLe.refl _ | refine HLe.cons' (by first | rfl | (simp; done)) ?_ | refine HLe.pick 1 rfl (by first | rfl | (simp; done)) ?_ | refine HLe.pick 2 rfl (by first | rfl | (simp; done)) ?_ | refine HLe.pick 3 rfl (by first | rfl | (simp; done)) ?_ | refine HLe.pick 4 rfl (by first | rfl | (simp; done)) ?_ | refine HLe.pick 5 rfl (by first | rfl | (simp; done)) ?_ | refine HLe.skip _ ?_), ?_, rfl⟩
      rw [hr]; rfl

set_option maxHeartbeats 1000000 in
set_option maxRecDepth 100000 in
theorem containsS_c (l : List ByteArray) (v : ByteArray) (hs : Hp) (hL : l.length ≤ 4611686018427387904) : AC P 8 [.d (.sl 1 (l.map sE)), .d (.str v)] hs (fun r h => r = .d (.bool (l.any fun n => seq v n)) ∧ h = hs) := by
  refine AC.of 9 Try.func8 rfl rfl rfl ?_
  refine W.reg ?_
  refine XOps.s rfl rfl rfl (Q.assign_d rfl) ?_
  refine XOps.nil ?_
  refine W.reg ?_
  refine XOps.s rfl rfl rfl (Q.move_d rfl) ?_
  refine XOps.s rfl rfl rfl (Q.move_d rfl) ?_
  refine XOps.s rfl rfl rfl (Q.call rfl Try.func18 go18 rfl (indexS_c l v _ hL)) ?_
  refine XOps.s rfl rfl rfl (Q.geq rfl rfl) ?_
  refine XOps.s rfl rfl rfl (Q.assign_d rfl) ?_
  refine XOps.nil ?_
  refine W.ret ?_
  refine ⟨_, hs, rfl, by repeat (first | exact HLe.refl _ | refine HLe.cons' (by first | rfl | (simp; done)) ?_ | refine HLe.pick 1 rfl (by first | rfl | (simp; done)) ?_ | refine HLe.pick 2 rfl (by first | rfl | (simp; done)) ?_ | refine HLe.pick 3 rfl (by first | rfl | (simp; done)) ?_ | refine HLe.pick 4 rfl (by first | rfl | (simp; done)) ?_ | refine HLe.pick 5 rfl (by first | rfl | (simp; done)) ?_ | refine HLe.skip _ ?_), ?_, rfl⟩
  rw [← idxP_any]; rfl
end Go.Proofs.YtaegecnjimbfbaaA
