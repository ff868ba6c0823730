/- logOf; slices.Equal of entries. -/
import Derived.Test.YtodbcbojkfndiaaGreatDoorFrB
import Derived.Test.YtodbcbojkfndiaaGreatDoorRzD
import Derived.Test.YtodbcbojkfndiaaGreatDoorFrC
set_option linter.unusedVariables false
set_option linter.unusedSimpArgs false
set_option linter.unnecessarySimpa false
namespace Go.Proofs.YtodbcbojkfndiaaGreatDoorA.FRzE
open Go
theorem ag3 : tAgg P 3 = some ((false, 1)) := by kernel_rfl
theorem ag38 : tAgg P 38 = some ((true, 4)) := by kernel_rfl
theorem ag9 : tAgg P 9 = some ((false, 1)) := by kernel_rfl
theorem eqt38 : tEq P 38 = some ([.int .i64, .int .i64, .str, .str]) := by kernel_rfl
theorem fl38_1 : tFld P 38 1 = some (1) := by kernel_rfl
theorem fl38_2 : tFld P 38 2 = some (2) := by kernel_rfl
theorem fl38_3 : tFld P 38 3 = some (3) := by kernel_rfl
theorem go14 : callGo Go.Proofs.Tryz.f14 = true := by kernel_rfl
theorem go15 : callGo Go.Proofs.Tryz.f15 = true := by kernel_rfl
theorem go8 : callGo Go.Proofs.Tryz.f8 = true := by kernel_rfl
theorem ipt23 : isPtr P 23 = true := by kernel_rfl
theorem isl22 : isSl P 22 = true := by kernel_rfl
theorem sl22 : tSl P 22 = some (4) := by kernel_rfl
theorem tz38 : tZero P 38 = some ([.int .i64 0, .int .i64 0, .string ⟨#[]⟩, .string ⟨#[]⟩]) := by kernel_rfl
end Go.Proofs.YtodbcbojkfndiaaGreatDoorA.FRzE
namespace Go.Proofs.YtodbcbojkfndiaaGreatDoorA
open Go FRzE
attribute [local irreducible] XOps Quiet Loud W AC GQ DT
set_option maxHeartbeats 1000000 in
set_option maxRecDepth 100000 in
theorem rcut_c (n lo hi : Int) (hs : Hp) (h0 : -1000000000000 ≤ lo) (h1 : lo ≤ hi) (h2 : hi ≤ 1000000000000) : AC P 8 [.d (.int .i64 n), .d (.int .i64 lo), .d (.int .i64 hi)] hs (fun r h => r = .d (.int .i64 (cutI n lo hi)) ∧ h = hs) := by
  refine AC.of 23 Tryz.func8 rfl rfl rfl ?_
  refine W.reg ?_
  refine XOps.s rfl rfl rfl (Q.assign_d rfl) ?_
  refine XOps.nil ?_
  refine W.reg ?_
  refine XOps.s rfl rfl rfl (Q.move_d rfl) ?_
  refine XOps.s rfl rfl rfl (Q.move_d rfl) ?_
  refine XOps.s rfl rfl rfl (Q.sub rfl rfl (wi64 (by first | omega | (dsimp only; omega) | (simp only [List.length_map]; omega)) (by first | omega | (dsimp only; omega) | (simp only [List.length_map]; omega)))) ?_
  refine XOps.s rfl rfl rfl (Q.add rfl rfl (wi64 (by first | omega | (dsimp only; omega) | (simp only [List.length_map]; omega)) (by first | omega | (dsimp only; omega) | (simp only [List.length_map]; omega)))) ?_
  refine XOps.s rfl rfl rfl (Q.assign_d rfl) ?_
  refine XOps.nil ?_
  refine W.reg ?_
  refine XOps.s rfl rfl rfl (Q.move_d rfl) ?_
  refine XOps.s rfl rfl rfl (Q.move_d rfl) ?_
  refine XOps.s rfl rfl rfl (Q.rem rfl rfl (by omega) rfl) ?_
  refine XOps.s rfl rfl rfl (Q.assign_d rfl) ?_
  refine XOps.nil ?_
  refine W.seq ?_
  have hm := cut_mod (n := n) (m := hi - lo + 1) (by omega) rfl
  have hm0 := Int.emod_nonneg n (by omega : hi - lo + 1 ≠ 0)
  have hm1 := Int.emod_lt_of_pos n (by omega : 0 < hi - lo + 1)
  generalize hT : n.tmod (hi - lo + 1) = t at hm ⊢
  refine W.reg ?_
  refine XOps.s rfl rfl rfl (Q.move_d rfl) ?_
  refine XOps.s rfl rfl rfl (Q.lss rfl rfl) ?_
  refine XOps.nil ?_
  refine W.cond rfl (fun hc16 => ?_) (fun hc16 => ?_)
  · try simp only [Bool.or_eq_true, Bool.or_eq_false_iff, Bool.and_eq_true, Bool.and_eq_false_iff, decide_eq_true_eq, decide_eq_false_iff_not, Bool.not_eq_true', Bool.not_eq_false', Int.not_lt, Int.not_le, List.length_map] at hc16
    rw [if_pos hc16] at hm
    refine W.region ?_
    refine XOps.s rfl rfl rfl (Q.move_d rfl) ?_
    refine XOps.s rfl rfl rfl (Q.move_d rfl) ?_
    refine XOps.s rfl rfl rfl (Q.add rfl rfl (wi64 (by first | omega | (dsimp only; omega) | (simp only [List.length_map]; omega)) (by first | omega | (dsimp only; omega) | (simp only [List.length_map]; omega)))) ?_
    refine XOps.s rfl rfl rfl (Q.assign_d rfl) ?_
    refine XOps.nil ?_
    refine W.reg ?_
    refine XOps.s rfl rfl rfl (Q.move_d rfl) ?_
    refine XOps.s rfl rfl rfl (Q.move_d rfl) ?_
    refine XOps.s rfl rfl rfl (Q.add rfl rfl (wi64 (by first | omega | (dsimp only; omega) | (simp only [List.length_map]; omega)) (by first | omega | (dsimp only; omega) | (simp only [List.length_map]; omega)))) ?_
    refine XOps.s rfl rfl rfl (Q.assign_d rfl) ?_
    refine XOps.nil ?_
    refine W.ret ?_
    refine ⟨_, hs, rfl, by repeat (first | exact HLe.refl _ | refine HLe.cons' (by first | rfl | (simp; done)) ?_ | refine HLe.pick 1 rfl (by first | rfl | (simp; done)) ?_ | refine HLe.pick 2 rfl (by first | rfl | (simp; done)) ?_ | refine HLe.pick 3 rfl (by first | rfl | (simp; done)) ?_ | refine HLe.pick 4 rfl (by first | rfl | (simp; done)) ?_ | refine HLe.pick 5 rfl (by first | rfl | (simp; done)) ?_ | refine HLe.skip _ ?_), ?_, rfl⟩
    exact int_eq (by unfold cutI; omega)
  · try simp only [Bool.or_eq_true, Bool.or_eq_false_iff, Bool.and_eq_true, Bool.and_eq_false_iff, decide_eq_true_eq, decide_eq_false_iff_not, Bool.not_eq_true', Bool.not_eq_false', Int.not_lt, Int.not_le, List.length_map] at hc16
    rw [if_neg (by omega)] at hm
    refine W.skip ?_
    refine W.reg ?_
    refine XOps.s rfl rfl rfl (Q.move_d rfl) ?_
    refine XOps.s rfl rfl rfl (Q.move_d rfl) ?_
    refine XOps.s rfl rfl rfl (Q.add rfl rfl (wi64 (by first | omega | (dsimp only; omega) | (simp only [List.length_map]; omega)) (by first | omega | (dsimp only; omega) | (simp only [List.length_map]; omega)))) ?_
    refine XOps.s rfl rfl rfl (Q.assign_d rfl) ?_
    refine XOps.nil ?_
    refine W.ret ?_
    refine ⟨_, hs, rfl, by repeat (first | exact HLe.refl _ | refine HLe.cons' (by first | rfl | (simp; done)) ?_ | refine HLe.pick 1 rfl (by first | rfl | (simp; done)) ?_ | refine HLe.pick 2 rfl (by first | rfl | (simp; done)) ?_ | refine HLe.pick 3 rfl (by first | rfl | (simp; done)) ?_ | refine HLe.pick 4 rfl (by first | rfl | (simp; done)) ?_ | refine HLe.pick 5 rfl (by first | rfl | (simp; done)) ?_ | refine HLe.skip _ ?_), ?_, rfl⟩
    exact int_eq (by unfold cutI; omega)

theorem same_en (x y : EN) : allD (x.enc.take 4) (y.enc.take 4) = decide (x = y) := by
  show (decide (x.num = y.num) && (decide (x.tm = y.tm) && (x.kind.toList == y.kind.toList && (x.text.toList == y.text.toList && true)))) = _
  rw [Bool.and_true, Bool.eq_iff_iff, decide_eq_true_eq, Bool.and_eq_true, Bool.and_eq_true, Bool.and_eq_true, decide_eq_true_eq, decide_eq_true_eq]
  show _ ∧ _ ∧ seq x.kind y.kind = true ∧ seq x.text y.text = true ↔ _
  rw [seq_iff, seq_iff]
  exact ⟨fun h => EN.ext2 h.1 h.2.1 h.2.2.1 h.2.2.2, fun h => by subst h; exact ⟨rfl, rfl, rfl, rfl⟩⟩

theorem take12 {xs : List EN} : (xs.take (min (((xs.map EN.enc).length : Nat) : Int) 12).toNat).drop (0 : Int).toNat = xs.take 12 := by
  rw [List.length_map, show (0 : Int).toNat = 0 from rfl, List.drop_zero]
  rcases Nat.le_total xs.length 12 with h | h
  · rw [show (min ((xs.length : Nat) : Int) 12).toNat = xs.length by omega, List.take_length, List.take_of_length_le h]
  · rw [show (min ((xs.length : Nat) : Int) 12).toNat = 12 by omega]
def logF : List EN → Int → List EN → List EN
  | [], _, l => l
  | x :: xs, t, l => logF xs (t + cutI x.tm 0 50) (addL l (t + cutI x.tm 0 50) x.kind x.text)
def logV (xs : List EN) : List EN := logF (xs.take 12) 0 []
theorem logF_ok : ∀ (xs : List EN) (t : Int) (l : List EN), Okl l → Okl (logF xs t l) ∧ (logF xs t l).length ≤ l.length + xs.length
  | [], t, l, h => ⟨h, Nat.le_refl _⟩
  | x :: xs, t, l, h => by
    have h1 := add_ok h (t + cutI x.tm 0 50) x.kind x.text
    have h2 := logF_ok xs (t + cutI x.tm 0 50) _ h1.1
    exact ⟨h2.1, by rw [logF, List.length_cons]; omega⟩
theorem logV_ok (xs : List EN) : Okl (logV xs) ∧ (logV xs).length ≤ 12 := by
  have := logF_ok (xs.take 12) 0 [] .nil
  refine ⟨this.1, Nat.le_trans this.2 ?_⟩
  simp; omega
theorem logF_step {ys l : List EN} {x : EN} {k : Nat} {t : Int} (h : ys[k]? = some x) : logF (ys.drop k) t l = logF (ys.drop (k + 1)) (t + cutI x.tm 0 50) (addL l (t + cutI x.tm 0 50) x.kind x.text) := by
  obtain ⟨h1, h2⟩ := List.getElem?_eq_some_iff.1 h
  rw [List.drop_eq_getElem_cons h1, h2, logF]

set_option maxHeartbeats 4000000 in
set_option maxRecDepth 100000 in
theorem logof_c (xs : List EN) (gd : Nat) (hs : Hp) (hx : ∀ x ∈ xs, x.kind.size ≤ 140737488351232 ∧ x.text.size ≤ 140737488351232) : AC P 4 [.d (.sl 4 (xs.map EN.enc))] ((gd, p10G) :: hs) (fun r h => ∃ b f, r = .ptr b 0 ∧ h = (gd, p10G) :: reH b (logV xs) f hs) := by
  refine AC.of 34 Tryz.func4 rfl rfl rfl ?_
  refine W.reg ?_
  refine XOps.s rfl rfl rfl (Q.assign_d rfl) ?_
  refine XOps.nil ?_
  refine W.reg ?_
  (refine XOps.loud rfl (L.call rfl Tryz.func14 go14 rfl (rnew_c gd hs) rfl) ?_; rintro _ _ ⟨_, rfl, b, f, rfl, rfl⟩)
  refine XOps.s rfl rfl rfl (Q.assign_ptr rfl) ?_
  refine XOps.nil ?_
  refine W.seq ?_
  refine W.reg ?_
  refine XOps.s rfl rfl rfl (Q.move_ptr rfl) ?_
  refine XOps.s rfl rfl rfl (Q.eql_ptr ipt23 rfl rfl) ?_
  refine XOps.nil ?_
  refine W.cond rfl (fun hc9 => ?_) (fun hc9 => ?_)
  · try simp only [Bool.or_eq_true, Bool.or_eq_false_iff, Bool.and_eq_true, Bool.and_eq_false_iff, decide_eq_true_eq, decide_eq_false_iff_not, Bool.not_eq_true', Bool.not_eq_false', Int.not_lt, Int.not_le, List.length_map] at hc9
    exact absurd hc9 (by decide)
  · try simp only [Bool.or_eq_true, Bool.or_eq_false_iff, Bool.and_eq_true, Bool.and_eq_false_iff, decide_eq_true_eq, decide_eq_false_iff_not, Bool.not_eq_true', Bool.not_eq_false', Int.not_lt, Int.not_le, List.length_map] at hc9
    refine W.skip ?_
    refine W.reg ?_
    refine XOps.s rfl rfl rfl (Q.assign_d rfl) ?_
    refine XOps.nil ?_
    refine W.seq ?_
    refine W.reg ?_
    refine XOps.s rfl rfl rfl (Q.move_d rfl) ?_
    refine XOps.s rfl rfl rfl (Q.move_d rfl) ?_
    refine XOps.s rfl rfl rfl (Q.len_sl isl22 rfl) ?_
    refine XOps.s rfl rfl rfl (Q.mini rfl rfl) ?_
    refine XOps.s rfl rfl rfl (Quiet.to (v' := .d (.sl 4 ((xs.take 12).map EN.enc))) (Q.cut_slm sl22 rfl rfl rfl (by omega) (by omega) (by simp; omega)) (fun _ _ _ _ h => by rw [take12] at h; exact h)) ?_
    refine XOps.s rfl rfl rfl (Q.len_sl isl22 rfl) ?_
    refine XOps.s rfl rfl rfl (Q.move_d rfl) ?_
    refine XOps.nil ?_
    refine W.block ?_
    refine W.loop (ι := Nat × Int × List EN × Nat) (fun p => [(0, .d (.sl 4 (xs.map EN.enc))), (3, .ptr b 0), (4, .d (.int .i64 p.2.1)), (14, .d (.sl 4 ((xs.take 12).map EN.enc))), (15, .d (.int .i64 (xs.take 12).length)), (16, .d (.int .i64 (p.1 : Nat)))]) (fun p => (gd, p10G) :: reH b p.2.2.1 p.2.2.2 hs) (fun p => p.1 ≤ (xs.take 12).length ∧ logF ((xs.take 12).drop p.1) p.2.1 p.2.2.1 = logV xs ∧ Okl p.2.2.1 ∧ p.2.2.1.length ≤ p.1 ∧ 0 ≤ p.2.1 ∧ p.2.1 ≤ 50 * p.1) (fun p => (xs.take 12).length - p.1) (0, 0, [], f) ?_ ?_ ?_ ?_
    · exact ⟨Nat.zero_le _, rfl, Okl.nil, Nat.le_refl _, Int.le_refl _, by show (0 : Int) ≤ 50 * ((0 : Nat) : Int); decide⟩
    · exact ⟨by first | rfl | exact int_eq (by omega) | exact len_eq (by simp) | exact int_eq (by simp; done), by first | rfl | exact int_eq (by omega) | exact len_eq (by simp) | exact int_eq (by simp; done), by first | rfl | exact int_eq (by omega) | exact len_eq (by simp) | exact int_eq (by simp; done), by first | rfl | exact int_eq (by omega) | exact len_eq (by simp) | exact int_eq (by simp; done), by exact int_eq (by rw [List.length_map]), by first | rfl | exact int_eq (by omega) | exact len_eq (by simp) | exact int_eq (by simp; done), trivial⟩
    · exact HLe.refl _
    · rintro ⟨k, t, l, f⟩ ⟨hk, hI, ok, hll, ht0, ht1⟩
      dsimp only at hk hI ok hll ht0 ht1 ⊢
      refine W.reg ?_
      refine XOps.s rfl rfl rfl (Q.lss rfl rfl) ?_
      refine XOps.nil ?_
      refine W.seq ?_
      refine W.cond rfl (fun hc17 => ?_) (fun hc17 => ?_)
      · try simp only [Bool.or_eq_true, Bool.or_eq_false_iff, Bool.and_eq_true, Bool.and_eq_false_iff, decide_eq_true_eq, decide_eq_false_iff_not, Bool.not_eq_true', Bool.not_eq_false', Int.not_lt, Int.not_le, List.length_map] at hc17
        obtain ⟨x, hx2⟩ : ∃ x, (xs.take 12)[k]? = some x := ⟨_, List.getElem?_eq_getElem (by omega)⟩
        have hxs := hx x (List.mem_of_mem_take (List.mem_of_getElem? hx2))
        have hcb := cutI_bounds x.tm (lo := 0) (hi := 50) (by omega)
        have hxl : (xs.take 12).length ≤ 12 := by simp; omega
        have hst := logF_step (t := t) (l := l) hx2
        rw [hst] at hI
        have hok2 := add_ok ok (t + cutI x.tm 0 50) x.kind x.text
        refine W.skip ?_
        refine W.seq ?_
        refine W.block ?_
        refine W.reg ?_
        refine XOps.s rfl rfl rfl (Q.idx_sl sl22 (by decide) rfl rfl (by first | omega | (simp only [List.length_map]; omega)) (by exact map_at hx2)) ?_
        refine XOps.s rfl rfl rfl (Q.ld_dpn ag38 rfl rfl) ?_
        (refine XOps.loud rfl (L.alloc tz38 rfl rfl) ?_; rintro _ _ ⟨b6, rfl, rfl⟩)
        refine XOps.loud rfl (L.storen (k := 0) ag38 rfl rfl rfl rfl rfl) ?_
        rintro _ _ ⟨rfl, rfl⟩
        refine XOps.nil ?_
        refine W.reg ?_
        refine XOps.s rfl rfl rfl (Q.move_d rfl) ?_
        refine XOps.s rfl rfl rfl (Q.fld_ptr fl38_1 rfl) ?_
        refine XOps.s rfl rfl rfl (Q.ld_ptr (k := 0) ag3 rfl rfl rfl) ?_
        refine XOps.s rfl rfl rfl (Q.call rfl Tryz.func8 go8 rfl (rcut_c x.tm 0 50 _ (by omega) (by omega) (by omega))) ?_
        refine XOps.s rfl rfl rfl (Q.add rfl rfl (wi64 (by first | omega | (dsimp only; omega) | (simp only [List.length_map]; omega)) (by first | omega | (dsimp only; omega) | (simp only [List.length_map]; omega)))) ?_
        refine XOps.s rfl rfl rfl (Q.assign_d rfl) ?_
        refine XOps.nil ?_
        refine W.region ?_
        refine XOps.s rfl rfl rfl (Q.move_ptr rfl) ?_
        refine XOps.s rfl rfl rfl (Q.move_d rfl) ?_
        refine XOps.s rfl rfl rfl (Q.fld_ptr fl38_2 rfl) ?_
        refine XOps.s rfl rfl rfl (Q.ld_ptr (k := 0) ag9 rfl rfl rfl) ?_
        refine XOps.s rfl rfl rfl (Q.fld_ptr fl38_3 rfl) ?_
        refine XOps.s rfl rfl rfl (Q.ld_ptr (k := 0) ag9 rfl rfl rfl) ?_
        (refine XOps.loud rfl (L.call rfl Tryz.func15 go15 rfl (AC.le (add_c b l f (t + cutI x.tm 0 50) x.kind x.text gd hs ok (by omega) (by omega)) (HLe.skip _ (HLe.refl _))) rfl) ?_; rintro _ _ ⟨_, rfl, f2, rfl, rfl⟩)
        refine XOps.nil ?_
        refine W.region ?_
        refine XOps.s rfl rfl rfl (Q.add rfl rfl (wi64 (by first | omega | (dsimp only; omega) | (simp only [List.length_map]; omega)) (by first | omega | (dsimp only; omega) | (simp only [List.length_map]; omega)))) ?_
        refine XOps.s rfl rfl rfl (Q.move_d rfl) ?_
        refine XOps.nil ?_
        refine ⟨(k + 1, t + cutI x.tm 0 50, addL l (t + cutI x.tm 0 50) x.kind x.text, f2), ?_, ?_, ?_, ?_⟩
        · exact ⟨by dsimp only; omega, hI, hok2.1, by dsimp only; omega, by dsimp only; omega, by dsimp only; omega⟩
        · dsimp only; omega
        · exact ⟨by first | rfl | exact int_eq (by omega) | exact len_eq (by simp) | exact int_eq (by simp; done), by first | rfl | exact int_eq (by omega) | exact len_eq (by simp) | exact int_eq (by simp; done), by first | rfl | exact int_eq (by omega) | exact len_eq (by simp) | exact int_eq (by simp; done), by first | rfl | exact int_eq (by omega) | exact len_eq (by simp) | exact int_eq (by simp; done), by first | rfl | exact int_eq (by omega) | exact len_eq (by simp) | exact int_eq (by simp; done), by first | rfl | exact int_eq (by omega) | exact len_eq (by simp) | exact int_eq (by simp; done), trivial⟩
        · exact HLe.refl _
      · try simp only [Bool.or_eq_true, Bool.or_eq_false_iff, Bool.and_eq_true, Bool.and_eq_false_iff, decide_eq_true_eq, decide_eq_false_iff_not, Bool.not_eq_true', Bool.not_eq_false', Int.not_lt, Int.not_le, List.length_map] at hc17
        have hkk : k = (xs.take 12).length := by omega
        rw [hkk, List.drop_length] at hI
        have hE : logV xs = l := hI.symm
        rw [hE]
        refine W.exit ?_
        refine W.reg ?_
        refine XOps.s rfl rfl rfl (Q.move_ptr rfl) ?_
        refine XOps.s rfl rfl rfl (Q.assign_ptr rfl) ?_
        refine XOps.nil ?_
        refine W.ret ?_
        exact ⟨_, (gd, p10G) :: reH b l f hs, rfl, HLe.refl _, b, f, rfl, rfl⟩

set_option maxHeartbeats 1000000 in
set_option maxRecDepth 100000 in
theorem equalE_c (a b : List EN) (hs : Hp) (hl : a.length ≤ 4611686018427387904) : AC P 13 [.d (.sl 4 (a.map EN.enc)), .d (.sl 4 (b.map EN.enc))] hs (fun r h => r = .d (.bool (decide (a = b))) ∧ h = hs) := by
  refine AC.of 26 Tryz.func13 rfl rfl rfl ?_
  refine W.reg ?_
  refine XOps.s rfl rfl rfl (Q.assign_d rfl) ?_
  refine XOps.nil ?_
  refine W.seq ?_
  refine W.reg ?_
  refine XOps.s rfl rfl rfl (Q.move_d rfl) ?_
  refine XOps.s rfl rfl rfl (Q.len_sl isl22 rfl) ?_
  refine XOps.s rfl rfl rfl (Q.move_d rfl) ?_
  refine XOps.s rfl rfl rfl (Q.len_sl isl22 rfl) ?_
  refine XOps.s rfl rfl rfl (Q.neq rfl rfl) ?_
  refine XOps.nil ?_
  refine W.cond rfl (fun hc10 => ?_) (fun hc10 => ?_)
  · try simp only [decide_eq_true_eq, decide_eq_false_iff_not, Int.not_lt, Int.not_le, Bool.not_eq_true', Bool.not_eq_false', List.length_map] at hc10
    have hr : decide (a = b) = false := decide_eq_false fun h => by subst h; simp at hc10
    refine W.reg ?_
    refine XOps.s rfl rfl rfl (Q.assign_d rfl) ?_
    refine XOps.nil ?_
    refine W.ret ?_
    refine ⟨_, hs, rfl, by repeat (first | exact HLe.refl _ | refine HLe.cons' (by first | rfl | (simp; done)) ?_ | refine HLe.pick 1 rfl (by first | rfl | (simp; done)) ?_ | refine HLe.pick 2 rfl (by first | rfl | (simp; done)) ?_ | refine HLe.pick 3 rfl (by first | rfl | (simp; done)) ?_ | refine HLe.pick 4 rfl (by first | rfl | (simp; done)) ?_ | refine HLe.pick 5 rfl (by first | rfl | (simp; done)) ?_ | refine HLe.skip _ ?_), ?_, rfl⟩
    rw [hr]; rfl
  · try simp only [decide_eq_true_eq, decide_eq_false_iff_not, Int.not_lt, Int.not_le, Bool.not_eq_true', Bool.not_eq_false', List.length_map] at hc10
    have hlen : a.length = b.length := by omega
    refine W.skip ?_
    refine W.seq ?_
    refine W.reg ?_
    refine XOps.s rfl rfl rfl (Q.move_d rfl) ?_
    refine XOps.s rfl rfl rfl (Q.len_sl isl22 rfl) ?_
    refine XOps.s rfl rfl rfl (Q.move_d rfl) ?_
    refine XOps.nil ?_
    refine W.block ?_
    refine W.loop (ι := Nat) (fun k => [(0, .d (.sl 4 (a.map EN.enc))), (1, .d (.sl 4 (b.map EN.enc))), (11, .d (.sl 4 (a.map EN.enc))), (12, .d (.int .i64 a.length)), (13, .d (.int .i64 k))]) (fun k => hs) (fun k => k ≤ a.length ∧ ∀ i, i < k → a[i]? = b[i]?) (fun k => a.length - k) 0 ?_ ?_ ?_ ?_
    · exact ⟨Nat.zero_le _, fun i hi => absurd hi (Nat.not_lt_zero _)⟩
    · exact ⟨by first | rfl | exact int_eq (by omega) | exact len_eq (by simp) | exact int_eq (by simp; done), by first | rfl | exact int_eq (by omega) | exact len_eq (by simp) | exact int_eq (by simp; done), by first | rfl | exact int_eq (by omega) | exact len_eq (by simp) | exact int_eq (by simp; done), by first | rfl | exact int_eq (by omega) | exact len_eq (by simp) | exact int_eq (by simp; done), by first | rfl | exact int_eq (by omega) | exact len_eq (by simp) | exact int_eq (by simp; done), trivial⟩
    · repeat (first | exact HLe.refl _ | refine HLe.cons' (by first | rfl | (simp; done)) ?_ | refine HLe.pick 1 rfl (by first | rfl | (simp; done)) ?_ | refine HLe.pick 2 rfl (by first | rfl | (simp; done)) ?_ | refine HLe.pick 3 rfl (by first | rfl | (simp; done)) ?_ | refine HLe.pick 4 rfl (by first | rfl | (simp; done)) ?_ | refine HLe.pick 5 rfl (by first | rfl | (simp; done)) ?_ | refine HLe.skip _ ?_)
    · rintro k ⟨hk, hI⟩
      try dsimp only
      refine W.reg ?_
      refine XOps.s rfl rfl rfl (Q.lss rfl rfl) ?_
      refine XOps.nil ?_
      refine W.seq ?_
      refine W.cond rfl (fun hc14 => ?_) (fun hc14 => ?_)
      · try simp only [decide_eq_true_eq, decide_eq_false_iff_not, Int.not_lt, Int.not_le, Bool.not_eq_true', Bool.not_eq_false', List.length_map] at hc14
        obtain ⟨u, hu⟩ : ∃ u, a[k]? = some u := ⟨_, List.getElem?_eq_getElem (by omega)⟩
        obtain ⟨v, hv⟩ : ∃ v, b[k]? = some v := ⟨_, List.getElem?_eq_getElem (by omega)⟩
        have hsm : allD (u.enc.take 4) (v.enc.take 4) = decide (u = v) := same_en u v
        refine W.skip ?_
        refine W.seq ?_
        refine W.block ?_
        refine W.reg ?_
        refine XOps.s rfl rfl rfl (Q.move_d rfl) ?_
        refine XOps.s rfl rfl rfl (Q.assign_d rfl) ?_
        refine XOps.nil ?_
        refine W.drawreg 9 follows (by kernel_rfl) ?_
        refine Chain.cons _ (GQ.q rfl (Q.move_d rfl)) rfl ?_
        refine Chain.cons _ (GQ.q rfl (Q.move_d rfl)) rfl ?_
        refine Chain.cons _ (GQ.q rfl (Q.idx_sl sl22 (by decide) rfl rfl (by first | omega | (simp only [List.length_map]; omega)) (by first | exact map_at hu | exact map_at hv))) rfl ?_
        refine Chain.cons _ (GQ.q rfl (Q.ld_dpn ag38 rfl rfl)) rfl ?_
        refine Chain.cons _ (GQ.q rfl (Q.move_d rfl)) rfl ?_
        refine Chain.cons _ (GQ.q rfl (Q.move_d rfl)) rfl ?_
        refine Chain.cons _ (GQ.q rfl (Q.idx_sl sl22 (by decide) rfl rfl (by first | omega | (simp only [List.length_map]; omega)) (by first | exact map_at hu | exact map_at hv))) rfl ?_
        refine Chain.cons _ (GQ.q rfl (Q.ld_dpn ag38 rfl rfl)) rfl ?_
        refine Chain.cons _ (GQ.q rfl (Q.neq_agg eqt38 rfl rfl rfl rfl rfl)) rfl ?_
        refine Chain.nil ?_
        refine XOps.nil ?_
        refine W.cond rfl (fun hc24 => ?_) (fun hc24 => ?_)
        · try simp only [decide_eq_true_eq, decide_eq_false_iff_not, Int.not_lt, Int.not_le, Bool.not_eq_true', Bool.not_eq_false', List.length_map] at hc24
          rw [hsm] at hc24
          have hr : decide (a = b) = false := decide_eq_false fun h => by subst h; rw [hu] at hv; obtain rfl := Option.some.inj hv; simp at hc24
          refine W.reg ?_
          refine XOps.s rfl rfl rfl (Q.assign_d rfl) ?_
          refine XOps.nil ?_
          refine W.ret ?_
          refine ⟨_, hs, rfl, by repeat (first | exact HLe.refl _ | refine HLe.cons' (by first | rfl | (simp; done)) ?_ | refine HLe.pick 1 rfl (by first | rfl | (simp; done)) ?_ | refine HLe.pick 2 rfl (by first | rfl | (simp; done)) ?_ | refine HLe.pick 3 rfl (by first | rfl | (simp; done)) ?_ | refine HLe.pick 4 rfl (by first | rfl | (simp; done)) ?_ | refine HLe.pick 5 rfl (by first | rfl | (simp; done)) ?_ | refine HLe.skip _ ?_), ?_, rfl⟩
          rw [hr]; rfl
        · try simp only [decide_eq_true_eq, decide_eq_false_iff_not, Int.not_lt, Int.not_le, Bool.not_eq_true', Bool.not_eq_false', List.length_map] at hc24
          rw [hsm] at hc24
          have huv : u = v := by simpa using hc24
          refine W.skip ?_
          refine W.region ?_
          refine XOps.s rfl rfl rfl (Q.add rfl rfl (wi64 (by first | omega | (dsimp only; omega) | (simp only [List.length_map]; omega)) (by first | omega | (dsimp only; omega) | (simp only [List.length_map]; omega)))) ?_
          refine XOps.s rfl rfl rfl (Q.move_d rfl) ?_
          refine XOps.nil ?_
          refine ⟨k + 1, ?_, ?_, ?_, ?_⟩
          · refine ⟨by omega, fun i hi => ?_⟩
            by_cases h : i = k
            · subst h; rw [hu, hv, huv]
            · exact hI i (by omega)
          · omega
          · exact ⟨by first | rfl | exact int_eq (by omega) | exact len_eq (by simp) | exact int_eq (by simp; done), by first | rfl | exact int_eq (by omega) | exact len_eq (by simp) | exact int_eq (by simp; done), by first | rfl | exact int_eq (by omega) | exact len_eq (by simp) | exact int_eq (by simp; done), by first | rfl | exact int_eq (by omega) | exact len_eq (by simp) | exact int_eq (by simp; done), by first | rfl | exact int_eq (by omega) | exact len_eq (by simp) | exact int_eq (by simp; done), trivial⟩
          · repeat (first | exact HLe.refl _ | refine HLe.cons' (by first | rfl | (simp; done)) ?_ | refine HLe.pick 1 rfl (by first | rfl | (simp; done)) ?_ | refine HLe.pick 2 rfl (by first | rfl | (simp; done)) ?_ | refine HLe.pick 3 rfl (by first | rfl | (simp; done)) ?_ | refine HLe.pick 4 rfl (by first | rfl | (simp; done)) ?_ | refine HLe.pick 5 rfl (by first | rfl | (simp; done)) ?_ | refine HLe.skip _ ?_)
      · try simp only [decide_eq_true_eq, decide_eq_false_iff_not, Int.not_lt, Int.not_le, Bool.not_eq_true', Bool.not_eq_false', List.length_map] at hc14
        have hr : decide (a = b) = true := decide_eq_true (List.ext_getElem? fun i => by
          rcases Nat.lt_or_ge i k with h | h
          · exact hI i h
          · rw [List.getElem?_eq_none (by omega), List.getElem?_eq_none (by omega)])
        refine W.exit ?_
        refine W.reg ?_
        refine XOps.s rfl rfl rfl (Q.assign_d rfl) ?_
        refine XOps.nil ?_
        refine W.ret ?_
        refine ⟨_, hs, rfl, by repeat (first | exact HLe.refl _ | refine HLe.cons' (by first | rfl | (simp; done)) ?_ | refine HLe.pick 1 rfl (by first | rfl | (simp; done)) ?_ | refine HLe.pick 2 rfl (by first | rfl | (simp; done)) ?_ | refine HLe.pick 3 rfl (by first | rfl | (simp; done)) ?_ | refine HLe.pick 4 rfl (by first | rfl | (simp; done)) ?_ | refine HLe.pick 5 rfl (by first | rfl | (simp; done)) ?_ | refine HLe.skip _ ?_), ?_, rfl⟩
        rw [hr]; rfl

theorem entries_c {l : List EN} {b f : Nat} {hs : Hp} (m : Int) (k k2 : Nat) (h1 : hs[k]? = some (b, .cells (reC l f))) (h2 : hs[k2]? = some (f, .lst 4 (l.map EN.enc))) (hl : l.length ≤ 500) :
    AC P 7 [.ptr b 0, .d (.int .i64 m)] hs (fun r h => r = .d (.sl 4 ((fromL l m).map EN.enc)) ∧ h = hs) :=
  AC.brwF (.cons (.b1 (.ptr k h1 (off := 0) (ds := reD l) (show BrwL hs (reC l f) (reD l) from .cons (.vs k2 h2 (by simp)) rfl (.cons (.d _) rfl (.nil _))))) (.cons (.b1 (.b0 (.d _))) .nil))
    ((entries_d l m [] hl).mono fun r h ⟨v, e1, e2⟩ => ⟨v, by rw [List.length_map]; exact e1, e2⟩) (by simp [EN.enc, D.flat])
theorem bytes_c {l : List EN} {b f : Nat} {hs : Hp} (k k2 : Nat) (h1 : hs[k]? = some (b, .cells (reC l f))) (h2 : hs[k2]? = some (f, .lst 4 (l.map EN.enc))) :
    AC P 10 [.ptr b 0] hs (fun r h => r = .d (.str (bs (bytesL l))) ∧ h = hs) :=
  (AC.brw (R := fun r h => r = .d (.str (bs (bytesL l))) ∧ h = []) (.cons (.b1 (.ptr k h1 (off := 0) (ds := reD l) (show BrwL hs (reC l f) (reD l) from .cons (.vs k2 h2 (by simp)) rfl (.cons (.d _) rfl (.nil _))))) .nil) (bytes_d l [])
    (fun r h' ⟨e1, e2⟩ => by subst e1 e2; exact ⟨by simp [OkR, Ok1, D.flat], by simp⟩)).mono fun r h ⟨h', ⟨e1, e2⟩, e3⟩ => ⟨e1, by rw [e3, e2]; rfl⟩
theorem fromL_one {l : List EN} : fromL l 1 = l := rfl
end Go.Proofs.YtodbcbojkfndiaaGreatDoorA
