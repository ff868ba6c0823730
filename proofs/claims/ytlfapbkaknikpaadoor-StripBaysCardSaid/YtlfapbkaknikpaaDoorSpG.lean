/- The law StripBays. -/
import Derived.Test.YtlfapbkaknikpaaDoorFrB
import Derived.Test.YtlfapbkaknikpaaDoorSpF
set_option linter.unusedVariables false
set_option linter.unusedSimpArgs false
set_option linter.unnecessarySimpa false
namespace Go.Proofs.YtlfapbkaknikpaaDoorA.FSpG
open Go
theorem ag24 : tAgg P 24 = some ((true, 5)) := by kernel_rfl
theorem ag3 : tAgg P 3 = some ((false, 1)) := by kernel_rfl
theorem ag9 : tAgg P 9 = some ((false, 1)) := by kernel_rfl
theorem ap34 : tApp P 34 = some ((1, 16)) := by kernel_rfl
theorem fl24_0 : tFld P 24 0 = some (0) := by kernel_rfl
theorem fl24_2 : tFld P 24 2 = some (2) := by kernel_rfl
theorem fl24_4 : tFld P 24 4 = some (4) := by kernel_rfl
theorem go10 : callGo Go.Proofs.Tryd.f10 = true := by kernel_rfl
theorem go11 : callGo Go.Proofs.Tryd.f11 = true := by kernel_rfl
theorem go12 : callGo Go.Proofs.Tryd.f12 = true := by kernel_rfl
theorem go13 : callGo Go.Proofs.Tryd.f13 = true := by kernel_rfl
theorem go14 : callGo Go.Proofs.Tryd.f14 = true := by kernel_rfl
theorem go15 : callGo Go.Proofs.Tryd.f15 = true := by kernel_rfl
theorem go16 : callGo Go.Proofs.Tryd.f16 = true := by kernel_rfl
theorem go5 : callGo Go.Proofs.Tryd.f5 = true := by kernel_rfl
theorem go6 : callGo Go.Proofs.Tryd.f6 = true := by kernel_rfl
theorem go7 : callGo Go.Proofs.Tryd.f7 = true := by kernel_rfl
theorem ipt25 : isPtr P 25 = true := by kernel_rfl
theorem isl22 : isSl P 22 = true := by kernel_rfl
theorem isl33 : isSl P 33 = true := by kernel_rfl
theorem isl34 : isSl P 34 = true := by kernel_rfl
theorem sl22 : tSl P 22 = some (5) := by kernel_rfl
theorem sl33 : tSl P 33 = some (1) := by kernel_rfl
theorem sl34 : tSl P 34 = some (1) := by kernel_rfl
theorem tz24 : tZero P 24 = some ([.string ⟨#[]⟩, .string ⟨#[]⟩, .int .i64 0, .int .i64 0, .int .i64 0]) := by kernel_rfl
theorem zr34 : tZrow P 34 = some ([.string ⟨#[]⟩]) := by kernel_rfl
theorem zrd34 : cellsD [.string ⟨#[]⟩] = some ([.str ⟨#[]⟩]) := rfl
end Go.Proofs.YtlfapbkaknikpaaDoorA.FSpG
namespace Go.Proofs.YtlfapbkaknikpaaDoorA
open Go FSpG
attribute [local irreducible] XOps Quiet Loud W AC GQ DT
set_option maxHeartbeats 1000000 in
set_option maxRecDepth 100000 in
theorem rcut_c (n lo hi : Int) (hs : Hp) (h0 : -1000000000000 ≤ lo) (h1 : lo ≤ hi) (h2 : hi ≤ 1000000000000) : AC P 11 [.d (.int .i64 n), .d (.int .i64 lo), .d (.int .i64 hi)] hs (fun r h => r = .d (.int .i64 (cutI n lo hi)) ∧ h = hs) := by
  refine AC.of 23 Tryd.func11 rfl rfl rfl ?_
  refine W.reg ?_
  refine XOps.s rfl rfl rfl (Q.assign_d rfl) ?_
  refine XOps.nil ?_
  refine W.reg ?_
  refine XOps.s rfl rfl rfl (Q.move_d rfl) ?_
  refine XOps.s rfl rfl rfl (Q.move_d rfl) ?_
  refine XOps.s rfl rfl rfl (Q.sub rfl rfl (wi64 (by first | omega | (dsimp only; omega) | (simp only [List.length_map]; omega)) (by first | omega | (dsimp only; omega) | (simp only [List.length_map]; omega)))) ?_
  refine XOps.s rfl rfl rfl (Q.add rfl rfl (wi64 (by first | omega | (dsimp only; omega) | (simp only [List.length_map]; omega)) (by first | omega | (dsimp only; omega) | (simp only [List.length_map]; omega)))) ?_
  refine XOps.s rfl rfl rfl (Q.assign_d rfl) ?_
  refine XOps.nil ?_
  refine W.reg ?_
  refine XOps.s rfl rfl rfl (Q.move_d rfl) ?_
  refine XOps.s rfl rfl rfl (Q.move_d rfl) ?_
  refine XOps.s rfl rfl rfl (Q.rem rfl rfl (by omega) rfl) ?_
  refine XOps.s rfl rfl rfl (Q.assign_d rfl) ?_
  refine XOps.nil ?_
  refine W.seq ?_
  have hm := cut_mod (n := n) (m := hi - lo + 1) (by omega) rfl
  have hm0 := Int.emod_nonneg n (by omega : hi - lo + 1 ≠ 0)
  have hm1 := Int.emod_lt_of_pos n (by omega : 0 < hi - lo + 1)
  generalize hT : n.tmod (hi - lo + 1) = t at hm ⊢
  refine W.reg ?_
  refine XOps.s rfl rfl rfl (Q.move_d rfl) ?_
  refine XOps.s rfl rfl rfl (Q.lss rfl rfl) ?_
  refine XOps.nil ?_
  refine W.cond rfl (fun hc16 => ?_) (fun hc16 => ?_)
  · try simp only [Bool.or_eq_true, Bool.or_eq_false_iff, Bool.and_eq_true, Bool.and_eq_false_iff, decide_eq_true_eq, decide_eq_false_iff_not, Bool.not_eq_true', Bool.not_eq_false', Int.not_lt, Int.not_le, List.length_map] at hc16
    rw [if_pos hc16] at hm
    refine W.region ?_
    refine XOps.s rfl rfl rfl (Q.move_d rfl) ?_
    refine XOps.s rfl rfl rfl (Q.move_d rfl) ?_
    refine XOps.s rfl rfl rfl (Q.add rfl rfl (wi64 (by first | omega | (dsimp only; omega) | (simp only [List.length_map]; omega)) (by first | omega | (dsimp only; omega) | (simp only [List.length_map]; omega)))) ?_
    refine XOps.s rfl rfl rfl (Q.assign_d rfl) ?_
    refine XOps.nil ?_
    refine W.reg ?_
    refine XOps.s rfl rfl rfl (Q.move_d rfl) ?_
    refine XOps.s rfl rfl rfl (Q.move_d rfl) ?_
    refine XOps.s rfl rfl rfl (Q.add rfl rfl (wi64 (by first | omega | (dsimp only; omega) | (simp only [List.length_map]; omega)) (by first | omega | (dsimp only; omega) | (simp only [List.length_map]; omega)))) ?_
    refine XOps.s rfl rfl rfl (Q.assign_d rfl) ?_
    refine XOps.nil ?_
    refine W.ret ?_
    refine ⟨_, hs, rfl, by repeat (first | exact HLe.refl _ | refine HLe.cons' (by first | rfl | (simp [ST.enc]; done)) ?_ | refine HLe.pick 1 rfl (by first | rfl | (simp [ST.enc]; done)) ?_ | refine HLe.pick 2 rfl (by first | rfl | (simp [ST.enc]; done)) ?_ | refine HLe.pick 3 rfl (by first | rfl | (simp [ST.enc]; done)) ?_ | refine HLe.pick 4 rfl (by first | rfl | (simp [ST.enc]; done)) ?_ | refine HLe.pick 5 rfl (by first | rfl | (simp [ST.enc]; done)) ?_ | refine HLe.skip _ ?_), ?_, rfl⟩
    exact int_eq (by unfold cutI; omega)
  · try simp only [Bool.or_eq_true, Bool.or_eq_false_iff, Bool.and_eq_true, Bool.and_eq_false_iff, decide_eq_true_eq, decide_eq_false_iff_not, Bool.not_eq_true', Bool.not_eq_false', Int.not_lt, Int.not_le, List.length_map] at hc16
    rw [if_neg (by omega)] at hm
    refine W.skip ?_
    refine W.reg ?_
    refine XOps.s rfl rfl rfl (Q.move_d rfl) ?_
    refine XOps.s rfl rfl rfl (Q.move_d rfl) ?_
    refine XOps.s rfl rfl rfl (Q.add rfl rfl (wi64 (by first | omega | (dsimp only; omega) | (simp only [List.length_map]; omega)) (by first | omega | (dsimp only; omega) | (simp only [List.length_map]; omega)))) ?_
    refine XOps.s rfl rfl rfl (Q.assign_d rfl) ?_
    refine XOps.nil ?_
    refine W.ret ?_
    refine ⟨_, hs, rfl, by repeat (first | exact HLe.refl _ | refine HLe.cons' (by first | rfl | (simp [ST.enc]; done)) ?_ | refine HLe.pick 1 rfl (by first | rfl | (simp [ST.enc]; done)) ?_ | refine HLe.pick 2 rfl (by first | rfl | (simp [ST.enc]; done)) ?_ | refine HLe.pick 3 rfl (by first | rfl | (simp [ST.enc]; done)) ?_ | refine HLe.pick 4 rfl (by first | rfl | (simp [ST.enc]; done)) ?_ | refine HLe.pick 5 rfl (by first | rfl | (simp [ST.enc]; done)) ?_ | refine HLe.skip _ ?_), ?_, rfl⟩
    exact int_eq (by unfold cutI; omega)

set_option maxHeartbeats 1000000 in
set_option maxRecDepth 100000 in
theorem equalS_c (a b : List ByteArray) (hs : Hp) (hl : a.length ≤ 4611686018427387904) : AC P 14 [.d (.sl 1 (a.map sE)), .d (.sl 1 (b.map sE))] hs (fun r h => r = .d (.bool (decide (a = b))) ∧ h = hs) := by
  refine AC.of 26 Tryd.func14 rfl rfl rfl ?_
  refine W.reg ?_
  refine XOps.s rfl rfl rfl (Q.assign_d rfl) ?_
  refine XOps.nil ?_
  refine W.seq ?_
  refine W.reg ?_
  refine XOps.s rfl rfl rfl (Q.move_d rfl) ?_
  refine XOps.s rfl rfl rfl (Q.len_sl isl34 rfl) ?_
  refine XOps.s rfl rfl rfl (Q.move_d rfl) ?_
  refine XOps.s rfl rfl rfl (Q.len_sl isl34 rfl) ?_
  refine XOps.s rfl rfl rfl (Q.neq rfl rfl) ?_
  refine XOps.nil ?_
  refine W.cond rfl (fun hc10 => ?_) (fun hc10 => ?_)
  · try simp only [Bool.or_eq_true, Bool.or_eq_false_iff, Bool.and_eq_true, Bool.and_eq_false_iff, decide_eq_true_eq, decide_eq_false_iff_not, Bool.not_eq_true', Bool.not_eq_false', Int.not_lt, Int.not_le, List.length_map] at hc10
    have hr : decide (a = b) = false := decide_eq_false fun h => by subst h; simp at hc10
    refine W.reg ?_
    refine XOps.s rfl rfl rfl (Q.assign_d rfl) ?_
    refine XOps.nil ?_
    refine W.ret ?_
    refine ⟨_, hs, rfl, by repeat (first | exact HLe.refl _ | refine HLe.cons' (by first | rfl | (simp [ST.enc]; done)) ?_ | refine HLe.pick 1 rfl (by first | rfl | (simp [ST.enc]; done)) ?_ | refine HLe.pick 2 rfl (by first | rfl | (simp [ST.enc]; done)) ?_ | refine HLe.pick 3 rfl (by first | rfl | (simp [ST.enc]; done)) ?_ | refine HLe.pick 4 rfl (by first | rfl | (simp [ST.enc]; done)) ?_ | refine HLe.pick 5 rfl (by first | rfl | (simp [ST.enc]; done)) ?_ | refine HLe.skip _ ?_), ?_, rfl⟩
    rw [hr]; rfl
  · try simp only [Bool.or_eq_true, Bool.or_eq_false_iff, Bool.and_eq_true, Bool.and_eq_false_iff, decide_eq_true_eq, decide_eq_false_iff_not, Bool.not_eq_true', Bool.not_eq_false', Int.not_lt, Int.not_le, List.length_map] at hc10
    have hlen : a.length = b.length := by omega
    refine W.skip ?_
    refine W.seq ?_
    refine W.reg ?_
    refine XOps.s rfl rfl rfl (Q.move_d rfl) ?_
    refine XOps.s rfl rfl rfl (Q.len_sl isl34 rfl) ?_
    refine XOps.s rfl rfl rfl (Q.move_d rfl) ?_
    refine XOps.nil ?_
    refine W.block ?_
    refine W.loop (ι := Nat) (fun k => [(0, .d (.sl 1 (a.map sE))), (1, .d (.sl 1 (b.map sE))), (11, .d (.sl 1 (a.map sE))), (12, .d (.int .i64 a.length)), (13, .d (.int .i64 k))]) (fun k => hs) (fun k => k ≤ a.length ∧ ∀ i, i < k → a[i]? = b[i]?) (fun k => a.length - k) 0 ?_ ?_ ?_ ?_
    · exact ⟨Nat.zero_le _, fun i hi => absurd hi (Nat.not_lt_zero _)⟩
    · exact ⟨by first | rfl | exact int_eq (by omega) | exact len_eq (by simp) | exact int_eq (by simp; done), by first | rfl | exact int_eq (by omega) | exact len_eq (by simp) | exact int_eq (by simp; done), by first | rfl | exact int_eq (by omega) | exact len_eq (by simp) | exact int_eq (by simp; done), by first | rfl | exact int_eq (by omega) | exact len_eq (by simp) | exact int_eq (by simp; done), by first | rfl | exact int_eq (by omega) | exact len_eq (by simp) | exact int_eq (by simp; done), trivial⟩
    · repeat (first | exact HLe.refl _ | refine HLe.cons' (by first | rfl | (simp [ST.enc]; done)) ?_ | refine HLe.pick 1 rfl (by first | rfl | (simp [ST.enc]; done)) ?_ | refine HLe.pick 2 rfl (by first | rfl | (simp [ST.enc]; done)) ?_ | refine HLe.pick 3 rfl (by first | rfl | (simp [ST.enc]; done)) ?_ | refine HLe.pick 4 rfl (by first | rfl | (simp [ST.enc]; done)) ?_ | refine HLe.pick 5 rfl (by first | rfl | (simp [ST.enc]; done)) ?_ | refine HLe.skip _ ?_)
    · rintro k ⟨hk, hI⟩
      try dsimp only
      refine W.reg ?_
      refine XOps.s rfl rfl rfl (Q.lss rfl rfl) ?_
      refine XOps.nil ?_
      refine W.seq ?_
      refine W.cond rfl (fun hc14 => ?_) (fun hc14 => ?_)
      · try simp only [Bool.or_eq_true, Bool.or_eq_false_iff, Bool.and_eq_true, Bool.and_eq_false_iff, decide_eq_true_eq, decide_eq_false_iff_not, Bool.not_eq_true', Bool.not_eq_false', Int.not_lt, Int.not_le, List.length_map] at hc14
        obtain ⟨u, hu⟩ : ∃ u, a[k]? = some u := ⟨_, List.getElem?_eq_getElem (by omega)⟩
        obtain ⟨v, hv⟩ : ∃ v, b[k]? = some v := ⟨_, List.getElem?_eq_getElem (by omega)⟩
        refine W.skip ?_
        refine W.seq ?_
        refine W.block ?_
        refine W.reg ?_
        refine XOps.s rfl rfl rfl (Q.move_d rfl) ?_
        refine XOps.s rfl rfl rfl (Q.assign_d rfl) ?_
        refine XOps.nil ?_
        refine W.drawreg 9 follows (by kernel_rfl) ?_
        refine Chain.cons _ (GQ.q rfl (Q.move_d rfl)) rfl ?_
        refine Chain.cons _ (GQ.q rfl (Q.move_d rfl)) rfl ?_
        refine Chain.cons _ (GQ.q rfl (Q.idx_sl sl34 (by decide) rfl rfl (by first | omega | (simp only [List.length_map]; omega)) (by first | exact map_at (by assumption) | exact map_at0 (by assumption) | assumption))) rfl ?_
        refine Chain.cons _ (GQ.q rfl (Q.ld_dp ag9 rfl rfl)) rfl ?_
        refine Chain.cons _ (GQ.q rfl (Q.move_d rfl)) rfl ?_
        refine Chain.cons _ (GQ.q rfl (Q.move_d rfl)) rfl ?_
        refine Chain.cons _ (GQ.q rfl (Q.idx_sl sl34 (by decide) rfl rfl (by first | omega | (simp only [List.length_map]; omega)) (by first | exact map_at (by assumption) | exact map_at0 (by assumption) | assumption))) rfl ?_
        refine Chain.cons _ (GQ.q rfl (Q.ld_dp ag9 rfl rfl)) rfl ?_
        refine Chain.cons _ (GQ.q rfl (Q.neq_str rfl rfl)) rfl ?_
        refine Chain.nil ?_
        refine XOps.nil ?_
        refine W.cond rfl (fun hc24 => ?_) (fun hc24 => ?_)
        · try simp only [Bool.or_eq_true, Bool.or_eq_false_iff, Bool.and_eq_true, Bool.and_eq_false_iff, decide_eq_true_eq, decide_eq_false_iff_not, Bool.not_eq_true', Bool.not_eq_false', Int.not_lt, Int.not_le, List.length_map] at hc24
          have hr : decide (a = b) = false := decide_eq_false fun h => by subst h; rw [hu] at hv; obtain rfl := Option.some.inj hv; simp at hc24
          refine W.reg ?_
          refine XOps.s rfl rfl rfl (Q.assign_d rfl) ?_
          refine XOps.nil ?_
          refine W.ret ?_
          refine ⟨_, hs, rfl, by repeat (first | exact HLe.refl _ | refine HLe.cons' (by first | rfl | (simp [ST.enc]; done)) ?_ | refine HLe.pick 1 rfl (by first | rfl | (simp [ST.enc]; done)) ?_ | refine HLe.pick 2 rfl (by first | rfl | (simp [ST.enc]; done)) ?_ | refine HLe.pick 3 rfl (by first | rfl | (simp [ST.enc]; done)) ?_ | refine HLe.pick 4 rfl (by first | rfl | (simp [ST.enc]; done)) ?_ | refine HLe.pick 5 rfl (by first | rfl | (simp [ST.enc]; done)) ?_ | refine HLe.skip _ ?_), ?_, rfl⟩
          rw [hr]; rfl
        · try simp only [Bool.or_eq_true, Bool.or_eq_false_iff, Bool.and_eq_true, Bool.and_eq_false_iff, decide_eq_true_eq, decide_eq_false_iff_not, Bool.not_eq_true', Bool.not_eq_false', Int.not_lt, Int.not_le, List.length_map] at hc24
          have huv : u = v := toList_inj (by simpa using hc24)
          refine W.skip ?_
          refine W.region ?_
          refine XOps.s rfl rfl rfl (Q.add rfl rfl (wi64 (by first | omega | (dsimp only; omega) | (simp only [List.length_map]; omega)) (by first | omega | (dsimp only; omega) | (simp only [List.length_map]; omega)))) ?_
          refine XOps.s rfl rfl rfl (Q.move_d rfl) ?_
          refine XOps.nil ?_
          refine ⟨k + 1, ?_, ?_, ?_, ?_⟩
          · refine ⟨by omega, fun i hi => ?_⟩
            by_cases h : i = k
            · subst h; rw [hu, hv, huv]
            · exact hI i (by omega)
          · omega
          · exact ⟨by first | rfl | exact int_eq (by omega) | exact len_eq (by simp) | exact int_eq (by simp; done), by first | rfl | exact int_eq (by omega) | exact len_eq (by simp) | exact int_eq (by simp; done), by first | rfl | exact int_eq (by omega) | exact len_eq (by simp) | exact int_eq (by simp; done), by first | rfl | exact int_eq (by omega) | exact len_eq (by simp) | exact int_eq (by simp; done), by first | rfl | exact int_eq (by omega) | exact len_eq (by simp) | exact int_eq (by simp; done), trivial⟩
          · repeat (first | exact HLe.refl _ | refine HLe.cons' (by first | rfl | (simp [ST.enc]; done)) ?_ | refine HLe.pick 1 rfl (by first | rfl | (simp [ST.enc]; done)) ?_ | refine HLe.pick 2 rfl (by first | rfl | (simp [ST.enc]; done)) ?_ | refine HLe.pick 3 rfl (by first | rfl | (simp [ST.enc]; done)) ?_ | refine HLe.pick 4 rfl (by first | rfl | (simp [ST.enc]; done)) ?_ | refine HLe.pick 5 rfl (by first | rfl | (simp [ST.enc]; done)) ?_ | refine HLe.skip _ ?_)
      · try simp only [Bool.or_eq_true, Bool.or_eq_false_iff, Bool.and_eq_true, Bool.and_eq_false_iff, decide_eq_true_eq, decide_eq_false_iff_not, Bool.not_eq_true', Bool.not_eq_false', Int.not_lt, Int.not_le, List.length_map] at hc14
        have hr : decide (a = b) = true := decide_eq_true (List.ext_getElem? fun i => by
          rcases Nat.lt_or_ge i k with h | h
          · exact hI i h
          · rw [List.getElem?_eq_none (by omega), List.getElem?_eq_none (by omega)])
        refine W.exit ?_
        refine W.reg ?_
        refine XOps.s rfl rfl rfl (Q.assign_d rfl) ?_
        refine XOps.nil ?_
        refine W.ret ?_
        refine ⟨_, hs, rfl, by repeat (first | exact HLe.refl _ | refine HLe.cons' (by first | rfl | (simp [ST.enc]; done)) ?_ | refine HLe.pick 1 rfl (by first | rfl | (simp [ST.enc]; done)) ?_ | refine HLe.pick 2 rfl (by first | rfl | (simp [ST.enc]; done)) ?_ | refine HLe.pick 3 rfl (by first | rfl | (simp [ST.enc]; done)) ?_ | refine HLe.pick 4 rfl (by first | rfl | (simp [ST.enc]; done)) ?_ | refine HLe.pick 5 rfl (by first | rfl | (simp [ST.enc]; done)) ?_ | refine HLe.skip _ ?_), ?_, rfl⟩
        rw [hr]; rfl

theorem take12S {xs : List ST} : (xs.take (min (((xs.map ST.enc).length : Nat) : Int) 12).toNat).drop (0 : Int).toNat = xs.take 12 := by
  rw [List.length_map, show (0 : Int).toNat = 0 from rfl, List.drop_zero]
  rcases Nat.le_total xs.length 12 with h | h
  · rw [show (min ((xs.length : Nat) : Int) 12).toNat = xs.length by omega, List.take_length, List.take_of_length_le h]
  · rw [show (min ((xs.length : Nat) : Int) 12).toNat = 12 by omega]
theorem check_put {B : List ST} {x : ST} (h : ∀ y ∈ B, checkS y = 0) (hx : checkS x = 0) : ∀ y ∈ B ++ [x], checkS y = 0 := fun y hy => by
  rcases List.mem_append.1 hy with hy | hy
  · exact h y hy
  · rw [List.mem_singleton.1 hy]; exact hx
theorem take20 {xs : List Int} : (xs.take (min (((xs.map nE).length : Nat) : Int) 20).toNat).drop (0 : Int).toNat = xs.take 20 := by
  rw [List.length_map, show (0 : Int).toNat = 0 from rfl, List.drop_zero]
  rcases Nat.le_total xs.length 20 with h | h
  · rw [show (min ((xs.length : Nat) : Int) 20).toNat = xs.length by omega, List.take_length, List.take_of_length_le h]
  · rw [show (min ((xs.length : Nat) : Int) 20).toNat = 20 by omega]
theorem prevS_row {l : List ST} {k : Nat} (hk : k < l.length) (h0 : 0 < k) : (l.map ST.enc)[((k : Int) - 1).toNat]? = some (l.getD (k - 1) ST.zero).enc := by
  rw [show ((k : Int) - 1).toNat = k - 1 by omega, List.getElem?_map, List.getD_eq_getElem?_getD, List.getElem?_eq_getElem (by omega)]; rfl

set_option maxHeartbeats 16000000 in
set_option maxRecDepth 100000 in
theorem bays_c (xs : List ST) (ms : List Int) (gd : Nat) (hs : Hp) (hx : ∀ x ∈ xs, x.call.size ≤ 140737488351232 ∧ x.fix.size ≤ 140737488351232) : AC P 4 [.d (.sl 5 (xs.map ST.enc)), .d (.sl 1 (ms.map nE))] ((gd, p10G) :: hs) (fun r h => r = .d (.bool true)) := by
  have hyl : (xs.take 12).length ≤ 12 := by simp; omega
  have hml : (ms.take 20).length ≤ 20 := by simp; omega
  refine AC.of 145 Tryd.func4 rfl rfl rfl ?_
  refine W.reg ?_
  refine XOps.s rfl rfl rfl (Q.assign_d rfl) ?_
  refine XOps.nil ?_
  refine W.reg ?_
  (refine XOps.loud rfl (L.call rfl Tryd.func5 go5 rfl (snew_c ((gd, p10G) :: hs)) rfl) ?_; rintro _ _ ⟨_, rfl, b, f, rfl, rfl⟩)
  refine XOps.s rfl rfl rfl (Q.assign_ptr rfl) ?_
  refine XOps.nil ?_
  refine W.seq ?_
  refine W.heap ((gd, p10G) :: stH b [] f hs) (HLe.pick 2 rfl rfl (HLe.refl _)) ?_
  refine W.reg ?_
  refine XOps.s rfl rfl rfl (Q.move_ptr rfl) ?_
  refine XOps.s rfl rfl rfl (Q.eql_ptr ipt25 rfl rfl) ?_
  refine XOps.s rfl rfl rfl (Q.move_d rfl) ?_
  refine XOps.gs rfl rfl rfl rfl rfl rfl rfl (fun hg => Q.call rfl Tryd.func6 go6 rfl (sfact_c gd (stH b [] f hs))) ?_
  refine XOps.gs rfl rfl rfl rfl rfl rfl rfl (fun hg => Quiet.open 20 hg rfl (Q.not rfl)) ?_
  refine XOps.s rfl rfl rfl (Q.pick_or rfl rfl rfl (fun h => by first | (rw [h]; rfl) | (rw [hg, h]; rfl) | (simp [h, hg]; done))) ?_
  refine XOps.nil ?_
  refine W.cond rfl (fun hc22 => ?_) (fun hc22 => ?_)
  · try simp only [Bool.or_eq_true, Bool.or_eq_false_iff, Bool.and_eq_true, Bool.and_eq_false_iff, decide_eq_true_eq, decide_eq_false_iff_not, Bool.not_eq_true', Bool.not_eq_false', Int.not_lt, Int.not_le, List.length_map] at hc22
    exact absurd hc22 (by decide)
  · try simp only [Bool.or_eq_true, Bool.or_eq_false_iff, Bool.and_eq_true, Bool.and_eq_false_iff, decide_eq_true_eq, decide_eq_false_iff_not, Bool.not_eq_true', Bool.not_eq_false', Int.not_lt, Int.not_le, List.length_map] at hc22
    refine W.skip ?_
    refine W.reg ?_
    refine XOps.s rfl rfl rfl (Q.assign_nilsl rfl) ?_
    refine XOps.nil ?_
    refine W.ghost 6 1 (by decide) rfl rfl (fun v6 => ?_)
    refine W.seq ?_
    refine W.reg ?_
    refine XOps.s rfl rfl rfl (Q.move_d rfl) ?_
    refine XOps.s rfl rfl rfl (Q.move_d rfl) ?_
    refine XOps.s rfl rfl rfl (Q.len_sl isl22 rfl) ?_
    refine XOps.s rfl rfl rfl (Q.mini rfl rfl) ?_
    refine XOps.s rfl rfl rfl (Quiet.to (v' := .d (.sl 5 ((xs.take 12).map ST.enc))) (Q.cut_slm sl22 rfl rfl rfl (by omega) (by omega) (by simp; omega)) (fun _ _ _ _ h => by rw [take12S] at h; exact h)) ?_
    refine XOps.s rfl rfl rfl (Q.len_sl isl22 rfl) ?_
    refine XOps.s rfl rfl rfl (Q.move_d rfl) ?_
    refine XOps.nil ?_
    refine W.block ?_
    refine W.loop (ι := Nat × List ST × Nat × Nat) (fun p => [(1, .d (.sl 1 (ms.map nE))), (5, .ptr b 0), (6, .vs p.2.2.2 0 (p.2.1.map ST.call).length 1), (27, .d (.sl 5 ((xs.take 12).map ST.enc))), (28, .d (.int .i64 (xs.take 12).length)), (29, .d (.int .i64 (p.1 : Nat)))]) (fun p => (p.2.2.2, .lst 1 ((p.2.1.map ST.call).map sE)) :: (gd, p10G) :: stH b p.2.1 p.2.2.1 hs) (fun p => p.1 ≤ (xs.take 12).length ∧ Uni p.2.1 ∧ p.2.1.length ≤ p.1 ∧ ∀ x ∈ p.2.1, checkS x = 0) (fun p => (xs.take 12).length - p.1) (0, [], f, v6) ?_ ?_ ?_ ?_
    · exact ⟨Nat.zero_le _, uni_nil, Nat.le_refl _, fun x h => by cases h⟩
    · exact ⟨by first | rfl | exact int_eq (by omega) | exact len_eq (by simp) | exact int_eq (by simp; done), by first | rfl | exact int_eq (by omega) | exact len_eq (by simp) | exact int_eq (by simp; done), by first | rfl | exact int_eq (by omega) | exact len_eq (by simp) | exact int_eq (by simp; done), by first | rfl | exact int_eq (by omega) | exact len_eq (by simp) | exact int_eq (by simp; done), by exact int_eq (by rw [List.length_map]), by first | rfl | exact int_eq (by omega) | exact len_eq (by simp) | exact int_eq (by simp; done), trivial⟩
    · exact HLe.refl _
    · rintro ⟨k, B, f, v⟩ ⟨hk, hu, hBl, hc⟩
      dsimp only at hk hu hBl hc ⊢
      refine W.reg ?_
      refine XOps.s rfl rfl rfl (Q.lss rfl rfl) ?_
      refine XOps.nil ?_
      refine W.seq ?_
      refine W.cond rfl (fun hc30 => ?_) (fun hc30 => ?_)
      · try simp only [Bool.or_eq_true, Bool.or_eq_false_iff, Bool.and_eq_true, Bool.and_eq_false_iff, decide_eq_true_eq, decide_eq_false_iff_not, Bool.not_eq_true', Bool.not_eq_false', Int.not_lt, Int.not_le, List.length_map] at hc30
        obtain ⟨x, hx2⟩ : ∃ x, (xs.take 12)[k]? = some x := ⟨_, List.getElem?_eq_getElem (by omega)⟩
        have hxs := hx x (List.mem_of_mem_take (List.mem_of_getElem? hx2))
        refine W.skip ?_
        refine W.seq ?_
        refine W.block ?_
        refine W.reg ?_
        refine XOps.s rfl rfl rfl (Q.idx_sl sl22 (by decide) rfl rfl (by first | omega | (simp only [List.length_map]; omega)) (by first | exact map_at hx2 | exact map_at hx3 | exact map_at hy2 | exact map_at0 hcc | exact map_at hcc)) ?_
        refine XOps.s rfl rfl rfl (Q.ld_dpn ag24 rfl rfl) ?_
        (refine XOps.loud rfl (L.alloc tz24 rfl rfl) ?_; rintro _ _ ⟨b8, rfl, rfl⟩)
        refine XOps.loud rfl (L.storen (k := 0) ag24 rfl rfl rfl rfl rfl) ?_
        rintro _ _ ⟨rfl, rfl⟩
        refine XOps.nil ?_
        refine W.reg ?_
        refine XOps.s rfl rfl rfl (Q.move_ptr rfl) ?_
        refine XOps.s rfl rfl rfl (Q.ld_ptrn (k := 0) ag24 rfl rfl rfl) ?_
        (refine XOps.loud rfl (L.call rfl Tryd.func7 go7 rfl (AC.le (put_c b B f x ((b8, .cells (x.enc.map .d)) :: (v, .lst 1 ((B.map ST.call).map sE)) :: (gd, p10G) :: hs) (by omega) hxs.1 hxs.2) (HLe.pick 3 rfl rfl (HLe.pick 3 rfl rfl (HLe.refl _)))) rfl) ?_; rintro _ _ ⟨_, rfl, f2, rfl, rfl⟩)
        refine XOps.s rfl rfl rfl (Q.eql rfl rfl) ?_
        refine XOps.nil ?_
        refine W.cond rfl (fun hc36 => ?_) (fun hc36 => ?_)
        · try simp only [Bool.or_eq_true, Bool.or_eq_false_iff, Bool.and_eq_true, Bool.and_eq_false_iff, decide_eq_true_eq, decide_eq_false_iff_not, Bool.not_eq_true', Bool.not_eq_false', Int.not_lt, Int.not_le, List.length_map] at hc36
          have h36 : pBE B x = 0 := by first | exact hc36 | (simpa using hc36)
          obtain ⟨p1, p2, p3⟩ := put_zero h36
          rw [p3]
          refine W.region ?_
          refine XOps.s rfl rfl rfl (Q.move_vs rfl) ?_
          refine XOps.s rfl rfl rfl (Q.fld_ptr fl24_0 rfl) ?_
          refine XOps.s rfl rfl rfl (Q.ld_ptr (k := 2) ag9 rfl rfl rfl) ?_
          refine XOps.s rfl rfl rfl (Q.bsl1 sl34 zr34 rfl zrd34 rfl rfl) ?_
          refine XOps.loud rfl (L.app (k := 3) ap34 rfl rfl (by first | rfl | (simp [List.length_map]; done)) rfl (by simp; omega) rfl) ?_
          rintro _ _ ⟨v41, rfl, rfl⟩
          refine XOps.s rfl rfl rfl (Q.assign_vs rfl) ?_
          refine XOps.nil ?_
          refine W.region ?_
          refine XOps.s rfl rfl rfl (Q.add rfl rfl (wi64 (by first | omega | (dsimp only; omega) | (simp only [List.length_map]; omega)) (by first | omega | (dsimp only; omega) | (simp only [List.length_map]; omega)))) ?_
          refine XOps.s rfl rfl rfl (Q.move_d rfl) ?_
          refine XOps.nil ?_
          refine ⟨(k + 1, B ++ [x], f2, v41), ?_, ?_, ?_, ?_⟩
          · exact ⟨by dsimp only; omega, uni_put hu p2, by dsimp only; simp; omega, check_put hc p1⟩
          · dsimp only; omega
          · exact ⟨by first | rfl | exact int_eq (by omega) | exact len_eq (by simp) | exact int_eq (by simp; done), by first | rfl | exact int_eq (by omega) | exact len_eq (by simp) | exact int_eq (by simp; done), by first | exact vs_eq (by dsimp only; simp) | rfl, by first | rfl | exact int_eq (by omega) | exact len_eq (by simp) | exact int_eq (by simp; done), by first | rfl | exact int_eq (by omega) | exact len_eq (by simp) | exact int_eq (by simp; done), by first | rfl | exact int_eq (by omega) | exact len_eq (by simp) | exact int_eq (by simp; done), trivial⟩
          · exact HLe.cons' (by simp [sE]) (HLe.pick 3 rfl rfl (HLe.pick 0 rfl rfl (HLe.pick 0 rfl rfl (HLe.skip _ (HLe.refl _)))))
        · try simp only [Bool.or_eq_true, Bool.or_eq_false_iff, Bool.and_eq_true, Bool.and_eq_false_iff, decide_eq_true_eq, decide_eq_false_iff_not, Bool.not_eq_true', Bool.not_eq_false', Int.not_lt, Int.not_le, List.length_map] at hc36
          have h36 : pBE B x ≠ 0 := by first | exact hc36 | (simpa using hc36)
          have p3 : pBL B x = B := if_pos h36
          rw [p3]
          refine W.skip ?_
          refine W.region ?_
          refine XOps.s rfl rfl rfl (Q.add rfl rfl (wi64 (by first | omega | (dsimp only; omega) | (simp only [List.length_map]; omega)) (by first | omega | (dsimp only; omega) | (simp only [List.length_map]; omega)))) ?_
          refine XOps.s rfl rfl rfl (Q.move_d rfl) ?_
          refine XOps.nil ?_
          refine ⟨(k + 1, B, f2, v), ?_, ?_, ?_, ?_⟩
          · exact ⟨by dsimp only; omega, hu, by dsimp only; omega, hc⟩
          · dsimp only; omega
          · exact ⟨by first | rfl | exact int_eq (by omega) | exact len_eq (by simp) | exact int_eq (by simp; done), by first | rfl | exact int_eq (by omega) | exact len_eq (by simp) | exact int_eq (by simp; done), by first | exact vs_eq (by dsimp only; simp) | rfl, by first | rfl | exact int_eq (by omega) | exact len_eq (by simp) | exact int_eq (by simp; done), by first | rfl | exact int_eq (by omega) | exact len_eq (by simp) | exact int_eq (by simp; done), by first | rfl | exact int_eq (by omega) | exact len_eq (by simp) | exact int_eq (by simp; done), trivial⟩
          · exact HLe.pick 3 rfl rfl (HLe.pick 3 rfl rfl (HLe.pick 0 rfl rfl (HLe.pick 0 rfl rfl (HLe.skip _ (HLe.refl _)))))
      · try simp only [Bool.or_eq_true, Bool.or_eq_false_iff, Bool.and_eq_true, Bool.and_eq_false_iff, decide_eq_true_eq, decide_eq_false_iff_not, Bool.not_eq_true', Bool.not_eq_false', Int.not_lt, Int.not_le, List.length_map] at hc30
        refine W.exit ?_
        refine W.seq ?_
        obtain ⟨cl, hcl⟩ : ∃ cl, cl = B.map ST.call := ⟨_, rfl⟩
        rw [← hcl]
        have hclen : cl.length = B.length := by rw [hcl, List.length_map]
        refine W.reg ?_
        refine XOps.s rfl rfl rfl (Q.move_d rfl) ?_
        refine XOps.s rfl rfl rfl (Q.move_d rfl) ?_
        refine XOps.s rfl rfl rfl (Q.len_sl isl33 rfl) ?_
        refine XOps.s rfl rfl rfl (Q.mini rfl rfl) ?_
        refine XOps.s rfl rfl rfl (Quiet.to (v' := .d (.sl 1 ((ms.take 20).map nE))) (Q.cut_slm sl33 rfl rfl rfl (by omega) (by omega) (by simp; omega)) (fun _ _ _ _ h => by rw [take20] at h; exact h)) ?_
        refine XOps.s rfl rfl rfl (Q.len_sl isl33 rfl) ?_
        refine XOps.s rfl rfl rfl (Q.move_d rfl) ?_
        refine XOps.nil ?_
        refine W.block ?_
        refine W.loop (ι := Nat × List ST) (fun p => [(5, .ptr b 0), (6, .vs v 0 cl.length 1), (47, .d (.sl 1 ((ms.take 20).map nE))), (48, .d (.int .i64 (ms.take 20).length)), (49, .d (.int .i64 (p.1 : Nat)))]) (fun p => (v, .lst 1 ((cl).map sE)) :: (gd, p10G) :: stH b p.2 f hs) (fun p => p.1 ≤ (ms.take 20).length ∧ p.2.map ST.call = cl ∧ Uni p.2 ∧ p.2.length ≤ 12 ∧ ∀ x ∈ p.2, checkS x = 0) (fun p => (ms.take 20).length - p.1) (0, B) ?_ ?_ ?_ ?_
        · exact ⟨Nat.zero_le _, hcl.symm, hu, by dsimp only; omega, hc⟩
        · exact ⟨by first | rfl | exact int_eq (by omega) | exact len_eq (by simp) | exact int_eq (by simp; done), by exact vs_eq (by rw [hcl]), by first | rfl | exact int_eq (by omega) | exact len_eq (by simp) | exact int_eq (by simp; done), by exact int_eq (by rw [List.length_map]), by first | rfl | exact int_eq (by omega) | exact len_eq (by simp) | exact int_eq (by simp; done), trivial⟩
        · exact HLe.refl _
        · rintro ⟨k, B⟩ ⟨hk3, hcB, hu, hBl2, hc⟩
          dsimp only at hk3 hcB hu hBl2 hc ⊢
          refine W.reg ?_
          refine XOps.s rfl rfl rfl (Q.lss rfl rfl) ?_
          refine XOps.nil ?_
          refine W.seq ?_
          refine W.cond rfl (fun hc50 => ?_) (fun hc50 => ?_)
          · try simp only [Bool.or_eq_true, Bool.or_eq_false_iff, Bool.and_eq_true, Bool.and_eq_false_iff, decide_eq_true_eq, decide_eq_false_iff_not, Bool.not_eq_true', Bool.not_eq_false', Int.not_lt, Int.not_le, List.length_map] at hc50
            obtain ⟨y, hy2⟩ : ∃ y, (ms.take 20)[k]? = some y := ⟨_, List.getElem?_eq_getElem (by omega)⟩
            refine W.skip ?_
            refine W.seq ?_
            refine W.block ?_
            refine W.reg ?_
            refine XOps.s rfl rfl rfl (Q.move_d rfl) ?_
            refine XOps.s rfl rfl rfl (Q.idx_sl sl33 (by decide) rfl rfl (by first | omega | (simp only [List.length_map]; omega)) (by first | exact map_at hx2 | exact map_at hx3 | exact map_at hy2 | exact map_at0 hcc | exact map_at hcc)) ?_
            refine XOps.s rfl rfl rfl (Q.ld_dp ag3 rfl rfl) ?_
            refine XOps.s rfl rfl rfl (Q.assign_d rfl) ?_
            refine XOps.s rfl rfl rfl (Q.assign_d rfl) ?_
            refine XOps.nil ?_
            refine W.reg ?_
            refine XOps.s rfl rfl rfl (Q.move_vs rfl) ?_
            refine XOps.s rfl rfl rfl (Q.len_vs isl34 rfl) ?_
            refine XOps.s rfl rfl rfl (Q.gtr rfl rfl) ?_
            refine XOps.nil ?_
            refine W.cond rfl (fun hc56 => ?_) (fun hc56 => ?_)
            · try simp only [Bool.or_eq_true, Bool.or_eq_false_iff, Bool.and_eq_true, Bool.and_eq_false_iff, decide_eq_true_eq, decide_eq_false_iff_not, Bool.not_eq_true', Bool.not_eq_false', Int.not_lt, Int.not_le, List.length_map] at hc56
              have hcp : 0 < cl.length := by omega
              have hmod := Int.emod_lt_of_pos (k : Int) (show (0 : Int) < (cl.length : Nat) by omega)
              have hmod0 := Int.emod_nonneg (k : Int) (show ((cl.length : Nat) : Int) ≠ 0 by omega)
              obtain ⟨c, hcc⟩ : ∃ c, cl[((k : Int) % (cl.length : Nat)).toNat]? = some c := ⟨_, List.getElem?_eq_getElem (by omega)⟩
              refine W.drawT 11 [10] follows (by kernel_rfl) (by decide) ?_
              apply DT.moreC [.new, .new, .new, .new, .new, .new, .new, .new, .new, .new, .now] (by kernel_rfl)
              refine PC.new _ rfl (GQ.q rfl (Q.move_ptr rfl)) rfl ?_
              refine PC.new _ rfl (GQ.q rfl (Q.move_vs rfl)) rfl ?_
              refine PC.new _ rfl (GQ.q rfl (Q.move_d rfl)) rfl ?_
              refine PC.new _ rfl (GQ.q rfl (Q.move_vs rfl)) rfl ?_
              refine PC.new _ rfl (GQ.q rfl (Q.len_vs isl34 rfl)) rfl ?_
              refine PC.new _ rfl (GQ.q rfl (Q.rem rfl rfl (by first | omega | (simp at hg; omega)) (wrem (by first | omega | (simp at hg; omega))))) rfl ?_
              refine PC.new _ rfl (GQ.q rfl (Q.idx_vs (kk := 0) sl34 rfl rfl rfl (by first | omega | (simp at hg; omega)) (by first | omega | (dsimp only; omega)))) rfl ?_
              refine PC.new _ rfl (GQ.q rfl (Q.ld_ep (k := 0) ag9 rfl rfl (by first | exact map_at hx2 | exact map_at hx3 | exact map_at hy2 | exact map_at0 hcc | exact map_at hcc) rfl)) rfl ?_
              refine PC.new _ rfl (GQ.q rfl (Q.move_d rfl)) rfl ?_
              refine PC.new _ rfl (GQ.q rfl (Q.call rfl Tryd.func11 go11 rfl (rcut_c y 0 3 _ (by decide) (by decide) (by decide)))) rfl ?_
              refine PC.now rfl rfl (fun τ => Loud.to (L.call rfl Tryd.func10 go10 rfl (AC.le (move_c b B f c (cutI y 0 3) ((v, .lst 1 ((cl).map sE)) :: (gd, p10G) :: hs) (by omega)) (HLe.pick 2 rfl rfl (HLe.pick 2 rfl rfl (HLe.refl _)))) rfl) (fun _ _ ⟨r, h1, h2⟩ => ⟨r, h1, _, h2, rfl⟩)) ?_
              refine PC.nil ?_
              rintro _ _ ⟨_, ⟨rfl, rfl⟩, rfl⟩
              refine DT.last [.did, .did, .did, .did, .did, .did, .did, .did, .did, .did, .did] (by kernel_rfl) ?_
              refine PC.did rfl ?_
              refine PC.did rfl ?_
              refine PC.did rfl ?_
              refine PC.did rfl ?_
              refine PC.did rfl ?_
              refine PC.did rfl ?_
              refine PC.did rfl ?_
              refine PC.did rfl ?_
              refine PC.did rfl ?_
              refine PC.did rfl ?_
              refine PC.did rfl ?_
              refine PC.nil ?_
              refine XOps.nil ?_
              refine W.region ?_
              refine XOps.s rfl rfl rfl (Q.add rfl rfl (wi64 (by first | omega | (dsimp only; omega) | (simp only [List.length_map]; omega)) (by first | omega | (dsimp only; omega) | (simp only [List.length_map]; omega)))) ?_
              refine XOps.s rfl rfl rfl (Q.move_d rfl) ?_
              refine XOps.nil ?_
              refine ⟨(k + 1, mvL B c (cutI y 0 3)), ?_, ?_, ?_, ?_⟩
              · exact ⟨by dsimp only; omega, by dsimp only; rw [mv_calls]; exact hcB, uni_calls.2 (by dsimp only; rw [mv_calls]; exact uni_calls.1 hu), by dsimp only; rw [mv_len]; exact hBl2, mv_check hc c _⟩
              · dsimp only; omega
              · exact ⟨by first | rfl | exact int_eq (by omega) | exact len_eq (by simp) | exact int_eq (by simp; done), by first | rfl | exact int_eq (by omega) | exact len_eq (by simp) | exact int_eq (by simp; done), by first | rfl | exact int_eq (by omega) | exact len_eq (by simp) | exact int_eq (by simp; done), by first | rfl | exact int_eq (by omega) | exact len_eq (by simp) | exact int_eq (by simp; done), by first | rfl | exact int_eq (by omega) | exact len_eq (by simp) | exact int_eq (by simp; done), trivial⟩
              · exact HLe.pick 2 rfl rfl (HLe.pick 2 rfl rfl (HLe.refl _))
            · try simp only [Bool.or_eq_true, Bool.or_eq_false_iff, Bool.and_eq_true, Bool.and_eq_false_iff, decide_eq_true_eq, decide_eq_false_iff_not, Bool.not_eq_true', Bool.not_eq_false', Int.not_lt, Int.not_le, List.length_map] at hc56
              refine W.skip ?_
              refine W.region ?_
              refine XOps.s rfl rfl rfl (Q.add rfl rfl (wi64 (by first | omega | (dsimp only; omega) | (simp only [List.length_map]; omega)) (by first | omega | (dsimp only; omega) | (simp only [List.length_map]; omega)))) ?_
              refine XOps.s rfl rfl rfl (Q.move_d rfl) ?_
              refine XOps.nil ?_
              refine ⟨(k + 1, B), ?_, ?_, ?_, ?_⟩
              · exact ⟨by dsimp only; omega, hcB, hu, hBl2, hc⟩
              · dsimp only; omega
              · exact ⟨by first | rfl | exact int_eq (by omega) | exact len_eq (by simp) | exact int_eq (by simp; done), by first | rfl | exact int_eq (by omega) | exact len_eq (by simp) | exact int_eq (by simp; done), by first | rfl | exact int_eq (by omega) | exact len_eq (by simp) | exact int_eq (by simp; done), by first | rfl | exact int_eq (by omega) | exact len_eq (by simp) | exact int_eq (by simp; done), by first | rfl | exact int_eq (by omega) | exact len_eq (by simp) | exact int_eq (by simp; done), trivial⟩
              · exact HLe.refl _
          · try simp only [Bool.or_eq_true, Bool.or_eq_false_iff, Bool.and_eq_true, Bool.and_eq_false_iff, decide_eq_true_eq, decide_eq_false_iff_not, Bool.not_eq_true', Bool.not_eq_false', Int.not_lt, Int.not_le, List.length_map] at hc50
            refine W.exit ?_
            refine W.reg ?_
            refine XOps.s rfl rfl rfl (Q.assign_nilsl rfl) ?_
            refine XOps.nil ?_
            refine W.ghost 11 1 (by decide) rfl rfl (fun v11 => ?_)
            refine W.seq ?_
            refine W.reg ?_
            refine XOps.s rfl rfl rfl (Q.move_d rfl) ?_
            refine XOps.nil ?_
            refine W.block ?_
            refine W.loop (ι := Nat × List ByteArray × Nat) (fun p => [(5, .ptr b 0), (6, .vs v 0 cl.length 1), (11, .vs p.2.2 0 p.2.1.length 1), (69, .d (.int .i64 (p.1 : Nat)))]) (fun p => (p.2.2, .lst 1 (p.2.1.map sE)) :: (v, .lst 1 ((cl).map sE)) :: (gd, p10G) :: stH b B f hs) (fun p => p.1 ≤ 4 ∧ IsAll B p.1 p.2.1 ∧ p.2.1.length ≤ 12 * p.1) (fun p => 4 - p.1) (0, [], v11) ?_ ?_ ?_ ?_
            · exact ⟨Nat.zero_le _, rfl, Nat.le_refl _⟩
            · exact ⟨by first | rfl | exact int_eq (by omega) | exact len_eq (by simp) | exact int_eq (by simp; done), by first | rfl | exact int_eq (by omega) | exact len_eq (by simp) | exact int_eq (by simp; done), by first | rfl | exact int_eq (by omega) | exact len_eq (by simp) | exact int_eq (by simp; done), by first | rfl | exact int_eq (by omega) | exact len_eq (by simp) | exact int_eq (by simp; done), trivial⟩
            · exact HLe.refl _
            · rintro ⟨q, A, va⟩ ⟨hq, hA, hAl⟩
              dsimp only at hq hA hAl ⊢
              refine W.reg ?_
              refine XOps.s rfl rfl rfl (Q.lss rfl rfl) ?_
              refine XOps.nil ?_
              refine W.seq ?_
              refine W.cond rfl (fun hc70 => ?_) (fun hc70 => ?_)
              · try simp only [Bool.or_eq_true, Bool.or_eq_false_iff, Bool.and_eq_true, Bool.and_eq_false_iff, decide_eq_true_eq, decide_eq_false_iff_not, Bool.not_eq_true', Bool.not_eq_false', Int.not_lt, Int.not_le, List.length_map] at hc70
                refine W.skip ?_
                refine W.seq ?_
                refine W.block ?_
                refine W.reg ?_
                refine XOps.s rfl rfl rfl (Q.move_d rfl) ?_
                refine XOps.s rfl rfl rfl (Q.assign_d rfl) ?_
                refine XOps.nil ?_
                refine W.reg ?_
                refine XOps.s rfl rfl rfl (Q.move_ptr rfl) ?_
                refine XOps.s rfl rfl rfl (Q.move_d rfl) ?_
                (refine XOps.loud rfl (L.call rfl Tryd.func12 go12 rfl (AC.le (bay_own b B f q ((va, .lst 1 (A.map sE)) :: (v, .lst 1 ((cl).map sE)) :: (gd, p10G) :: hs) (by omega)) (HLe.pick 3 rfl rfl (HLe.pick 3 rfl rfl (HLe.refl _)))) rfl) ?_; rintro _ _ ⟨_, rfl, v13, out, hb, rfl, rfl⟩)
                refine XOps.s rfl rfl rfl (Q.assign_vs rfl) ?_
                refine XOps.nil ?_
                refine W.freeze 13 0 rfl rfl (by simp) ?_
                have hbl := bay_len hb
                refine W.reg ?_
                refine XOps.s rfl rfl rfl (Q.move_d rfl) ?_
                refine XOps.s rfl rfl rfl (Q.len_sl isl22 rfl) ?_
                refine XOps.s rfl rfl rfl (Q.move_d rfl) ?_
                refine XOps.nil ?_
                refine W.block ?_
                refine W.loop (ι := Nat × Nat) (fun p => [(5, .ptr b 0), (6, .vs v 0 cl.length 1), (11, .vs p.2 0 (A ++ (out.take p.1).map ST.call).length 1), (12, .d (.int .i64 (q : Nat))), (13, .d (.sl 5 (out.map ST.enc))), (69, .d (.int .i64 (q : Nat))), (75, .d (.sl 5 (out.map ST.enc))), (76, .d (.int .i64 out.length)), (77, .d (.int .i64 (p.1 : Nat)))]) (fun p => (p.2, .lst 1 ((A ++ (out.take p.1).map ST.call).map sE)) :: (v, .lst 1 ((cl).map sE)) :: (gd, p10G) :: stH b B f hs) (fun p => p.1 ≤ out.length) (fun p => out.length - p.1) (0, va) ?_ ?_ ?_ ?_
                · exact Nat.zero_le _
                · exact ⟨by first | rfl | exact int_eq (by omega) | exact len_eq (by simp) | exact int_eq (by simp; done), by first | rfl | exact int_eq (by omega) | exact len_eq (by simp) | exact int_eq (by simp; done), by exact vs_eq (by simp), by first | rfl | exact int_eq (by omega) | exact len_eq (by simp) | exact int_eq (by simp; done), by first | rfl | exact int_eq (by omega) | exact len_eq (by simp) | exact int_eq (by simp; done), by first | rfl | exact int_eq (by omega) | exact len_eq (by simp) | exact int_eq (by simp; done), by first | rfl | exact int_eq (by omega) | exact len_eq (by simp) | exact int_eq (by simp; done), by exact int_eq (by rw [List.length_map]), by first | rfl | exact int_eq (by omega) | exact len_eq (by simp) | exact int_eq (by simp; done), trivial⟩
                · exact HLe.pick 2 rfl (by simp) (HLe.pick 2 rfl rfl (HLe.pick 2 rfl rfl (HLe.refl _)))
                · rintro ⟨k, va⟩ hk4
                  dsimp only at hk4 ⊢
                  refine W.reg ?_
                  refine XOps.s rfl rfl rfl (Q.lss rfl rfl) ?_
                  refine XOps.nil ?_
                  refine W.seq ?_
                  refine W.cond rfl (fun hc78 => ?_) (fun hc78 => ?_)
                  · try simp only [Bool.or_eq_true, Bool.or_eq_false_iff, Bool.and_eq_true, Bool.and_eq_false_iff, decide_eq_true_eq, decide_eq_false_iff_not, Bool.not_eq_true', Bool.not_eq_false', Int.not_lt, Int.not_le, List.length_map] at hc78
                    obtain ⟨x, hx3⟩ : ∃ x, out[k]? = some x := ⟨_, List.getElem?_eq_getElem (by omega)⟩
                    have hkl : k < out.length := by omega
                    have hxm := bay_mem hb (List.mem_of_getElem? hx3)
                    have htk : out.take (k + 1) = out.take k ++ [x] := by
                      obtain ⟨q1, q2⟩ := List.getElem?_eq_some_iff.1 hx3
                      rw [List.take_succ_eq_append_getElem q1, q2]
                    refine W.skip ?_
                    refine W.seq ?_
                    refine W.block ?_
                    refine W.reg ?_
                    refine XOps.s rfl rfl rfl (Q.move_d rfl) ?_
                    refine XOps.s rfl rfl rfl (Q.idx_sl sl22 (by decide) rfl rfl (by first | omega | (simp only [List.length_map]; omega)) (by first | exact map_at hx2 | exact map_at hx3 | exact map_at hy2 | exact map_at0 hcc | exact map_at hcc)) ?_
                    refine XOps.s rfl rfl rfl (Q.ld_dpn ag24 rfl rfl) ?_
                    (refine XOps.loud rfl (L.alloc tz24 rfl rfl) ?_; rintro _ _ ⟨b15, rfl, rfl⟩)
                    refine XOps.s rfl rfl rfl (Q.assign_d rfl) ?_
                    refine XOps.loud rfl (L.storen (k := 0) ag24 rfl rfl rfl rfl rfl) ?_
                    rintro _ _ ⟨rfl, rfl⟩
                    refine XOps.nil ?_
                    refine W.seq ?_
                    refine W.drawreg 41 follows (by kernel_rfl) ?_
                    refine Chain.cons _ (GQ.q rfl (Q.fld_ptr fl24_4 rfl)) rfl ?_
                    refine Chain.cons _ (GQ.q rfl (Q.ld_ptr (k := 0) ag3 rfl rfl rfl)) rfl ?_
                    refine Chain.cons _ (GQ.q rfl (Q.move_d rfl)) rfl ?_
                    refine Chain.cons _ (GQ.q rfl (Q.neq rfl rfl)) rfl ?_
                    refine Chain.cons _ (GQ.q rfl (Q.move_d rfl)) rfl ?_
                    refine Chain.cons _ (GQ.g rfl rfl rfl rfl rfl (fun hg => Q.move_d rfl)) rfl ?_
                    refine Chain.cons _ (GQ.g rfl rfl rfl rfl rfl (fun hg => Quiet.open 87 hg rfl (Q.gtr rfl rfl))) rfl ?_
                    refine Chain.cons _ (GQ.g rfl rfl rfl rfl rfl (fun hg => Quiet.open 88 hg rfl (Q.move_d rfl))) rfl ?_
                    refine Chain.cons _ (GQ.gw rfl rfl rfl rfl rfl (fun hg => Q.fld_ptr fl24_2 rfl)) rfl ?_
                    refine Chain.cons _ (GQ.gw rfl rfl rfl rfl rfl (fun hg => Quiet.open 90 hg rfl (Q.ld_ptr (k := 0) ag3 rfl rfl rfl))) rfl ?_
                    refine Chain.cons _ (GQ.gw rfl rfl rfl rfl rfl (fun hg => Q.move_d rfl)) rfl ?_
                    refine Chain.cons _ (GQ.gw rfl rfl rfl rfl rfl (fun hg => Q.move_d rfl)) rfl ?_
                    refine Chain.cons _ (GQ.gw rfl rfl rfl rfl rfl (fun hg => Quiet.open 93 hg rfl (Q.sub rfl rfl (wi64 (by first | omega | (dsimp only; omega) | (simp only [List.length_map]; omega)) (by first | omega | (dsimp only; omega) | (simp only [List.length_map]; omega)))))) rfl ?_
                    refine Chain.cons _ (GQ.gw rfl rfl rfl rfl rfl (fun hg => Quiet.open 92 hg rfl (Quiet.open 94 hg rfl (Q.idx_sl sl22 (by decide) rfl rfl (by simp at hg; omega) (prevS_row hkl (by simp at hg; omega)))))) rfl ?_
                    refine Chain.cons _ (GQ.gw rfl rfl rfl rfl rfl (fun hg => Quiet.open 95 hg rfl (Q.fld_dp fl24_2 rfl))) rfl ?_
                    refine Chain.cons _ (GQ.gw rfl rfl rfl rfl rfl (fun hg => Quiet.open 96 hg rfl (Q.ld_dp ag3 rfl rfl))) rfl ?_
                    refine Chain.cons _ (GQ.gw rfl rfl rfl rfl rfl (fun hg => Quiet.open 91 hg rfl (Quiet.open 97 hg rfl (Q.lss rfl rfl)))) rfl ?_
                    refine Chain.cons _ (GQ.gw rfl rfl rfl rfl rfl (fun hg => Quiet.open 98 hg rfl (Q.move_d rfl))) rfl ?_
                    refine Chain.cons _ (GQ.gw rfl rfl rfl rfl rfl (fun hg => Q.fld_ptr fl24_2 rfl)) rfl ?_
                    refine Chain.cons _ (GQ.gw rfl rfl rfl rfl rfl (fun hg => Quiet.open 100 hg rfl (Q.ld_ptr (k := 0) ag3 rfl rfl rfl))) rfl ?_
                    refine Chain.cons _ (GQ.gw rfl rfl rfl rfl rfl (fun hg => Q.move_d rfl)) rfl ?_
                    refine Chain.cons _ (GQ.gw rfl rfl rfl rfl rfl (fun hg => Q.move_d rfl)) rfl ?_
                    refine Chain.cons _ (GQ.gw rfl rfl rfl rfl rfl (fun hg => Quiet.open 103 hg rfl (Q.sub rfl rfl (wi64 (by first | omega | (dsimp only; omega) | (simp only [List.length_map]; omega)) (by first | omega | (dsimp only; omega) | (simp only [List.length_map]; omega)))))) rfl ?_
                    refine Chain.cons _ (GQ.gw rfl rfl rfl rfl rfl (fun hg => Quiet.open 102 hg rfl (Quiet.open 104 hg rfl (Q.idx_sl sl22 (by decide) rfl rfl (by simp at hg; omega) (prevS_row hkl (by simp at hg; omega)))))) rfl ?_
                    refine Chain.cons _ (GQ.gw rfl rfl rfl rfl rfl (fun hg => Quiet.open 105 hg rfl (Q.fld_dp fl24_2 rfl))) rfl ?_
                    refine Chain.cons _ (GQ.gw rfl rfl rfl rfl rfl (fun hg => Quiet.open 106 hg rfl (Q.ld_dp ag3 rfl rfl))) rfl ?_
                    refine Chain.cons _ (GQ.gw rfl rfl rfl rfl rfl (fun hg => Quiet.open 101 hg rfl (Quiet.open 107 hg rfl (Q.eql rfl rfl)))) rfl ?_
                    refine Chain.cons _ (GQ.gw rfl rfl rfl rfl rfl (fun hg => Quiet.open 108 hg rfl (Q.move_d rfl))) rfl ?_
                    refine Chain.cons _ (GQ.gw rfl rfl rfl rfl rfl (fun hg => Q.fld_ptr fl24_0 rfl)) rfl ?_
                    refine Chain.cons _ (GQ.gw rfl rfl rfl rfl rfl (fun hg => Quiet.open 110 hg rfl (Q.ld_ptr (k := 0) ag9 rfl rfl rfl))) rfl ?_
                    refine Chain.cons _ (GQ.gw rfl rfl rfl rfl rfl (fun hg => Q.move_d rfl)) rfl ?_
                    refine Chain.cons _ (GQ.gw rfl rfl rfl rfl rfl (fun hg => Q.move_d rfl)) rfl ?_
                    refine Chain.cons _ (GQ.gw rfl rfl rfl rfl rfl (fun hg => Quiet.open 113 hg rfl (Q.sub rfl rfl (wi64 (by first | omega | (dsimp only; omega) | (simp only [List.length_map]; omega)) (by first | omega | (dsimp only; omega) | (simp only [List.length_map]; omega)))))) rfl ?_
                    refine Chain.cons _ (GQ.gw rfl rfl rfl rfl rfl (fun hg => Quiet.open 112 hg rfl (Quiet.open 114 hg rfl (Q.idx_sl sl22 (by decide) rfl rfl (by simp at hg; omega) (prevS_row hkl (by simp at hg; omega)))))) rfl ?_
                    refine Chain.cons _ (GQ.gw rfl rfl rfl rfl rfl (fun hg => Quiet.open 115 hg rfl (Q.fld_dp fl24_0 rfl))) rfl ?_
                    refine Chain.cons _ (GQ.gw rfl rfl rfl rfl rfl (fun hg => Quiet.open 116 hg rfl (Q.ld_dp ag9 rfl rfl))) rfl ?_
                    refine Chain.cons _ (GQ.gw rfl rfl rfl rfl rfl (fun hg => Quiet.open 111 hg rfl (Quiet.open 117 hg rfl (Q.leq_str rfl rfl)))) rfl ?_
                    refine Chain.cons _ (GQ.gw rfl rfl rfl rfl rfl (fun hg => Quiet.open 109 hg rfl (Q.pick_and rfl rfl rfl (fun h => by first | (rw [h]; rfl) | (rw [hg, h]; rfl) | (simp [h, hg]; done))))) rfl ?_
                    refine Chain.cons _ (GQ.gw rfl rfl rfl rfl rfl (fun hg => Quiet.open 99 hg rfl (Q.pick_or rfl rfl rfl (fun h => by first | (rw [h]; rfl) | (rw [hg, h]; rfl) | (simp [h, hg]; done))))) rfl ?_
                    refine Chain.cons _ (GQ.g rfl rfl rfl rfl rfl (fun hg => Quiet.open 89 hg rfl (Q.pick_and rfl rfl rfl (fun h => by first | (rw [h]; rfl) | (rw [hg, h]; rfl) | (simp [h, hg]; done))))) rfl ?_
                    refine Chain.cons _ (GQ.q rfl (Q.pick_or rfl rfl rfl (fun h => by first | (rw [h]; rfl) | (rw [hg, h]; rfl) | (simp [h, hg]; done)))) rfl ?_
                    refine Chain.nil ?_
                    refine XOps.nil ?_
                    refine W.cond rfl (fun hc122 => ?_) (fun hc122 => ?_)
                    · try simp only [Bool.or_eq_true, Bool.or_eq_false_iff, Bool.and_eq_true, Bool.and_eq_false_iff, decide_eq_true_eq, decide_eq_false_iff_not, Bool.not_eq_true', Bool.not_eq_false', Int.not_lt, Int.not_le, List.length_map] at hc122
                      exfalso
                      rcases hc122 with h | ⟨h, h2⟩
                      · exact h hxm.2
                      · have hy3 : out[k - 1]? = some (out.getD (k - 1) ST.zero) := by rw [List.getD_eq_getElem?_getD, List.getElem?_eq_getElem (by omega)]; rfl
                        refine bay_next hu hb (by omega) hy3 hx3 ?_
                        rcases h2 with h2 | ⟨h2, h3⟩
                        · exact .inl h2
                        · refine .inr ⟨h2, ?_⟩
                          first | exact h3 | (rw [leq_cmpB] at h3; exact of_decide_eq_true h3) | (have hl := leq_cmpB x.call (out.getD (k - 1) ST.zero).call; rw [Bool.eq_iff_iff, Bool.or_eq_true, decide_eq_true_eq] at hl; exact hl.1 h3) | (have := leq_cmpB x.call (out.getD (k - 1) ST.zero).call; simp at h3 this; omega) --done
                    · try simp only [Bool.or_eq_true, Bool.or_eq_false_iff, Bool.and_eq_true, Bool.and_eq_false_iff, decide_eq_true_eq, decide_eq_false_iff_not, Bool.not_eq_true', Bool.not_eq_false', Int.not_lt, Int.not_le, List.length_map] at hc122
                      refine W.skip ?_
                      refine W.region ?_
                      refine XOps.s rfl rfl rfl (Q.move_vs rfl) ?_
                      refine XOps.s rfl rfl rfl (Q.fld_ptr fl24_0 rfl) ?_
                      refine XOps.s rfl rfl rfl (Q.ld_ptr (k := 0) ag9 rfl rfl rfl) ?_
                      refine XOps.s rfl rfl rfl (Q.bsl1 sl34 zr34 rfl zrd34 rfl rfl) ?_
                      refine XOps.loud rfl (L.app (k := 1) ap34 rfl rfl (by first | rfl | (simp [List.length_map]; done)) rfl (by simp; omega) rfl) ?_
                      rintro _ _ ⟨v127, rfl, rfl⟩
                      refine XOps.s rfl rfl rfl (Q.assign_vs rfl) ?_
                      refine XOps.nil ?_
                      refine W.region ?_
                      refine XOps.s rfl rfl rfl (Q.add rfl rfl (wi64 (by first | omega | (dsimp only; omega) | (simp only [List.length_map]; omega)) (by first | omega | (dsimp only; omega) | (simp only [List.length_map]; omega)))) ?_
                      refine XOps.s rfl rfl rfl (Q.move_d rfl) ?_
                      refine XOps.nil ?_
                      refine ⟨(k + 1, v127), ?_, ?_, ?_, ?_⟩
                      · exact (show k + 1 ≤ _ by omega)
                      · dsimp only; omega
                      · exact ⟨by first | rfl | exact int_eq (by omega) | exact len_eq (by simp) | exact int_eq (by simp; done), by first | rfl | exact int_eq (by omega) | exact len_eq (by simp) | exact int_eq (by simp; done), by exact vs_eq (by dsimp only; rw [htk]; simp; try omega), by first | rfl | exact int_eq (by omega) | exact len_eq (by simp) | exact int_eq (by simp; done), by first | rfl | exact int_eq (by omega) | exact len_eq (by simp) | exact int_eq (by simp; done), by first | rfl | exact int_eq (by omega) | exact len_eq (by simp) | exact int_eq (by simp; done), by first | rfl | exact int_eq (by omega) | exact len_eq (by simp) | exact int_eq (by simp; done), by first | rfl | exact int_eq (by omega) | exact len_eq (by simp) | exact int_eq (by simp; done), by first | rfl | exact int_eq (by omega) | exact len_eq (by simp) | exact int_eq (by simp; done), trivial⟩
                      · (dsimp only; rw [htk]; exact HLe.cons' (by simp [sE]) (HLe.skip _ (HLe.refl _)))
                  · try simp only [Bool.or_eq_true, Bool.or_eq_false_iff, Bool.and_eq_true, Bool.and_eq_false_iff, decide_eq_true_eq, decide_eq_false_iff_not, Bool.not_eq_true', Bool.not_eq_false', Int.not_lt, Int.not_le, List.length_map] at hc78
                    obtain rfl : k = out.length := by omega
                    rw [List.take_length]
                    refine W.exit ?_
                    refine W.region ?_
                    refine XOps.s rfl rfl rfl (Q.add rfl rfl (wi64 (by first | omega | (dsimp only; omega) | (simp only [List.length_map]; omega)) (by first | omega | (dsimp only; omega) | (simp only [List.length_map]; omega)))) ?_
                    refine XOps.s rfl rfl rfl (Q.move_d rfl) ?_
                    refine XOps.nil ?_
                    refine ⟨(q + 1, A ++ out.map ST.call, va), ?_, ?_, ?_, ?_⟩
                    · exact ⟨by dsimp only; omega, ⟨A, out, hA, hb, rfl⟩, by dsimp only; rw [List.length_append, List.length_map]; omega⟩
                    · dsimp only; omega
                    · exact ⟨by first | rfl | exact int_eq (by omega) | exact len_eq (by simp) | exact int_eq (by simp; done), by first | rfl | exact int_eq (by omega) | exact len_eq (by simp) | exact int_eq (by simp; done), by first | rfl | exact int_eq (by omega) | exact len_eq (by simp) | exact int_eq (by simp; done), by first | rfl | exact int_eq (by omega) | exact len_eq (by simp) | exact int_eq (by simp; done), trivial⟩
                    · exact HLe.refl _
              · try simp only [Bool.or_eq_true, Bool.or_eq_false_iff, Bool.and_eq_true, Bool.and_eq_false_iff, decide_eq_true_eq, decide_eq_false_iff_not, Bool.not_eq_true', Bool.not_eq_false', Int.not_lt, Int.not_le, List.length_map] at hc70
                obtain rfl : q = 4 := by omega
                refine W.exit ?_
                refine W.reg ?_
                refine XOps.s rfl rfl rfl (Q.move_vs rfl) ?_
                refine XOps.loud rfl (L.call rfl Tryd.func13 go13 rfl (show AC P 13 _ _ _ from AC.sortS (P := P) Tryd.sortS A (by omega)) rfl) ?_
                rintro _ _ ⟨_, rfl, rfl, rfl⟩
                refine XOps.nil ?_
                refine W.reg ?_
                refine XOps.s rfl rfl rfl (Q.move_vs rfl) ?_
                refine XOps.loud rfl (L.call rfl Tryd.func13 go13 rfl (AC.le (show AC P 13 _ ((v, .lst 1 (cl.map sE)) :: (va, .lst 1 ((sortB A).map sE)) :: (gd, p10G) :: stH b B f hs) _ from AC.sortS (P := P) Tryd.sortS cl (by omega)) (HLe.pick 1 rfl rfl (HLe.refl _))) rfl) ?_
                rintro _ _ ⟨_, rfl, rfl, rfl⟩
                refine XOps.nil ?_
                refine W.freeze 11 1 rfl rfl (by rw [List.length_map, sortB_len]) ?_
                refine W.freeze 6 0 rfl rfl (by rw [List.length_map, sortB_len]) ?_
                have hpm : A.Perm cl := by have := all_four hc hA; rwa [hcB] at this
                have hse := sortB_perm hpm
                have hcl3 : cl.length = B.length := by rw [← hcB, List.length_map]
                have hsl := sortB_len cl
                refine W.reg ?_
                refine XOps.s rfl rfl rfl (Q.move_d rfl) ?_
                refine XOps.s rfl rfl rfl (Q.move_d rfl) ?_
                refine XOps.s rfl rfl rfl (Q.call rfl Tryd.func14 go14 rfl (equalS_c (sortB A) (sortB cl) _ (by rw [sortB_len]; omega))) ?_
                refine XOps.s rfl rfl rfl (Q.move_d rfl) ?_
                refine XOps.gs rfl rfl rfl rfl rfl rfl rfl (fun hg => Q.move_ptr rfl) ?_
                refine XOps.gl (.d (.int .i64 0)) rfl rfl rfl rfl rfl rfl (fun hg => Loud.open 138 hg rfl (L.call rfl Tryd.func16 go16 rfl (text_c b B f gd hs (by omega) hc) rfl)) (fun hg => ?_) (fun hg => ?_)
                · rintro _ _ ⟨T, hT, rfl, rfl⟩
                  have hgt : _ = true := hg
                  have hcnt := text_four hc hT
                  refine XOps.gs rfl rfl rfl rfl rfl rfl rfl (fun hg => Quiet.open 139 hg rfl (Q.call rfl Tryd.func15 go15 rfl (count_c (bs T) 10 _))) ?_
                  refine XOps.gs rfl rfl rfl rfl rfl rfl rfl (fun hg => Q.move_d rfl) ?_
                  refine XOps.gs rfl rfl rfl rfl rfl rfl rfl (fun hg => Quiet.open 141 hg rfl (Q.len_sl isl34 rfl)) ?_
                  refine XOps.gs rfl rfl rfl rfl rfl rfl rfl (fun hg => Quiet.open 140 hg rfl (Quiet.open 142 hg rfl (Q.eql rfl rfl))) ?_
                  refine XOps.s rfl rfl rfl (Q.pick_and rfl rfl rfl (fun h => by first | (rw [h]; rfl) | (rw [hg, h]; rfl) | (simp [h, hg]; done))) ?_
                  refine XOps.s rfl rfl rfl (Q.assign_d rfl) ?_
                  refine XOps.nil ?_
                  refine W.ret ?_
                  refine ⟨_, _, rfl, HLe.refl _, ?_⟩
                  show AV.d (.bool _) = _
                  refine congrArg (fun b => AV.d (D.bool b)) ?_
                  rw [hse]
                  simp [bl_bs, hcnt]
                  first | done | omega
                · have hgf : _ = false := hg
                  exact absurd hg (by rw [hse]; simp) --done
end Go.Proofs.YtlfapbkaknikpaaDoorA
