/- slices.Max of ints, slices.SortFunc of items, the law ApproachSorted. -/
import Derived.Test.YtiibdlifdneagaaBase
import Derived.Test.YtiibdlifdneagaaSpec2
import Derived.Test.YtiibdlifdneagaaWalkC
import Derived.Test.YtiibdlifdneagaaAbs26
import Derived.Test.YtiibdlifdneagaaLay
set_option linter.unusedVariables false
set_option linter.unusedSimpArgs false
set_option linter.unnecessarySimpa false
namespace Go.Proofs.YtiibdlifdneagaaA.FWalkG
open Go
theorem ag24 : tAgg P 24 = some ((true, 16)) := by kernel_rfl
theorem ag3 : tAgg P 3 = some ((false, 1)) := by kernel_rfl
theorem ag32 : tAgg P 32 = some ((true, 4)) := by kernel_rfl
theorem ar23 : tArr P 23 = some ((4, 1)) := by kernel_rfl
theorem ar24 : tArr P 24 = some ((4, 4)) := by kernel_rfl
theorem fl32_2 : tFld P 32 2 = some (2) := by kernel_rfl
theorem go11 : callGo Go.Proofs.Try.f11 = true := by kernel_rfl
theorem go12 : callGo Go.Proofs.Try.f12 = true := by kernel_rfl
theorem go20 : callGo Go.Proofs.Try.f20 = true := by kernel_rfl
theorem go21 : callGo Go.Proofs.Try.f21 = true := by kernel_rfl
theorem go22 : callGo Go.Proofs.Try.f22 = true := by kernel_rfl
theorem go8 : callGo Go.Proofs.Try.f8 = true := by kernel_rfl
theorem go9 : callGo Go.Proofs.Try.f9 = true := by kernel_rfl
theorem isl22 : isSl P 22 = true := by kernel_rfl
theorem isl25 : isSl P 25 = true := by kernel_rfl
theorem sl25 : tSl P 25 = some (1) := by kernel_rfl
theorem tz24 : tZero P 24 = some ([.int .i64 0, .int .i64 0, .int .i64 0, .int .i64 0, .int .i64 0, .int .i64 0, .int .i64 0, .int .i64 0, .int .i64 0, .int .i64 0, .int .i64 0, .int .i64 0, .int .i64 0, .int .i64 0, .int .i64 0, .int .i64 0]) := by kernel_rfl
end Go.Proofs.YtiibdlifdneagaaA.FWalkG
namespace Go.Proofs.YtiibdlifdneagaaA
open Go FWalkG
set_option maxHeartbeats 1000000 in
set_option maxRecDepth 100000 in
theorem max_c (l : List Int) (hs : Hp) (h0 : 0 < l.length) (hL : l.length ≤ 1000000) : AC P 22 [.d (slN l)] hs (fun r h => r = .d (.int .i64 (maxL l)) ∧ h = hs) := by
  obtain ⟨a, ha⟩ : ∃ a, l[0]? = some a := ⟨_, List.getElem?_eq_getElem h0⟩
  have had : l.getD 0 0 = a := by rw [List.getD_eq_getElem?_getD, ha]; rfl
  have hr0 : (l.map nE)[(0 : Int).toNat]? = some (nE a) := by rw [List.getElem?_map]; show Option.map _ l[0]? = _; rw [ha]; rfl
  refine AC.of 25 Try.func22 rfl rfl rfl ?_
  refine W.reg ?_
  refine XOps.s rfl rfl rfl (Q.assign_d rfl) ?_
  refine XOps.nil ?_
  refine W.seq ?_
  refine W.reg ?_
  refine XOps.s rfl rfl rfl (Q.move_d rfl) ?_
  refine XOps.s rfl rfl rfl (Q.len_sl isl25 rfl) ?_
  refine XOps.s rfl rfl rfl (Q.lss rfl rfl) ?_
  refine XOps.nil ?_
  refine W.cond rfl (fun hc7 => ?_) (fun hc7 => ?_)
  · try simp only [Bool.or_eq_true, Bool.or_eq_false_iff, Bool.and_eq_true, Bool.and_eq_false_iff, decide_eq_true_eq, decide_eq_false_iff_not, Bool.not_eq_true', Bool.not_eq_false', Int.not_lt, Int.not_le, List.length_map] at hc7
    exact absurd hc7 (by simp; omega)
  · try simp only [Bool.or_eq_true, Bool.or_eq_false_iff, Bool.and_eq_true, Bool.and_eq_false_iff, decide_eq_true_eq, decide_eq_false_iff_not, Bool.not_eq_true', Bool.not_eq_false', Int.not_lt, Int.not_le, List.length_map] at hc7
    refine W.skip ?_
    refine W.reg ?_
    refine XOps.s rfl rfl rfl (Q.move_d rfl) ?_
    refine XOps.s rfl rfl rfl (Q.idx_sl sl25 (by decide) rfl rfl (by decide) hr0) ?_
    refine XOps.s rfl rfl rfl (Q.ld_dp ag3 rfl rfl) ?_
    refine XOps.s rfl rfl rfl (Q.assign_d rfl) ?_
    refine XOps.nil ?_
    refine W.seq ?_
    refine W.reg ?_
    refine XOps.s rfl rfl rfl (Q.assign_d rfl) ?_
    refine XOps.nil ?_
    refine W.block ?_
    refine W.loop (ι := Nat) (fun k => [(0, .d (slN l)), (3, .d (.int .i64 (mxk l k))), (4, .d (.int .i64 ((k : Int) + 1)))]) (fun k => hs) (fun k => k + 1 ≤ l.length) (fun k => l.length - k) 0 ?_ ?_ ?_ ?_
    · omega
    · exact ⟨by first | rfl | exact int_eq (by omega) | exact len_eq (by simp) | exact int_eq (by simp; done), by exact int_eq had.symm, by first | rfl | exact int_eq (by omega) | exact len_eq (by simp) | exact int_eq (by simp; done), trivial⟩
    · repeat (first | exact HLe.refl _ | refine HLe.cons' (by first | rfl | (simp; done)) ?_ | refine HLe.pick 1 rfl (by first | rfl | (simp; done)) ?_ | refine HLe.pick 2 rfl (by first | rfl | (simp; done)) ?_ | refine HLe.pick 3 rfl (by first | rfl | (simp; done)) ?_ | refine HLe.pick 4 rfl (by first | rfl | (simp; done)) ?_ | refine HLe.pick 5 rfl (by first | rfl | (simp; done)) ?_ | refine HLe.skip _ ?_)
    · rintro k hk
      try dsimp only
      refine W.seq ?_
      refine W.reg ?_
      refine XOps.s rfl rfl rfl (Q.move_d rfl) ?_
      refine XOps.s rfl rfl rfl (Q.move_d rfl) ?_
      refine XOps.s rfl rfl rfl (Q.len_sl isl25 rfl) ?_
      refine XOps.s rfl rfl rfl (Q.lss rfl rfl) ?_
      refine XOps.nil ?_
      refine W.cond rfl (fun hc15 => ?_) (fun hc15 => ?_)
      · try simp only [Bool.or_eq_true, Bool.or_eq_false_iff, Bool.and_eq_true, Bool.and_eq_false_iff, decide_eq_true_eq, decide_eq_false_iff_not, Bool.not_eq_true', Bool.not_eq_false', Int.not_lt, Int.not_le, List.length_map] at hc15
        obtain ⟨x, hx⟩ : ∃ x, l[k + 1]? = some x := ⟨_, List.getElem?_eq_getElem (by omega)⟩
        have hrx : (l.map nE)[((k : Int) + 1).toNat]? = some (nE x) := by rw [show ((k : Int) + 1).toNat = k + 1 by omega, List.getElem?_map, hx]; rfl
        have hst := mxk_succ hx
        refine W.skip ?_
        refine W.seq ?_
        refine W.block ?_
        refine W.region ?_
        refine XOps.s rfl rfl rfl (Q.move_d rfl) ?_
        refine XOps.s rfl rfl rfl (Q.move_d rfl) ?_
        refine XOps.s rfl rfl rfl (Q.move_d rfl) ?_
        refine XOps.s rfl rfl rfl (Q.idx_sl sl25 (by decide) rfl rfl (by omega) hrx) ?_
        refine XOps.s rfl rfl rfl (Q.ld_dp ag3 rfl rfl) ?_
        refine XOps.s rfl rfl rfl (Q.maxi rfl rfl) ?_
        refine XOps.s rfl rfl rfl (Q.assign_d rfl) ?_
        refine XOps.nil ?_
        refine W.region ?_
        refine XOps.s rfl rfl rfl (Q.move_d rfl) ?_
        refine XOps.s rfl rfl rfl (Q.add rfl rfl (wi64 (by first | omega | (dsimp only; omega) | (simp only [List.length_map]; omega)) (by first | omega | (dsimp only; omega) | (simp only [List.length_map]; omega)))) ?_
        refine XOps.s rfl rfl rfl (Q.assign_d rfl) ?_
        refine XOps.nil ?_
        refine ⟨k + 1, ?_, ?_, ?_, ?_⟩
        · omega
        · omega
        · exact ⟨by first | rfl | exact int_eq (by omega) | exact len_eq (by simp) | exact int_eq (by simp; done), by (rw [hst]; rfl), by exact int_eq (by omega), trivial⟩
        · repeat (first | exact HLe.refl _ | refine HLe.cons' (by first | rfl | (simp; done)) ?_ | refine HLe.pick 1 rfl (by first | rfl | (simp; done)) ?_ | refine HLe.pick 2 rfl (by first | rfl | (simp; done)) ?_ | refine HLe.pick 3 rfl (by first | rfl | (simp; done)) ?_ | refine HLe.pick 4 rfl (by first | rfl | (simp; done)) ?_ | refine HLe.pick 5 rfl (by first | rfl | (simp; done)) ?_ | refine HLe.skip _ ?_)
      · try simp only [Bool.or_eq_true, Bool.or_eq_false_iff, Bool.and_eq_true, Bool.and_eq_false_iff, decide_eq_true_eq, decide_eq_false_iff_not, Bool.not_eq_true', Bool.not_eq_false', Int.not_lt, Int.not_le, List.length_map] at hc15
        have hkl : k = l.length - 1 := by omega
        subst hkl
        refine W.exit ?_
        refine W.reg ?_
        refine XOps.s rfl rfl rfl (Q.move_d rfl) ?_
        refine XOps.s rfl rfl rfl (Q.assign_d rfl) ?_
        refine XOps.nil ?_
        refine W.ret ?_
        exact ⟨_, hs, rfl, HLe.refl _, rfl, rfl⟩

set_option maxHeartbeats 1000000 in
set_option maxRecDepth 100000 in
theorem cmp_c (x y : Item) (hs : Hp) (hx : itemOk x) (hy : itemOk y) : AC P 21 [.d (.agg x.enc), .d (.agg y.enc)] hs (fun r h => r = .d (.int .i64 (x.ready - y.ready)) ∧ h = hs) := by
  unfold itemOk at hx hy
  refine AC.of 10 Try.func21 rfl rfl rfl ?_
  refine W.reg ?_
  refine XOps.loud rfl (L.boxn rfl rfl) ?_
  rintro _ _ ⟨b2, rfl, rfl⟩
  refine XOps.loud rfl (L.boxn rfl rfl) ?_
  rintro _ _ ⟨b3, rfl, rfl⟩
  refine XOps.s rfl rfl rfl (Q.assign_d rfl) ?_
  refine XOps.nil ?_
  refine W.reg ?_
  refine XOps.s rfl rfl rfl (Q.fld_ptr fl32_2 rfl) ?_
  refine XOps.s rfl rfl rfl (Q.ld_ptr (k := 1) ag3 rfl rfl rfl) ?_
  refine XOps.s rfl rfl rfl (Q.fld_ptr fl32_2 rfl) ?_
  refine XOps.s rfl rfl rfl (Q.ld_ptr (k := 0) ag3 rfl rfl rfl) ?_
  refine XOps.s rfl rfl rfl (Q.sub rfl rfl (wi64 (by first | omega | (dsimp only; omega) | (simp only [List.length_map]; omega)) (by first | omega | (dsimp only; omega) | (simp only [List.length_map]; omega)))) ?_
  refine XOps.s rfl rfl rfl (Q.assign_d rfl) ?_
  refine XOps.nil ?_
  refine W.ret ?_
  exact ⟨_, hs, rfl, HLe.skip _ (HLe.skip _ (HLe.refl _)), rfl, rfl⟩

abbrev OkI := {x : Item // itemOk x}
instance : Inhabited OkI := ⟨⟨d0, by unfold itemOk d0; decide⟩⟩
def encO (x : OkI) : List D := x.1.enc
theorem swo_ready : Go.Sort.SWO (Go.Proofs.ltOf fun x y : OkI => x.1.ready - y.1.ready) where
  irrefl x := decide_eq_false (show ¬ (x.1.ready - x.1.ready < 0) by omega)
  trans x y z h1 h2 := by
    have a : x.1.ready - y.1.ready < 0 := of_decide_eq_true h1
    have b : y.1.ready - z.1.ready < 0 := of_decide_eq_true h2
    exact decide_eq_true (show x.1.ready - z.1.ready < 0 by omega)
  ntrans x y z h1 h2 := by
    have a : ¬ (x.1.ready - y.1.ready < 0) := of_decide_eq_false h1
    have b : ¬ (y.1.ready - z.1.ready < 0) := of_decide_eq_false h2
    exact decide_eq_false (show ¬ (x.1.ready - z.1.ready < 0) by omega)
theorem gset (C : Int) {k j : Nat} (hk : k < 4) (hj : j < 4) : HO.cells ((gD (fun i => if i < 4 * k + (j + 1) then C else 0)).map .d) = HO.cells (((gD (fun i => if i < 4 * k + j then C else 0)).map .d).set (0 + ((k : Nat) : Int).toNat * 4 + ((j : Nat) : Int).toNat * 1) (.d (.int .i64 C))) := by
  rcases lt4 hk with rfl | rfl | rfl | rfl <;> rcases lt4 hj with rfl | rfl | rfl | rfl <;> rfl
theorem sort_c (l : List Item) (hl : ∀ x ∈ l, itemOk x) (h0 : l ≠ []) (hn : l.length ≤ 32) (id : Nat) (hs : Hp) : AC P 20 [.vs id 0 l.length 4, .fn 21 []] ((id, .lst 4 (l.map Item.enc)) :: hs)
    (fun r h => r = .tup [] ∧ ∃ s : List Item, s.Perm l ∧ (∀ (i j : Nat) x y, i < j → s[i]? = some x → s[j]? = some y → x.ready ≤ y.ready) ∧ h = (id, .lst 4 (s.map Item.enc)) :: hs) := by
  obtain ⟨m, rfl⟩ : ∃ m : List OkI, l = m.map (·.1) := ⟨l.attach.map fun x => ⟨x.1, hl x.1 x.2⟩, by rw [List.map_map]; exact (List.attach_map_subtype_val l).symm⟩
  have h := AC.sortK (P := P) Try.sortItems (sz := 4) (fun w => (tAgg_spec ag32 w).1) (fun w => (tAgg_spec ag32 w).2) (encD := encO) (fun _ => rfl) (fun x d hd => by
      unfold encO Item.enc at hd
      rcases List.mem_cons.1 hd with rfl | hd
      · rfl
      · rcases List.mem_cons.1 hd with rfl | hd
        · rfl
        · rcases List.mem_cons.1 hd with rfl | hd
          · rfl
          · rw [List.mem_singleton.1 hd]; rfl) (fun x y : OkI => x.1.ready - y.1.ready) swo_ready Try.func21 go21 (caps := []) (capsB := []) (hs := hs) (id := id) (fun _ => .nil) (fun x y => cmp_c x.1 y.1 [] x.2 y.2) m (fun he => h0 (by rw [he]; rfl)) (by have := hn; rw [List.length_map] at this; omega)
  have e1 : m.map encO = (m.map (·.1)).map Item.enc := by rw [List.map_map]; rfl
  rw [e1] at h
  rw [show (m.map (·.1)).length = m.length from List.length_map _]
  refine h.mono ?_
  rintro r h' ⟨rfl, s, hp, hsd, rfl⟩
  refine ⟨rfl, s.map (·.1), hp.map _, fun i j x y hij hx hy => ?_, by rw [List.map_map]; rfl⟩
  rw [List.getElem?_map] at hx hy
  obtain ⟨x', hx', rfl⟩ := Option.map_eq_some_iff.1 hx
  obtain ⟨y', hy', rfl⟩ := Option.map_eq_some_iff.1 hy
  have := hsd i j x' y' hij hx' hy'
  omega

set_option maxHeartbeats 1000000 in
set_option maxRecDepth 100000 in
theorem sorted_c (l : List Item) (c : Int) (hs : Hp) (hL : l.length * 40 ≤ 140737488351232) : AC P 7 [.d (slI l), .d (.int .i64 c)] hs (fun r _ => r = .d (.bool true)) := by
  refine AC.of 83 Try.func7 rfl rfl rfl ?_
  refine W.reg ?_
  refine XOps.s rfl rfl rfl (Q.assign_d rfl) ?_
  refine XOps.nil ?_
  refine W.reg ?_
  refine XOps.s rfl rfl rfl (Q.move_d rfl) ?_
  refine XOps.s rfl rfl rfl (Q.call rfl Try.func11 go11 rfl (cut_c c 0 200 _ (by decide) (by decide) (by decide))) ?_
  refine XOps.s rfl rfl rfl (Q.assign_d rfl) ?_
  refine XOps.nil ?_
  refine W.reg ?_
  (refine XOps.loud rfl (L.alloc tz24 rfl rfl) ?_; rintro _ _ ⟨b5, rfl, rfl⟩)
  refine XOps.nil ?_
  refine W.seq ?_
  refine W.reg ?_
  refine XOps.s rfl rfl rfl (Q.move_d rfl) ?_
  refine XOps.nil ?_
  refine W.block ?_
  refine W.loop (ι := Nat) (fun k => [(0, .d (slI l)), (1, .d (.int .i64 (0 + c % 201))), (5, .ptr b5 0), (15, .d (.int .i64 (k : Nat)))]) (fun k => (b5, .cells ((gD (fun i => if i < 4 * k then (0 + c % 201) else 0)).map .d)) :: hs) (fun k => k ≤ 4) (fun k => 4 - k) 0 ?_ ?_ ?_ ?_
  · exact Nat.zero_le _
  · exact ⟨by first | rfl | exact int_eq (by omega) | exact len_eq (by simp) | exact int_eq (by simp; done), by first | rfl | exact int_eq (by omega) | exact len_eq (by simp) | exact int_eq (by simp; done), by first | rfl | exact int_eq (by omega) | exact len_eq (by simp) | exact int_eq (by simp; done), by first | rfl | exact int_eq (by omega) | exact len_eq (by simp) | exact int_eq (by simp; done), trivial⟩
  · exact HLe.cons' rfl (HLe.refl _)
  · rintro k hk
    try dsimp only
    refine W.reg ?_
    refine XOps.s rfl rfl rfl (Q.lss rfl rfl) ?_
    refine XOps.nil ?_
    refine W.seq ?_
    refine W.cond rfl (fun hc16 => ?_) (fun hc16 => ?_)
    · try simp only [Bool.or_eq_true, Bool.or_eq_false_iff, Bool.and_eq_true, Bool.and_eq_false_iff, decide_eq_true_eq, decide_eq_false_iff_not, Bool.not_eq_true', Bool.not_eq_false', Int.not_lt, Int.not_le, List.length_map] at hc16
      refine W.skip ?_
      refine W.seq ?_
      refine W.block ?_
      refine W.reg ?_
      refine XOps.s rfl rfl rfl (Q.move_d rfl) ?_
      refine XOps.s rfl rfl rfl (Q.assign_d rfl) ?_
      refine XOps.nil ?_
      refine W.reg ?_
      refine XOps.s rfl rfl rfl (Q.move_d rfl) ?_
      refine XOps.nil ?_
      refine W.block ?_
      refine W.loop (ι := Nat) (fun j => [(0, .d (slI l)), (1, .d (.int .i64 (0 + c % 201))), (5, .ptr b5 0), (15, .d (.int .i64 (k : Nat))), (6, .d (.int .i64 (k : Nat))), (18, .d (.int .i64 (j : Nat)))]) (fun j => (b5, .cells ((gD (fun i => if i < 4 * k + j then (0 + c % 201) else 0)).map .d)) :: hs) (fun j => j ≤ 4) (fun j => 4 - j) 0 ?_ ?_ ?_ ?_
      · exact Nat.zero_le _
      · exact ⟨by first | rfl | exact int_eq (by omega) | exact len_eq (by simp) | exact int_eq (by simp; done), by first | rfl | exact int_eq (by omega) | exact len_eq (by simp) | exact int_eq (by simp; done), by first | rfl | exact int_eq (by omega) | exact len_eq (by simp) | exact int_eq (by simp; done), by first | rfl | exact int_eq (by omega) | exact len_eq (by simp) | exact int_eq (by simp; done), by first | rfl | exact int_eq (by omega) | exact len_eq (by simp) | exact int_eq (by simp; done), by first | rfl | exact int_eq (by omega) | exact len_eq (by simp) | exact int_eq (by simp; done), trivial⟩
      · exact HLe.refl _
      · rintro j hj
        try dsimp only
        refine W.reg ?_
        refine XOps.s rfl rfl rfl (Q.lss rfl rfl) ?_
        refine XOps.nil ?_
        refine W.seq ?_
        refine W.cond rfl (fun hc19 => ?_) (fun hc19 => ?_)
        · try simp only [Bool.or_eq_true, Bool.or_eq_false_iff, Bool.and_eq_true, Bool.and_eq_false_iff, decide_eq_true_eq, decide_eq_false_iff_not, Bool.not_eq_true', Bool.not_eq_false', Int.not_lt, Int.not_le, List.length_map] at hc19
          have hoff : Nat.blt (0 + ((k : Nat) : Int).toNat * 4 + ((j : Nat) : Int).toNat * 1) ((gD (fun i => if i < 4 * k + j then (0 + c % 201) else 0)).map AV.d).length = true := by rw [List.length_map, show (gD (fun i => if i < 4 * k + j then (0 + c % 201) else 0)).length = 16 from rfl, Nat.blt_eq]; omega
          refine W.skip ?_
          refine W.seq ?_
          refine W.block ?_
          refine W.reg ?_
          refine XOps.s rfl rfl rfl (Q.move_d rfl) ?_
          refine XOps.s rfl rfl rfl (Q.assign_d rfl) ?_
          refine XOps.nil ?_
          refine W.region ?_
          refine XOps.s rfl rfl rfl (Q.move_d rfl) ?_
          refine XOps.s rfl rfl rfl (Q.move_d rfl) ?_
          refine XOps.s rfl rfl rfl (Q.move_d rfl) ?_
          refine XOps.s rfl rfl rfl (Q.idx_arr ar24 rfl rfl (by omega) (by omega)) ?_
          refine XOps.s rfl rfl rfl (Q.idx_arr ar23 rfl rfl (by omega) (by omega)) ?_
          (refine XOps.loud rfl (L.store (k := 0) ag3 rfl rfl hoff rfl rfl) ?_; rintro _ _ ⟨rfl, rfl⟩)
          refine XOps.nil ?_
          refine W.region ?_
          refine XOps.s rfl rfl rfl (Q.add rfl rfl (wi64 (by first | omega | (dsimp only; omega) | (simp only [List.length_map]; omega)) (by first | omega | (dsimp only; omega) | (simp only [List.length_map]; omega)))) ?_
          refine XOps.s rfl rfl rfl (Q.move_d rfl) ?_
          refine XOps.nil ?_
          refine ⟨j + 1, ?_, ?_, ?_, ?_⟩
          · omega
          · omega
          · exact ⟨by first | rfl | exact int_eq (by omega) | exact len_eq (by simp) | exact int_eq (by simp; done), by first | rfl | exact int_eq (by omega) | exact len_eq (by simp) | exact int_eq (by simp; done), by first | rfl | exact int_eq (by omega) | exact len_eq (by simp) | exact int_eq (by simp; done), by first | rfl | exact int_eq (by omega) | exact len_eq (by simp) | exact int_eq (by simp; done), by first | rfl | exact int_eq (by omega) | exact len_eq (by simp) | exact int_eq (by simp; done), by first | rfl | exact int_eq (by omega) | exact len_eq (by simp) | exact int_eq (by simp; done), trivial⟩
          · exact HLe.cons' (gset _ (by omega) (by omega)) (HLe.refl _)
        · try simp only [Bool.or_eq_true, Bool.or_eq_false_iff, Bool.and_eq_true, Bool.and_eq_false_iff, decide_eq_true_eq, decide_eq_false_iff_not, Bool.not_eq_true', Bool.not_eq_false', Int.not_lt, Int.not_le, List.length_map] at hc19
          obtain rfl : j = 4 := by omega
          refine W.exit ?_
          refine W.region ?_
          refine XOps.s rfl rfl rfl (Q.add rfl rfl (wi64 (by first | omega | (dsimp only; omega) | (simp only [List.length_map]; omega)) (by first | omega | (dsimp only; omega) | (simp only [List.length_map]; omega)))) ?_
          refine XOps.s rfl rfl rfl (Q.move_d rfl) ?_
          refine XOps.nil ?_
          refine ⟨k + 1, ?_, ?_, ?_, ?_⟩
          · omega
          · omega
          · exact ⟨by first | rfl | exact int_eq (by omega) | exact len_eq (by simp) | exact int_eq (by simp; done), by first | rfl | exact int_eq (by omega) | exact len_eq (by simp) | exact int_eq (by simp; done), by first | rfl | exact int_eq (by omega) | exact len_eq (by simp) | exact int_eq (by simp; done), by first | rfl | exact int_eq (by omega) | exact len_eq (by simp) | exact int_eq (by simp; done), trivial⟩
          · exact HLe.cons' rfl (HLe.refl _)
    · try simp only [Bool.or_eq_true, Bool.or_eq_false_iff, Bool.and_eq_true, Bool.and_eq_false_iff, decide_eq_true_eq, decide_eq_false_iff_not, Bool.not_eq_true', Bool.not_eq_false', Int.not_lt, Int.not_le, List.length_map] at hc16
      refine W.exit ?_
      obtain rfl : k = 4 := by omega
      refine W.heap ((b5, .cells ((gD (cg (0 + c % 201))).map .d)) :: hs) (HLe.cons' (by rfl) (HLe.refl _)) ?_
      refine W.reg ?_
      refine XOps.s rfl rfl rfl (Q.move_d rfl) ?_
      refine XOps.s rfl rfl rfl (Q.ld_ptrn (k := 0) ag24 rfl rfl rfl) ?_
      refine XOps.s rfl rfl rfl (Q.call rfl Try.func8 go8 rfl (times2_c l (cg (0 + c % 201)) _)) ?_
      refine XOps.s rfl rfl rfl (Q.move_tup rfl) ?_
      refine XOps.s rfl rfl rfl (Q.extract rfl rfl) ?_
      refine XOps.s rfl rfl rfl (Q.extract rfl rfl) ?_
      refine XOps.s rfl rfl rfl (Q.assign_d rfl) ?_
      refine XOps.s rfl rfl rfl (Q.assign_d rfl) ?_
      refine XOps.nil ?_
      refine W.seq ?_
      refine W.reg ?_
      refine XOps.s rfl rfl rfl (Q.move_d rfl) ?_
      refine XOps.s rfl rfl rfl (Q.neq rfl rfl) ?_
      refine XOps.s rfl rfl rfl (Q.move_d rfl) ?_
      refine XOps.gs rfl rfl rfl rfl rfl rfl rfl (fun hg => Q.move_d rfl) ?_
      refine XOps.gs rfl rfl rfl rfl rfl rfl rfl (fun hg => Quiet.open 37 hg rfl (Q.len_sl isl22 rfl)) ?_
      refine XOps.gs rfl rfl rfl rfl rfl rfl rfl (fun hg => Quiet.open 38 hg rfl (Q.eql rfl rfl)) ?_
      refine XOps.s rfl rfl rfl (Q.pick_or rfl rfl rfl (fun h => by first | (rw [h]; rfl) | (rw [hg, h]; rfl) | (simp [h, hg]; done))) ?_
      refine XOps.nil ?_
      refine W.cond rfl (fun hc40 => ?_) (fun hc40 => ?_)
      · try simp only [Bool.or_eq_true, Bool.or_eq_false_iff, Bool.and_eq_true, Bool.and_eq_false_iff, decide_eq_true_eq, decide_eq_false_iff_not, Bool.not_eq_true', Bool.not_eq_false', Int.not_lt, Int.not_le, List.length_map] at hc40
        have hbad : timesT l (cg (0 + c % 201)) = [] := by
          by_cases hz : checkA l (cg (0 + c % 201)) = 0
          · rw [timesT_ok hz]
            have hl0 : l.length = 0 := by
              rcases hc40 with h | h
              · omega
              · simpa using h
            exact List.eq_nil_of_length_eq_zero (by rw [timesS_length]; exact hl0)
          · exact timesT_bad hz
        refine W.reg ?_
        refine XOps.s rfl rfl rfl (Q.call rfl Try.func9 go9 rfl (fact_c _)) ?_
        refine XOps.s rfl rfl rfl (Q.move_d rfl) ?_
        refine XOps.gs rfl rfl rfl rfl rfl rfl rfl (fun hg => Q.move_d rfl) ?_
        refine XOps.gs rfl rfl rfl rfl rfl rfl rfl (fun hg => Quiet.open 43 hg rfl (Q.len_sl isl25 rfl)) ?_
        refine XOps.gs rfl rfl rfl rfl rfl rfl rfl (fun hg => Quiet.open 44 hg rfl (Q.eql rfl rfl)) ?_
        refine XOps.s rfl rfl rfl (Q.pick_and rfl rfl rfl (fun h => by first | (rw [h]; rfl) | (rw [hg, h]; rfl) | (simp [h, hg]; done))) ?_
        refine XOps.s rfl rfl rfl (Q.assign_d rfl) ?_
        refine XOps.nil ?_
        refine W.ret ?_
        (refine ⟨_, _, rfl, HLe.refl _, bt ?_⟩; rw [hbad]; rfl)
      · try simp only [Bool.or_eq_true, Bool.or_eq_false_iff, Bool.and_eq_true, Bool.and_eq_false_iff, decide_eq_true_eq, decide_eq_false_iff_not, Bool.not_eq_true', Bool.not_eq_false', Int.not_lt, Int.not_le, List.length_map] at hc40
        obtain ⟨hc1, hc2⟩ := hc40
        have hz : checkA l (cg (0 + c % 201)) = 0 := by omega
        obtain ⟨hg, hl, hn⟩ := checkA_zero hz
        have h0l : l ≠ [] := fun he => by subst he; simp at hc2
        have hll : (timesT l (cg (0 + c % 201))).length = l.length := by rw [timesT_ok hz, timesS_length]
        have hlp : 0 < l.length := List.length_pos_iff.2 h0l
        refine W.skip ?_
        refine W.reg ?_
        refine XOps.s rfl rfl rfl (Q.move_d rfl) ?_
        (refine XOps.loud rfl (L.call rfl Try.func12 go12 rfl (clone_c l _ hL) rfl) ?_; rintro _ _ ⟨_, rfl, m, rfl, rfl⟩)
        refine XOps.s rfl rfl rfl (Q.assign_vs rfl) ?_
        refine XOps.nil ?_
        refine W.reg ?_
        refine XOps.s rfl rfl rfl (Q.move_vs rfl) ?_
        (refine XOps.loud rfl (L.call rfl Try.func20 go20 rfl (sort_c l hl h0l hn m _) rfl) ?_; rintro _ _ ⟨_, rfl, rfl, s, hp, hsd, rfl⟩)
        refine XOps.nil ?_
        have hsl := hp.length_eq
        have hzs : checkA s (cg (0 + c % 201)) = 0 := by
          unfold checkA
          rw [if_neg (by omega), if_pos ⟨hg, fun x hx => hl x (hp.mem_iff.1 hx)⟩]
        have hss : (timesT s (cg (0 + c % 201))).length = s.length := by rw [timesT_ok hzs, timesS_length]
        refine W.freeze 10 0 rfl rfl (by simp [hsl]) ?_
        refine W.reg ?_
        refine XOps.s rfl rfl rfl (Q.move_d rfl) ?_
        refine XOps.s rfl rfl rfl (Q.ld_ptrn (k := 0) ag24 rfl rfl rfl) ?_
        refine XOps.s rfl rfl rfl (Q.call rfl Try.func8 go8 rfl (times2_c s (cg (0 + c % 201)) _)) ?_
        refine XOps.s rfl rfl rfl (Q.move_tup rfl) ?_
        refine XOps.s rfl rfl rfl (Q.extract rfl rfl) ?_
        refine XOps.s rfl rfl rfl (Q.extract rfl rfl) ?_
        refine XOps.s rfl rfl rfl (Q.assign_d rfl) ?_
        refine XOps.s rfl rfl rfl (Q.assign_d rfl) ?_
        refine XOps.nil ?_
        refine W.reg ?_
        refine XOps.s rfl rfl rfl (Q.call rfl Try.func9 go9 rfl (fact_c _)) ?_
        refine XOps.s rfl rfl rfl (Q.move_d rfl) ?_
        refine XOps.gs rfl rfl rfl rfl rfl rfl rfl (fun hg => Q.move_d rfl) ?_
        refine XOps.gs rfl rfl rfl rfl rfl rfl rfl (fun hg => Quiet.open 59 hg rfl (Q.eql rfl rfl)) ?_
        refine XOps.s rfl rfl rfl (Q.pick_and rfl rfl rfl (fun h => by first | (rw [h]; rfl) | (rw [hg, h]; rfl) | (simp [h, hg]; done))) ?_
        refine XOps.s rfl rfl rfl (Q.move_d rfl) ?_
        refine XOps.gs rfl rfl rfl rfl rfl rfl rfl (fun hg => Q.move_d rfl) ?_
        refine XOps.gs rfl rfl rfl rfl rfl rfl rfl (fun hg => Quiet.open 63 hg rfl (Q.len_sl isl25 rfl)) ?_
        refine XOps.gs rfl rfl rfl rfl rfl rfl rfl (fun hg => Q.move_d rfl) ?_
        refine XOps.gs rfl rfl rfl rfl rfl rfl rfl (fun hg => Quiet.open 65 hg rfl (Q.len_sl isl22 rfl)) ?_
        refine XOps.gs rfl rfl rfl rfl rfl rfl rfl (fun hg => Quiet.open 64 hg rfl (Quiet.open 66 hg rfl (Q.eql rfl rfl))) ?_
        refine XOps.s rfl rfl rfl (Q.pick_and rfl rfl rfl (fun h => by first | (rw [h]; rfl) | (rw [hg, h]; rfl) | (simp [h, hg]; done))) ?_
        refine XOps.s rfl rfl rfl (Q.move_d rfl) ?_
        refine XOps.gs rfl rfl rfl rfl rfl rfl rfl (fun hg => Q.move_d rfl) ?_
        refine XOps.gs rfl rfl rfl rfl rfl rfl rfl (fun hg => Quiet.open 70 hg rfl (Q.len_sl isl25 rfl)) ?_
        refine XOps.gs rfl rfl rfl rfl rfl rfl rfl (fun hg => Q.move_d rfl) ?_
        refine XOps.gs rfl rfl rfl rfl rfl rfl rfl (fun hg => Quiet.open 72 hg rfl (Q.len_sl isl22 rfl)) ?_
        refine XOps.gs rfl rfl rfl rfl rfl rfl rfl (fun hg => Quiet.open 71 hg rfl (Quiet.open 73 hg rfl (Q.eql rfl rfl))) ?_
        refine XOps.s rfl rfl rfl (Q.pick_and rfl rfl rfl (fun h => by first | (rw [h]; rfl) | (rw [hg, h]; rfl) | (simp [h, hg]; done))) ?_
        refine XOps.s rfl rfl rfl (Q.move_d rfl) ?_
        refine XOps.gs rfl rfl rfl rfl rfl rfl rfl (fun hg => Q.move_d rfl) ?_
        refine XOps.gs rfl rfl rfl rfl rfl rfl rfl (fun hg => Quiet.open 77 hg rfl (Q.call rfl Try.func22 go22 rfl (max_c (timesT s (cg (0 + c % 201))) _ (by omega) (by omega)))) ?_
        refine XOps.gs rfl rfl rfl rfl rfl rfl rfl (fun hg => Q.move_d rfl) ?_
        refine XOps.gs rfl rfl rfl rfl rfl rfl rfl (fun hg => Quiet.open 79 hg rfl (Q.call rfl Try.func22 go22 rfl (max_c (timesT l (cg (0 + c % 201))) _ (by omega) (by omega)))) ?_
        refine XOps.gs rfl rfl rfl rfl rfl rfl rfl (fun hg => Quiet.open 78 hg rfl (Quiet.open 80 hg rfl (Q.leq rfl rfl))) ?_
        refine XOps.s rfl rfl rfl (Q.pick_and rfl rfl rfl (fun h => by first | (rw [h]; rfl) | (rw [hg, h]; rfl) | (simp [h, hg]; done))) ?_
        refine XOps.s rfl rfl rfl (Q.assign_d rfl) ?_
        refine XOps.nil ?_
        refine W.ret ?_
        (refine ⟨_, _, rfl, HLe.refl _, bt ?_⟩; have hb := sorted_best hp hsd h0l (c := (0 + c % 201)) (by have := Int.emod_nonneg c (show (201 : Int) ≠ 0 by decide); omega); rw [timesT_ok hz, timesT_ok hzs, hzs]; simp [timesS_length, hsl]; simpa using hb)
end Go.Proofs.YtiibdlifdneagaaA
