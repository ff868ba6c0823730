/- Lost; the law ContactHeard. -/
import Derived.Test.YtaegecnjimbfbaaBase
import Derived.Test.YtaegecnjimbfbaaWalkC
set_option linter.unusedVariables false
set_option linter.unusedSimpArgs false
set_option linter.unnecessarySimpa false
namespace Go.Proofs.YtaegecnjimbfbaaA.FWalkD
open Go
theorem ag22 : tAgg P 22 = some ((false, 1)) := by kernel_rfl
theorem ag27 : tAgg P 27 = some ((true, 3)) := by kernel_rfl
theorem ag3 : tAgg P 3 = some ((false, 1)) := by kernel_rfl
theorem ag9 : tAgg P 9 = some ((false, 1)) := by kernel_rfl
theorem ap22 : tApp P 22 = some ((3, 32)) := by kernel_rfl
theorem eqt27 : tEq P 27 = some ([.str, .int .i64, .int .i64]) := by kernel_rfl
theorem fl27_0 : tFld P 27 0 = some (0) := by kernel_rfl
theorem fl27_1 : tFld P 27 1 = some (1) := by kernel_rfl
theorem fl27_2 : tFld P 27 2 = some (2) := by kernel_rfl
theorem fl41_0 : tFld P 41 0 = some (0) := by kernel_rfl
theorem go10 : callGo Go.Proofs.Try.f10 = true := by kernel_rfl
theorem go12 : callGo Go.Proofs.Try.f12 = true := by kernel_rfl
theorem go13 : callGo Go.Proofs.Try.f13 = true := by kernel_rfl
theorem go14 : callGo Go.Proofs.Try.f14 = true := by kernel_rfl
theorem go21 : callGo Go.Proofs.Try.f21 = true := by kernel_rfl
theorem go22 : callGo Go.Proofs.Try.f22 = true := by kernel_rfl
theorem go23 : callGo Go.Proofs.Try.f23 = true := by kernel_rfl
theorem go30 : callGo Go.Proofs.Try.f30 = true := by kernel_rfl
theorem go33 : callGo Go.Proofs.Try.f33 = true := by kernel_rfl
theorem go5 : callGo Go.Proofs.Try.f5 = true := by kernel_rfl
theorem go6 : callGo Go.Proofs.Try.f6 = true := by kernel_rfl
theorem go7 : callGo Go.Proofs.Try.f7 = true := by kernel_rfl
theorem ipt23 : isPtr P 23 = true := by kernel_rfl
theorem isb4 : isB P 4 = true := by kernel_rfl
theorem isl22 : isSl P 22 = true := by kernel_rfl
theorem sl22 : tSl P 22 = some (3) := by kernel_rfl
theorem tz27 : tZero P 27 = some ([.string ⟨#[]⟩, .int .i64 0, .int .i64 0]) := by kernel_rfl
theorem zr22 : tZrow P 22 = some ([.string ⟨#[]⟩, .int .i64 0, .int .i64 0]) := by kernel_rfl
theorem zrd22 : cellsD [.string ⟨#[]⟩, .int .i64 0, .int .i64 0] = some ([.str ⟨#[]⟩, .int .i64 0, .int .i64 0]) := rfl
end Go.Proofs.YtaegecnjimbfbaaA.FWalkD
namespace Go.Proofs.YtaegecnjimbfbaaA
open Go FWalkD
def lostP (a g : Int) (x : Ct) : Bool := (decide (0 ≤ a) && decide (a ≤ 200000)) && decide (0 ≤ g) && decide (g < a - x.t)
def lostS (l : List Ct) (a g : Int) : List Ct := l.filter (lostP a g)
theorem lostS_take {l : List Ct} {k : Nat} {x : Ct} {a g : Int} (h : l[k]? = some x) : lostS (l.take (k + 1)) a g = if lostP a g x = true then lostS (l.take k) a g ++ [x] else lostS (l.take k) a g := by
  unfold lostS
  rw [List.take_add_one, h, Option.toList_some, List.filter_append]
  split
  · rename_i h1; simp [h1]
  · rename_i h1; simp [h1]
theorem lostS_len (l : List Ct) (a g : Int) : (lostS l a g).length ≤ l.length := List.length_filter_le _ _
def sameC (x y : Ct) : Bool := allD x.enc y.enc
theorem sameC_iff (x y : Ct) : sameC x y = true ↔ x = y := by
  obtain ⟨a, b, c⟩ := x
  obtain ⟨a2, b2, c2⟩ := y
  simp [sameC, Ct.enc, allD, leafD]
  intro _ _
  exact ⟨fun h => toList_inj h, fun h => by rw [h]⟩
theorem any_same {l : List Ct} {x : Ct} : (l.any fun y => sameC x y) = true ↔ x ∈ l := by
  rw [List.any_eq_true]
  constructor
  · rintro ⟨y, hy, h⟩; rw [(sameC_iff x y).1 h]; exact hy
  · intro h; exact ⟨x, h, (sameC_iff x x).2 rfl⟩
theorem any_lost {l p : List Ct} {a g : Int} (hp : p.Perm (lostS l a g)) (ha : 0 ≤ a ∧ a ≤ 200000) (hg : 0 ≤ g) {x : Ct} (hx : x ∈ l) : (p.any fun y => sameC x y) = decide (g < a - x.t) := by
  rw [Bool.eq_iff_iff, any_same, hp.mem_iff, decide_eq_true_iff]
  unfold lostS
  rw [List.mem_filter]
  unfold lostP
  simp [hx, ha, hg]
theorem lost_later {l p p2 : List Ct} {a a2 g : Int} (hp : p.Perm (lostS l a g)) (hp2 : p2.Perm (lostS l a2 g)) (ha : 0 ≤ a ∧ a ≤ a2 ∧ a2 ≤ 200000) {x : Ct} (hx : x ∈ p) : (p2.any fun y => sameC x y) = true := by
  rw [any_same, hp2.mem_iff]
  rw [hp.mem_iff] at hx
  unfold lostS at hx ⊢
  rw [List.mem_filter] at hx ⊢
  refine ⟨hx.1, ?_⟩
  have := hx.2
  unfold lostP at this ⊢
  simp at this ⊢
  omega
theorem swap_perm {p : List Ct} {i j : Nat} {x y : Ct} (hx : p[i]? = some x) (hy : p[j]? = some y) : ((p.set i y).set j x).Perm p := by
  obtain ⟨h1, rfl⟩ := List.getElem?_eq_some_iff.1 hx
  obtain ⟨h2, rfl⟩ := List.getElem?_eq_some_iff.1 hy
  exact List.set_set_perm h1 h2

set_option maxHeartbeats 1000000 in
set_option maxRecDepth 100000 in
theorem cmpT_c (x y : Ct) (hs : Hp) (hx : 0 ≤ x.t ∧ x.t ≤ 200000) (hy : 0 ≤ y.t ∧ y.t ≤ 200000) : AC P 22 [.d (.agg x.enc), .d (.agg y.enc)] hs (fun r h => r = .d (.int .i64 (x.t - y.t)) ∧ h = hs) := by
  refine AC.of 10 Try.func22 rfl rfl rfl ?_
  refine W.reg ?_
  refine XOps.loud rfl (L.boxn rfl rfl) ?_
  rintro _ _ ⟨b2, rfl, rfl⟩
  refine XOps.loud rfl (L.boxn rfl rfl) ?_
  rintro _ _ ⟨b3, rfl, rfl⟩
  refine XOps.s rfl rfl rfl (Q.assign_d rfl) ?_
  refine XOps.nil ?_
  refine W.reg ?_
  refine XOps.s rfl rfl rfl (Q.fld_ptr fl27_2 rfl) ?_
  refine XOps.s rfl rfl rfl (Q.ld_ptr (k := 1) ag3 rfl rfl rfl) ?_
  refine XOps.s rfl rfl rfl (Q.fld_ptr fl27_2 rfl) ?_
  refine XOps.s rfl rfl rfl (Q.ld_ptr (k := 0) ag3 rfl rfl rfl) ?_
  refine XOps.s rfl rfl rfl (Q.sub rfl rfl (wi64 (by first | omega | (dsimp only; omega) | (simp only [List.length_map]; omega)) (by first | omega | (dsimp only; omega) | (simp only [List.length_map]; omega)))) ?_
  refine XOps.s rfl rfl rfl (Q.assign_d rfl) ?_
  refine XOps.nil ?_
  refine W.ret ?_
  refine ⟨_, hs, rfl, by repeat (first | exact HLe.refl _ | refine HLe.cons' (by first | rfl | (simp; done)) ?_ | refine HLe.pick 1 rfl (by first | rfl | (simp; done)) ?_ | refine HLe.pick 2 rfl (by first | rfl | (simp; done)) ?_ | refine HLe.pick 3 rfl (by first | rfl | (simp; done)) ?_ | refine HLe.pick 4 rfl (by first | rfl | (simp; done)) ?_ | refine HLe.pick 5 rfl (by first | rfl | (simp; done)) ?_ | refine HLe.skip _ ?_), ?_, rfl⟩
  rfl

set_option maxHeartbeats 1000000 in
set_option maxRecDepth 100000 in
theorem isort_c {fn : Func} (f id : Nat) (c : Ct → Ct → Int) (l : List Ct) (hs : Hp) (hL : l.length < 20) (hf : P.funcs[f]? = some fn) (hgo : callGo fn = true) (hp : ∀ x ∈ l, ∀ y ∈ l, ∀ hs, AC P f [.d (.agg x.enc), .d (.agg y.enc)] hs (fun r h => r = .d (.int .i64 (c x y)) ∧ h = hs)) : AC P 33 [.vs id 0 l.length 3, .d (.int .i64 0), .d (.int .i64 l.length), .fn f []] ((id, .lst 3 (l.map Ct.enc)) :: hs) (fun r h => r = .tup [] ∧ ∃ p : List Ct, p.Perm l ∧ h = (id, .lst 3 (p.map Ct.enc)) :: hs) := by
  refine AC.of 53 Try.func33 rfl rfl rfl ?_
  refine W.reg ?_
  refine XOps.s rfl rfl rfl (Q.move_d rfl) ?_
  refine XOps.s rfl rfl rfl (Q.add rfl rfl (wi64 (by first | omega | (dsimp only; omega) | (simp only [List.length_map]; omega)) (by first | omega | (dsimp only; omega) | (simp only [List.length_map]; omega)))) ?_
  refine XOps.s rfl rfl rfl (Q.assign_d rfl) ?_
  refine XOps.nil ?_
  refine W.block ?_
  refine W.loop (ι := Nat × List Ct) (fun z => [(0, .vs id 0 l.length 3), (1, .d (.int .i64 0)), (2, .d (.int .i64 l.length)), (3, .fn f []), (8, .d (.int .i64 (z.1 + 1 : Nat)))]) (fun z => (id, .lst 3 (z.2.map Ct.enc)) :: hs) (fun z => z.2.Perm l) (fun z => l.length - z.1) (0, l) ?_ ?_ ?_ ?_
  · exact List.Perm.refl _
  · exact ⟨by first | rfl | exact int_eq (by omega) | exact len_eq (by simp) | exact int_eq (by simp; done), by first | rfl | exact int_eq (by omega) | exact len_eq (by simp) | exact int_eq (by simp; done), by first | rfl | exact int_eq (by omega) | exact len_eq (by simp) | exact int_eq (by simp; done), by first | rfl | exact int_eq (by omega) | exact len_eq (by simp) | exact int_eq (by simp; done), by first | rfl | exact int_eq (by omega) | exact len_eq (by simp) | exact int_eq (by simp; done), trivial⟩
  · repeat (first | exact HLe.refl _ | refine HLe.cons' (by first | rfl | (simp; done)) ?_ | refine HLe.pick 1 rfl (by first | rfl | (simp; done)) ?_ | refine HLe.pick 2 rfl (by first | rfl | (simp; done)) ?_ | refine HLe.pick 3 rfl (by first | rfl | (simp; done)) ?_ | refine HLe.pick 4 rfl (by first | rfl | (simp; done)) ?_ | refine HLe.pick 5 rfl (by first | rfl | (simp; done)) ?_ | refine HLe.skip _ ?_)
  · rintro ⟨i, p⟩ hpp
    try dsimp only at hpp ⊢
    refine W.seq ?_
    refine W.reg ?_
    refine XOps.s rfl rfl rfl (Q.move_d rfl) ?_
    refine XOps.s rfl rfl rfl (Q.move_d rfl) ?_
    refine XOps.s rfl rfl rfl (Q.lss rfl rfl) ?_
    refine XOps.nil ?_
    refine W.cond rfl (fun hc14 => ?_) (fun hc14 => ?_)
    · try simp only [Bool.or_eq_true, Bool.or_eq_false_iff, Bool.and_eq_true, Bool.and_eq_false_iff, decide_eq_true_eq, decide_eq_false_iff_not, Bool.not_eq_true', Bool.not_eq_false', Int.not_lt, Int.not_le, List.length_map] at hc14
      have hpl := hpp.length_eq
      refine W.skip ?_
      refine W.seq ?_
      refine W.block ?_
      refine W.reg ?_
      refine XOps.s rfl rfl rfl (Q.move_d rfl) ?_
      refine XOps.s rfl rfl rfl (Q.assign_d rfl) ?_
      refine XOps.nil ?_
      refine W.block ?_
      refine W.loop (ι := Nat × List Ct) (fun z => [(0, .vs id 0 l.length 3), (1, .d (.int .i64 0)), (2, .d (.int .i64 l.length)), (3, .fn f []), (8, .d (.int .i64 (i + 1 : Nat))), (9, .d (.int .i64 z.1))]) (fun z => (id, .lst 3 (z.2.map Ct.enc)) :: hs) (fun z => z.2.Perm l ∧ z.1 ≤ i + 1) (fun z => z.1) (i + 1, p) ?_ ?_ ?_ ?_
      · exact ⟨hpp, Nat.le_refl _⟩
      · exact ⟨by first | rfl | exact int_eq (by omega) | exact len_eq (by simp) | exact int_eq (by simp; done), by first | rfl | exact int_eq (by omega) | exact len_eq (by simp) | exact int_eq (by simp; done), by first | rfl | exact int_eq (by omega) | exact len_eq (by simp) | exact int_eq (by simp; done), by first | rfl | exact int_eq (by omega) | exact len_eq (by simp) | exact int_eq (by simp; done), by first | rfl | exact int_eq (by omega) | exact len_eq (by simp) | exact int_eq (by simp; done), by first | rfl | exact int_eq (by omega) | exact len_eq (by simp) | exact int_eq (by simp; done), trivial⟩
      · repeat (first | exact HLe.refl _ | refine HLe.cons' (by first | rfl | (simp; done)) ?_ | refine HLe.pick 1 rfl (by first | rfl | (simp; done)) ?_ | refine HLe.pick 2 rfl (by first | rfl | (simp; done)) ?_ | refine HLe.pick 3 rfl (by first | rfl | (simp; done)) ?_ | refine HLe.pick 4 rfl (by first | rfl | (simp; done)) ?_ | refine HLe.pick 5 rfl (by first | rfl | (simp; done)) ?_ | refine HLe.skip _ ?_)
      · rintro ⟨j, q⟩ ⟨hqp, hj⟩
        try dsimp only at hqp hj ⊢
        have hql := hqp.length_eq
        obtain ⟨x, hx⟩ : ∃ x, q[j]? = some x := ⟨_, List.getElem?_eq_getElem (by omega)⟩
        obtain ⟨y, hy⟩ : ∃ y, q[((j : Int) - 1).toNat]? = some y := ⟨_, List.getElem?_eq_getElem (by omega)⟩
        refine W.seq ?_
        refine W.drawreg 17 follows (by kernel_rfl) ?_
        refine Chain.cons _ (GQ.q rfl (Q.move_d rfl)) rfl ?_
        refine Chain.cons _ (GQ.q rfl (Q.move_d rfl)) rfl ?_
        refine Chain.cons _ (GQ.q rfl (Q.gtr rfl rfl)) rfl ?_
        refine Chain.cons _ (GQ.q rfl (Q.move_d rfl)) rfl ?_
        refine Chain.cons _ (GQ.g rfl rfl rfl rfl rfl (fun hg => Q.move_fn rfl)) rfl ?_
        refine Chain.cons _ (GQ.g rfl rfl rfl rfl rfl (fun hg => Q.move_vs rfl)) rfl ?_
        refine Chain.cons _ (GQ.g rfl rfl rfl rfl rfl (fun hg => Q.move_d rfl)) rfl ?_
        refine Chain.cons _ (GQ.g rfl rfl rfl rfl rfl (fun hg => Quiet.open 23 hg rfl (Quiet.open 24 hg rfl (Q.idx_vs (kk := 0) sl22 rfl rfl rfl (by first | omega | (simp at hg; omega)) (by first | omega | (dsimp only; omega)))))) rfl ?_
        refine Chain.cons _ (GQ.g rfl rfl rfl rfl rfl (fun hg => Quiet.open 25 hg rfl (Q.ld_epn (k := 0) ag27 rfl rfl (by first | exact map_at0 hx | exact map_atz hy) rfl))) rfl ?_
        refine Chain.cons _ (GQ.g rfl rfl rfl rfl rfl (fun hg => Q.move_vs rfl)) rfl ?_
        refine Chain.cons _ (GQ.g rfl rfl rfl rfl rfl (fun hg => Q.move_d rfl)) rfl ?_
        refine Chain.cons _ (GQ.g rfl rfl rfl rfl rfl (fun hg => Quiet.open 28 hg rfl (Q.sub rfl rfl (wi64 (by first | omega | (dsimp only; omega) | (simp only [List.length_map]; omega)) (by first | omega | (dsimp only; omega) | (simp only [List.length_map]; omega)))))) rfl ?_
        refine Chain.cons _ (GQ.g rfl rfl rfl rfl rfl (fun hg => Quiet.open 27 hg rfl (Quiet.open 29 hg rfl (Q.idx_vs (kk := 0) sl22 rfl rfl rfl (by first | omega | (simp at hg; omega)) (by first | omega | (dsimp only; omega)))))) rfl ?_
        refine Chain.cons _ (GQ.g rfl rfl rfl rfl rfl (fun hg => Quiet.open 30 hg rfl (Q.ld_epn (k := 0) ag27 rfl rfl (by first | exact map_at0 hx | exact map_atz hy) rfl))) rfl ?_
        refine Chain.cons _ (GQ.g rfl rfl rfl rfl rfl (fun hg => Quiet.open 22 hg rfl (Quiet.open 26 hg rfl (Quiet.open 31 hg rfl (Q.call rfl hf hgo rfl (hp x (hqp.mem_iff.1 (List.mem_of_getElem? hx)) y (hqp.mem_iff.1 (List.mem_of_getElem? hy)) _)))))) rfl ?_
        refine Chain.cons _ (GQ.g rfl rfl rfl rfl rfl (fun hg => Quiet.open 32 hg rfl (Q.lss rfl rfl))) rfl ?_
        refine Chain.cons _ (GQ.q rfl (Q.pick_and rfl rfl rfl (fun h => by first | (rw [h]; rfl) | (rw [hg, h]; rfl) | (simp [h, hg]; done)))) rfl ?_
        refine Chain.nil ?_
        refine XOps.nil ?_
        refine W.cond rfl (fun hc34 => ?_) (fun hc34 => ?_)
        · try simp only [Bool.or_eq_true, Bool.or_eq_false_iff, Bool.and_eq_true, Bool.and_eq_false_iff, decide_eq_true_eq, decide_eq_false_iff_not, Bool.not_eq_true', Bool.not_eq_false', Int.not_lt, Int.not_le, List.length_map] at hc34
          obtain ⟨hj0, _⟩ := hc34
          refine W.skip ?_
          refine W.seq ?_
          refine W.block ?_
          refine W.drawT 16 [15] follows (by kernel_rfl) (by decide) ?_
          apply DT.moreS [.new, .new, .new, .new, .new, .new, .new, .new, .new, .new, .new, .new, .new, .new, .new, .now] (by kernel_rfl)
          refine PC.new _ rfl (GQ.q rfl (Q.move_vs rfl)) rfl ?_
          refine PC.new _ rfl (GQ.q rfl (Q.move_d rfl)) rfl ?_
          refine PC.new _ rfl (GQ.q rfl (Q.move_vs rfl)) rfl ?_
          refine PC.new _ rfl (GQ.q rfl (Q.move_d rfl)) rfl ?_
          refine PC.new _ rfl (GQ.q rfl (Q.sub rfl rfl (wi64 (by first | omega | (dsimp only; omega) | (simp only [List.length_map]; omega)) (by first | omega | (dsimp only; omega) | (simp only [List.length_map]; omega))))) rfl ?_
          refine PC.new _ rfl (GQ.q rfl (Q.move_vs rfl)) rfl ?_
          refine PC.new _ rfl (GQ.q rfl (Q.move_d rfl)) rfl ?_
          refine PC.new _ rfl (GQ.q rfl (Q.sub rfl rfl (wi64 (by first | omega | (dsimp only; omega) | (simp only [List.length_map]; omega)) (by first | omega | (dsimp only; omega) | (simp only [List.length_map]; omega))))) rfl ?_
          refine PC.new _ rfl (GQ.q rfl (Q.idx_vs (kk := 0) sl22 rfl rfl rfl (by first | omega | (simp at hg; omega)) (by first | omega | (dsimp only; omega)))) rfl ?_
          refine PC.new _ rfl (GQ.q rfl (Q.ld_epn (k := 0) ag27 rfl rfl (by first | exact map_at0 hx | exact map_atz hy) rfl)) rfl ?_
          refine PC.new _ rfl (GQ.q rfl (Q.move_vs rfl)) rfl ?_
          refine PC.new _ rfl (GQ.q rfl (Q.move_d rfl)) rfl ?_
          refine PC.new _ rfl (GQ.q rfl (Q.idx_vs (kk := 0) sl22 rfl rfl rfl (by first | omega | (simp at hg; omega)) (by first | omega | (dsimp only; omega)))) rfl ?_
          refine PC.new _ rfl (GQ.q rfl (Q.ld_epn (k := 0) ag27 rfl rfl (by first | exact map_at0 hx | exact map_atz hy) rfl)) rfl ?_
          refine PC.new _ rfl (GQ.q rfl (Q.idx_vs (kk := 0) sl22 rfl rfl rfl (by first | omega | (simp at hg; omega)) (by first | omega | (dsimp only; omega)))) rfl ?_
          refine PC.now rfl rfl (fun τ => Loud.to (L.storen_ep (k := 0) ag27 rfl rfl (map_at0 hx) rfl rfl rfl) (fun _ _ h => ⟨.any, h.1, h.2⟩)) ?_
          refine PC.nil ?_
          rintro _ _ rfl
          refine DT.last [.did, .did, .old, .old, .old, .did, .did, .did, .did, .did, .did, .did, .did, .did, .did, .did] (by kernel_rfl) ?_
          refine PC.did rfl ?_
          refine PC.did rfl ?_
          refine PC.old rfl (GQ.q rfl (Q.move_vs rfl)) rfl ?_
          refine PC.old rfl (GQ.q rfl (Q.move_d rfl)) rfl ?_
          refine PC.old rfl (GQ.q rfl (Q.sub rfl rfl (wi64 (by first | omega | (dsimp only; omega) | (simp only [List.length_map]; omega)) (by first | omega | (dsimp only; omega) | (simp only [List.length_map]; omega))))) rfl ?_
          refine PC.did rfl ?_
          refine PC.did rfl ?_
          refine PC.did rfl ?_
          refine PC.did rfl ?_
          refine PC.did rfl ?_
          refine PC.did rfl ?_
          refine PC.did rfl ?_
          refine PC.did rfl ?_
          refine PC.did rfl ?_
          refine PC.did rfl ?_
          refine PC.did rfl ?_
          refine PC.nil ?_
          refine XOps.s rfl rfl rfl (Q.idx_vs (kk := 0) sl22 rfl rfl rfl (by first | omega | (simp at hg; omega)) (by first | omega | (dsimp only; omega))) ?_
          (refine XOps.loud rfl (L.storen_ep (k := 0) ag27 rfl rfl (by rw [List.getElem?_set_ne (by omega)]; exact map_atz hy) rfl rfl rfl) ?_; rintro _ _ ⟨rfl, rfl⟩)
          refine XOps.nil ?_
          refine W.region ?_
          refine XOps.s rfl rfl rfl (Q.move_d rfl) ?_
          refine XOps.s rfl rfl rfl (Q.sub rfl rfl (wi64 (by first | omega | (dsimp only; omega) | (simp only [List.length_map]; omega)) (by first | omega | (dsimp only; omega) | (simp only [List.length_map]; omega)))) ?_
          refine XOps.s rfl rfl rfl (Q.assign_d rfl) ?_
          refine XOps.nil ?_
          refine ⟨(j - 1, (q.set j y).set ((j : Int) - 1).toNat x), ?_, ?_, ?_, ?_⟩
          · exact ⟨(swap_perm hx hy).trans hqp, by dsimp only; omega⟩
          · dsimp only; omega
          · exact ⟨by first | rfl | exact int_eq (by omega) | exact len_eq (by simp) | exact int_eq (by simp; done), by first | rfl | exact int_eq (by omega) | exact len_eq (by simp) | exact int_eq (by simp; done), by first | rfl | exact int_eq (by omega) | exact len_eq (by simp) | exact int_eq (by simp; done), by first | rfl | exact int_eq (by omega) | exact len_eq (by simp) | exact int_eq (by simp; done), by first | rfl | exact int_eq (by omega) | exact len_eq (by simp) | exact int_eq (by simp; done), by first | rfl | exact int_eq (by omega) | exact len_eq (by simp) | exact int_eq (by simp; done), trivial⟩
          · exact HLe.cons' (by simp [Ct.enc, List.map_set]) (HLe.refl _)
        · try simp only [Bool.or_eq_true, Bool.or_eq_false_iff, Bool.and_eq_true, Bool.and_eq_false_iff, decide_eq_true_eq, decide_eq_false_iff_not, Bool.not_eq_true', Bool.not_eq_false', Int.not_lt, Int.not_le, List.length_map] at hc34
          refine W.exit ?_
          refine W.region ?_
          refine XOps.s rfl rfl rfl (Q.move_d rfl) ?_
          refine XOps.s rfl rfl rfl (Q.add rfl rfl (wi64 (by first | omega | (dsimp only; omega) | (simp only [List.length_map]; omega)) (by first | omega | (dsimp only; omega) | (simp only [List.length_map]; omega)))) ?_
          refine XOps.s rfl rfl rfl (Q.assign_d rfl) ?_
          refine XOps.nil ?_
          refine ⟨(i + 1, q), ?_, ?_, ?_, ?_⟩
          · exact hqp
          · dsimp only; omega
          · exact ⟨by first | rfl | exact int_eq (by omega) | exact len_eq (by simp) | exact int_eq (by simp; done), by first | rfl | exact int_eq (by omega) | exact len_eq (by simp) | exact int_eq (by simp; done), by first | rfl | exact int_eq (by omega) | exact len_eq (by simp) | exact int_eq (by simp; done), by first | rfl | exact int_eq (by omega) | exact len_eq (by simp) | exact int_eq (by simp; done), by first | rfl | exact int_eq (by omega) | exact len_eq (by simp) | exact int_eq (by simp; done), trivial⟩
          · repeat (first | exact HLe.refl _ | refine HLe.cons' (by first | rfl | (simp; done)) ?_ | refine HLe.pick 1 rfl (by first | rfl | (simp; done)) ?_ | refine HLe.pick 2 rfl (by first | rfl | (simp; done)) ?_ | refine HLe.pick 3 rfl (by first | rfl | (simp; done)) ?_ | refine HLe.pick 4 rfl (by first | rfl | (simp; done)) ?_ | refine HLe.pick 5 rfl (by first | rfl | (simp; done)) ?_ | refine HLe.skip _ ?_)
    · try simp only [Bool.or_eq_true, Bool.or_eq_false_iff, Bool.and_eq_true, Bool.and_eq_false_iff, decide_eq_true_eq, decide_eq_false_iff_not, Bool.not_eq_true', Bool.not_eq_false', Int.not_lt, Int.not_le, List.length_map] at hc14
      refine W.exit ?_
      exact ⟨_, (id, .lst 3 (p.map Ct.enc)) :: hs, rfl, HLe.refl _, rfl, p, hpp, rfl⟩

set_option maxHeartbeats 1000000 in
set_option maxRecDepth 100000 in
theorem stable_c {fn : Func} (f id : Nat) (c : Ct → Ct → Int) (l : List Ct) (hs : Hp) (hL : l.length < 20) (hf : P.funcs[f]? = some fn) (hgo : callGo fn = true) (hp : ∀ x ∈ l, ∀ y ∈ l, ∀ hs, AC P f [.d (.agg x.enc), .d (.agg y.enc)] hs (fun r h => r = .d (.int .i64 (c x y)) ∧ h = hs)) : AC P 30 [.vs id 0 l.length 3, .d (.int .i64 l.length), .fn f []] ((id, .lst 3 (l.map Ct.enc)) :: hs) (fun r h => r = .tup [] ∧ ∃ p : List Ct, p.Perm l ∧ h = (id, .lst 3 (p.map Ct.enc)) :: hs) := by
  refine AC.of 63 Try.func30 rfl rfl rfl ?_
  refine W.reg ?_
  refine XOps.s rfl rfl rfl (Q.assign_d rfl) ?_
  refine XOps.nil ?_
  refine W.reg ?_
  refine XOps.s rfl rfl rfl (Q.move_d rfl) ?_
  refine XOps.s rfl rfl rfl (Q.assign_d rfl) ?_
  refine XOps.s rfl rfl rfl (Q.assign_d rfl) ?_
  refine XOps.nil ?_
  refine W.seq ?_
  refine W.block ?_
  refine W.loop (ι := Nat) (fun z => [(0, .vs id 0 l.length 3), (1, .d (.int .i64 l.length)), (2, .fn f []), (6, .d (.int .i64 20)), (7, .d (.int .i64 0)), (8, .d (.int .i64 20))]) (fun z => (id, .lst 3 (l.map Ct.enc)) :: hs) (fun z => True) (fun z => 0) 0 ?_ ?_ ?_ ?_
  · trivial
  · exact ⟨by first | rfl | exact int_eq (by omega) | exact len_eq (by simp) | exact int_eq (by simp; done), by first | rfl | exact int_eq (by omega) | exact len_eq (by simp) | exact int_eq (by simp; done), by first | rfl | exact int_eq (by omega) | exact len_eq (by simp) | exact int_eq (by simp; done), by first | rfl | exact int_eq (by omega) | exact len_eq (by simp) | exact int_eq (by simp; done), by first | rfl | exact int_eq (by omega) | exact len_eq (by simp) | exact int_eq (by simp; done), by first | rfl | exact int_eq (by omega) | exact len_eq (by simp) | exact int_eq (by simp; done), trivial⟩
  · repeat (first | exact HLe.refl _ | refine HLe.cons' (by first | rfl | (simp; done)) ?_ | refine HLe.pick 1 rfl (by first | rfl | (simp; done)) ?_ | refine HLe.pick 2 rfl (by first | rfl | (simp; done)) ?_ | refine HLe.pick 3 rfl (by first | rfl | (simp; done)) ?_ | refine HLe.pick 4 rfl (by first | rfl | (simp; done)) ?_ | refine HLe.pick 5 rfl (by first | rfl | (simp; done)) ?_ | refine HLe.skip _ ?_)
  · rintro z _
    try dsimp only
    refine W.seq ?_
    refine W.reg ?_
    refine XOps.s rfl rfl rfl (Q.move_d rfl) ?_
    refine XOps.s rfl rfl rfl (Q.move_d rfl) ?_
    refine XOps.s rfl rfl rfl (Q.leq rfl rfl) ?_
    refine XOps.nil ?_
    refine W.cond rfl (fun hc13 => ?_) (fun hc13 => ?_)
    · try simp only [Bool.or_eq_true, Bool.or_eq_false_iff, Bool.and_eq_true, Bool.and_eq_false_iff, decide_eq_true_eq, decide_eq_false_iff_not, Bool.not_eq_true', Bool.not_eq_false', Int.not_lt, Int.not_le, List.length_map] at hc13
      exact absurd hc13 (by omega)
    · try simp only [Bool.or_eq_true, Bool.or_eq_false_iff, Bool.and_eq_true, Bool.and_eq_false_iff, decide_eq_true_eq, decide_eq_false_iff_not, Bool.not_eq_true', Bool.not_eq_false', Int.not_lt, Int.not_le, List.length_map] at hc13
      refine W.exit ?_
      refine W.reg ?_
      refine XOps.s rfl rfl rfl (Q.move_vs rfl) ?_
      refine XOps.s rfl rfl rfl (Q.move_d rfl) ?_
      refine XOps.s rfl rfl rfl (Q.move_d rfl) ?_
      refine XOps.s rfl rfl rfl (Q.move_fn rfl) ?_
      (refine XOps.loud rfl (L.call rfl Try.func33 go33 rfl (isort_c f id c l _ hL hf hgo hp) rfl) ?_; rintro _ _ ⟨_, rfl, rfl, p, hpp, rfl⟩)
      refine XOps.nil ?_
      refine W.block ?_
      refine W.loop (ι := Nat) (fun z => [(0, .vs id 0 l.length 3), (1, .d (.int .i64 l.length)), (2, .fn f []), (6, .d (.int .i64 20))]) (fun z => (id, .lst 3 (p.map Ct.enc)) :: hs) (fun z => True) (fun z => 0) 0 ?_ ?_ ?_ ?_
      · trivial
      · exact ⟨by first | rfl | exact int_eq (by omega) | exact len_eq (by simp) | exact int_eq (by simp; done), by first | rfl | exact int_eq (by omega) | exact len_eq (by simp) | exact int_eq (by simp; done), by first | rfl | exact int_eq (by omega) | exact len_eq (by simp) | exact int_eq (by simp; done), by first | rfl | exact int_eq (by omega) | exact len_eq (by simp) | exact int_eq (by simp; done), trivial⟩
      · repeat (first | exact HLe.refl _ | refine HLe.cons' (by first | rfl | (simp; done)) ?_ | refine HLe.pick 1 rfl (by first | rfl | (simp; done)) ?_ | refine HLe.pick 2 rfl (by first | rfl | (simp; done)) ?_ | refine HLe.pick 3 rfl (by first | rfl | (simp; done)) ?_ | refine HLe.pick 4 rfl (by first | rfl | (simp; done)) ?_ | refine HLe.pick 5 rfl (by first | rfl | (simp; done)) ?_ | refine HLe.skip _ ?_)
      · rintro z _
        try dsimp only
        refine W.seq ?_
        refine W.reg ?_
        refine XOps.s rfl rfl rfl (Q.move_d rfl) ?_
        refine XOps.s rfl rfl rfl (Q.move_d rfl) ?_
        refine XOps.s rfl rfl rfl (Q.lss rfl rfl) ?_
        refine XOps.nil ?_
        refine W.cond rfl (fun hc30 => ?_) (fun hc30 => ?_)
        · try simp only [Bool.or_eq_true, Bool.or_eq_false_iff, Bool.and_eq_true, Bool.and_eq_false_iff, decide_eq_true_eq, decide_eq_false_iff_not, Bool.not_eq_true', Bool.not_eq_false', Int.not_lt, Int.not_le, List.length_map] at hc30
          exact absurd hc30 (by have := hpp.length_eq; omega)
        · try simp only [Bool.or_eq_true, Bool.or_eq_false_iff, Bool.and_eq_true, Bool.and_eq_false_iff, decide_eq_true_eq, decide_eq_false_iff_not, Bool.not_eq_true', Bool.not_eq_false', Int.not_lt, Int.not_le, List.length_map] at hc30
          refine W.exit ?_
          exact ⟨_, (id, .lst 3 (p.map Ct.enc)) :: hs, rfl, HLe.refl _, rfl, p, hpp, rfl⟩

set_option maxHeartbeats 1000000 in
set_option maxRecDepth 100000 in
theorem sort_c {fn : Func} (f id : Nat) (c : Ct → Ct → Int) (l : List Ct) (hs : Hp) (hL : l.length < 20) (hf : P.funcs[f]? = some fn) (hgo : callGo fn = true) (hp : ∀ x ∈ l, ∀ y ∈ l, ∀ hs, AC P f [.d (.agg x.enc), .d (.agg y.enc)] hs (fun r h => r = .d (.int .i64 (c x y)) ∧ h = hs)) : AC P 21 [.vs id 0 l.length 3, .fn f []] ((id, .lst 3 (l.map Ct.enc)) :: hs) (fun r h => r = .tup [] ∧ ∃ p : List Ct, p.Perm l ∧ h = (id, .lst 3 (p.map Ct.enc)) :: hs) := by
  refine AC.of 9 Try.func21 rfl rfl rfl ?_
  refine W.region ?_
  refine XOps.s rfl rfl rfl (Q.move_vs rfl) ?_
  refine XOps.s rfl rfl rfl (Q.move_vs rfl) ?_
  refine XOps.s rfl rfl rfl (Q.len_vs isl22 rfl) ?_
  refine XOps.s rfl rfl rfl (Q.move_fn rfl) ?_
  (refine XOps.loud rfl (L.call rfl Try.func30 go30 rfl (stable_c f id c l _ hL hf hgo hp) rfl) ?_; rintro _ _ ⟨_, rfl, rfl, p, hpp, rfl⟩)
  refine XOps.nil ?_
  exact ⟨_, (id, .lst 3 (p.map Ct.enc)) :: hs, rfl, HLe.refl _, rfl, p, hpp, rfl⟩

set_option maxHeartbeats 1000000 in
set_option maxRecDepth 100000 in
theorem lost_c (b id : Nat) (l : List Ct) (a g : Int) (hs : Hp) (hok : okC l) (hl : l.length < 20) (ha : 0 ≤ a ∧ a ≤ 1000) : AC P 13 [.ptr b 0, .d (.int .i64 a), .d (.int .i64 g)] (stC b l id hs) (fun r h => ∃ (v : Nat) (p : List Ct), r = .vs v 0 p.length 3 ∧ p.Perm (lostS l a g) ∧ h = (v, .lst 3 (p.map Ct.enc)) :: stC b l id hs) := by
  refine AC.of 45 Try.func13 rfl rfl rfl ?_
  refine W.reg ?_
  refine XOps.s rfl rfl rfl (Q.assign_nilsl rfl) ?_
  refine XOps.nil ?_
  refine W.reg ?_
  refine XOps.s rfl rfl rfl (Q.assign_nilsl rfl) ?_
  refine XOps.nil ?_
  refine W.seq ?_
  refine W.reg ?_
  refine XOps.s rfl rfl rfl (Q.move_ptr rfl) ?_
  refine XOps.s rfl rfl rfl (Q.nil_ptr rfl) ?_
  refine XOps.s rfl rfl rfl (Q.fld_ptr fl41_0 rfl) ?_
  refine XOps.s rfl rfl rfl (Q.ld_ptr (k := 0) ag22 rfl rfl rfl) ?_
  refine XOps.s rfl rfl rfl (Q.len_vs isl22 rfl) ?_
  refine XOps.s rfl rfl rfl (Q.move_d rfl) ?_
  refine XOps.nil ?_
  refine W.ghost 7 3 (by decide) rfl rfl (fun v0 => ?_)
  refine W.block ?_
  refine W.loop (ι := Nat × Nat) (fun p => [(0, .ptr b 0), (1, .d (.int .i64 a)), (2, .d (.int .i64 g)), (7, .vs p.2 0 (lostS (l.take p.1) a g).length 3), (13, .vs id 0 l.length 3), (14, .d (.int .i64 l.length)), (15, .d (.int .i64 p.1))]) (fun p => (p.2, .lst 3 ((lostS (l.take p.1) a g).map Ct.enc)) :: stC b l id hs) (fun p => p.1 ≤ l.length) (fun p => l.length - p.1) (0, v0) ?_ ?_ ?_ ?_
  · exact Nat.zero_le _
  · exact ⟨by first | rfl | exact int_eq (by omega) | exact len_eq (by simp) | exact int_eq (by simp; done), by first | rfl | exact int_eq (by omega) | exact len_eq (by simp) | exact int_eq (by simp; done), by first | rfl | exact int_eq (by omega) | exact len_eq (by simp) | exact int_eq (by simp; done), by first | rfl | exact int_eq (by omega) | exact len_eq (by simp) | exact int_eq (by simp; done), by first | rfl | exact int_eq (by omega) | exact len_eq (by simp) | exact int_eq (by simp; done), by first | rfl | exact int_eq (by omega) | exact len_eq (by simp) | exact int_eq (by simp; done), by first | rfl | exact int_eq (by omega) | exact len_eq (by simp) | exact int_eq (by simp; done), trivial⟩
  · repeat (first | exact HLe.refl _ | refine HLe.cons' (by first | rfl | (simp [Ct.enc]; done)) ?_ | refine HLe.pick 1 rfl (by first | rfl | (simp [Ct.enc]; done)) ?_ | refine HLe.pick 2 rfl (by first | rfl | (simp [Ct.enc]; done)) ?_ | refine HLe.pick 3 rfl (by first | rfl | (simp [Ct.enc]; done)) ?_ | refine HLe.pick 4 rfl (by first | rfl | (simp [Ct.enc]; done)) ?_ | refine HLe.pick 5 rfl (by first | rfl | (simp [Ct.enc]; done)) ?_ | refine HLe.skip _ ?_)
  · rintro ⟨k, v⟩ hk
    try dsimp only at hk ⊢
    refine W.reg ?_
    refine XOps.s rfl rfl rfl (Q.lss rfl rfl) ?_
    refine XOps.nil ?_
    refine W.seq ?_
    refine W.cond rfl (fun hc16 => ?_) (fun hc16 => ?_)
    · try simp only [Bool.or_eq_true, Bool.or_eq_false_iff, Bool.and_eq_true, Bool.and_eq_false_iff, decide_eq_true_eq, decide_eq_false_iff_not, Bool.not_eq_true', Bool.not_eq_false', Int.not_lt, Int.not_le, List.length_map] at hc16
      obtain ⟨x, hx⟩ : ∃ x, l[k]? = some x := ⟨_, List.getElem?_eq_getElem (by omega)⟩
      have hst := lostS_take (a := a) (g := g) hx
      have hol := lostS_len (l.take k) a g
      have hxt := (hok.val x (List.mem_of_getElem? hx)).2
      have htl : (l.take k).length ≤ 20 := by rw [List.length_take]; omega
      refine W.skip ?_
      refine W.seq ?_
      refine W.block ?_
      refine W.reg ?_
      refine XOps.s rfl rfl rfl (Q.idx_vs (kk := 2) sl22 rfl rfl rfl (by first | omega | (simp at hg; omega)) (by first | omega | (dsimp only; omega))) ?_
      refine XOps.s rfl rfl rfl (Q.ld_epn (k := 2) ag27 rfl rfl (by exact map_at0 hx) rfl) ?_
      (refine XOps.loud rfl (L.alloc tz27 rfl rfl) ?_; rintro _ _ ⟨b9, rfl, rfl⟩)
      refine XOps.loud rfl (L.storen (k := 0) ag27 rfl rfl rfl rfl rfl) ?_
      rintro _ _ ⟨rfl, rfl⟩
      refine XOps.nil ?_
      refine W.reg ?_
      refine XOps.s rfl rfl rfl (Q.move_d rfl) ?_
      refine XOps.s rfl rfl rfl (Q.geq rfl rfl) ?_
      refine XOps.s rfl rfl rfl (Q.move_d rfl) ?_
      refine XOps.gs rfl rfl rfl rfl rfl rfl rfl (fun hg => Q.move_d rfl) ?_
      refine XOps.gs rfl rfl rfl rfl rfl rfl rfl (fun hg => Quiet.open 22 hg rfl (Q.leq rfl rfl)) ?_
      refine XOps.s rfl rfl rfl (Q.pick_and rfl rfl rfl (fun h => by first | (rw [h]; rfl) | (rw [hg, h]; rfl) | (simp [h, hg]; done))) ?_
      refine XOps.s rfl rfl rfl (Q.move_d rfl) ?_
      refine XOps.gs rfl rfl rfl rfl rfl rfl rfl (fun hg => Q.move_d rfl) ?_
      refine XOps.gs rfl rfl rfl rfl rfl rfl rfl (fun hg => Quiet.open 26 hg rfl (Q.geq rfl rfl)) ?_
      refine XOps.s rfl rfl rfl (Q.pick_and rfl rfl rfl (fun h => by first | (rw [h]; rfl) | (rw [hg, h]; rfl) | (simp [h, hg]; done))) ?_
      refine XOps.s rfl rfl rfl (Q.move_d rfl) ?_
      refine XOps.gs rfl rfl rfl rfl rfl rfl rfl (fun hg => Q.move_d rfl) ?_
      refine XOps.gs rfl rfl rfl rfl rfl rfl rfl (fun hg => Q.fld_ptr fl27_2 rfl) ?_
      refine XOps.gs rfl rfl rfl rfl rfl rfl rfl (fun hg => Quiet.open 31 hg rfl (Q.ld_ptr (k := 0) ag3 rfl rfl rfl)) ?_
      refine XOps.gs rfl rfl rfl rfl rfl rfl rfl (fun hg => Quiet.open 30 hg rfl (Quiet.open 32 hg rfl (Q.sub rfl rfl (wi64 (by first | omega | (dsimp only; omega) | (simp only [List.length_map]; omega)) (by first | omega | (dsimp only; omega) | (simp only [List.length_map]; omega)))))) ?_
      refine XOps.gs rfl rfl rfl rfl rfl rfl rfl (fun hg => Q.move_d rfl) ?_
      refine XOps.gs rfl rfl rfl rfl rfl rfl rfl (fun hg => Quiet.open 33 hg rfl (Quiet.open 34 hg rfl (Q.gtr rfl rfl))) ?_
      refine XOps.s rfl rfl rfl (Q.pick_and rfl rfl rfl (fun h => by first | (rw [h]; rfl) | (rw [hg, h]; rfl) | (simp [h, hg]; done))) ?_
      refine XOps.nil ?_
      refine W.cond rfl (fun hc36 => ?_) (fun hc36 => ?_)
      · try simp only [Bool.or_eq_true, Bool.or_eq_false_iff, Bool.and_eq_true, Bool.and_eq_false_iff, decide_eq_true_eq, decide_eq_false_iff_not, Bool.not_eq_true', Bool.not_eq_false', Int.not_lt, Int.not_le, List.length_map] at hc36
        have h36 : lostP a g x = true := by unfold lostP; simpa [and_assoc] using hc36
        rw [if_pos h36] at hst
        refine W.region ?_
        refine XOps.s rfl rfl rfl (Q.move_vs rfl) ?_
        refine XOps.s rfl rfl rfl (Q.ld_ptrn (k := 0) ag27 rfl rfl rfl) ?_
        refine XOps.s rfl rfl rfl (Q.bsl1n sl22 (by decide) zr22 rfl zrd22 rfl rfl (by decide)) ?_
        refine XOps.loud rfl (L.app (k := 1) ap22 rfl rfl (by first | rfl | (simp [List.length_map]; done)) rfl (by simp; omega) rfl) ?_
        rintro _ _ ⟨v40, rfl, rfl⟩
        refine XOps.s rfl rfl rfl (Q.assign_vs rfl) ?_
        refine XOps.nil ?_
        refine W.region ?_
        refine XOps.s rfl rfl rfl (Q.add rfl rfl (wi64 (by first | omega | (dsimp only; omega) | (simp only [List.length_map]; omega)) (by first | omega | (dsimp only; omega) | (simp only [List.length_map]; omega)))) ?_
        refine XOps.s rfl rfl rfl (Q.move_d rfl) ?_
        refine XOps.nil ?_
        refine ⟨(k + 1, v40), ?_, ?_, ?_, ?_⟩
        · show k + 1 ≤ l.length; omega
        · show l.length - (k + 1) < l.length - k; omega
        · exact ⟨by first | rfl | exact int_eq (by omega) | exact len_eq (by simp) | exact int_eq (by simp; done), by first | rfl | exact int_eq (by omega) | exact len_eq (by simp) | exact int_eq (by simp; done), by first | rfl | exact int_eq (by omega) | exact len_eq (by simp) | exact int_eq (by simp; done), by first | rfl | (rw [hst]; rfl) | (rw [hst]; dsimp only; exact vs_eq (by simp)), by first | rfl | exact int_eq (by omega) | exact len_eq (by simp) | exact int_eq (by simp; done), by first | rfl | exact int_eq (by omega) | exact len_eq (by simp) | exact int_eq (by simp; done), by first | rfl | exact int_eq (by omega) | exact len_eq (by simp) | exact int_eq (by simp; done), trivial⟩
        · try dsimp only
          rw [hst]
          try dsimp only
          repeat (first | exact HLe.refl _ | refine HLe.cons' (by first | rfl | (simp [Ct.enc]; done)) ?_ | refine HLe.pick 1 rfl (by first | rfl | (simp [Ct.enc]; done)) ?_ | refine HLe.pick 2 rfl (by first | rfl | (simp [Ct.enc]; done)) ?_ | refine HLe.pick 3 rfl (by first | rfl | (simp [Ct.enc]; done)) ?_ | refine HLe.pick 4 rfl (by first | rfl | (simp [Ct.enc]; done)) ?_ | refine HLe.pick 5 rfl (by first | rfl | (simp [Ct.enc]; done)) ?_ | refine HLe.skip _ ?_)
      · try simp only [Bool.or_eq_true, Bool.or_eq_false_iff, Bool.and_eq_true, Bool.and_eq_false_iff, decide_eq_true_eq, decide_eq_false_iff_not, Bool.not_eq_true', Bool.not_eq_false', Int.not_lt, Int.not_le, List.length_map] at hc36
        have h36 : ¬ lostP a g x = true := by unfold lostP; intro h; simp at h; omega
        rw [if_neg h36] at hst
        refine W.skip ?_
        refine W.region ?_
        refine XOps.s rfl rfl rfl (Q.add rfl rfl (wi64 (by first | omega | (dsimp only; omega) | (simp only [List.length_map]; omega)) (by first | omega | (dsimp only; omega) | (simp only [List.length_map]; omega)))) ?_
        refine XOps.s rfl rfl rfl (Q.move_d rfl) ?_
        refine XOps.nil ?_
        refine ⟨(k + 1, v), ?_, ?_, ?_, ?_⟩
        · show k + 1 ≤ l.length; omega
        · show l.length - (k + 1) < l.length - k; omega
        · exact ⟨by first | rfl | exact int_eq (by omega) | exact len_eq (by simp) | exact int_eq (by simp; done), by first | rfl | exact int_eq (by omega) | exact len_eq (by simp) | exact int_eq (by simp; done), by first | rfl | exact int_eq (by omega) | exact len_eq (by simp) | exact int_eq (by simp; done), by first | rfl | (rw [hst]; rfl) | (rw [hst]; dsimp only; exact vs_eq (by simp)), by first | rfl | exact int_eq (by omega) | exact len_eq (by simp) | exact int_eq (by simp; done), by first | rfl | exact int_eq (by omega) | exact len_eq (by simp) | exact int_eq (by simp; done), by first | rfl | exact int_eq (by omega) | exact len_eq (by simp) | exact int_eq (by simp; done), trivial⟩
        · try dsimp only
          rw [hst]
          try dsimp only
          repeat (first | exact HLe.refl _ | refine HLe.cons' (by first | rfl | (simp [Ct.enc]; done)) ?_ | refine HLe.pick 1 rfl (by first | rfl | (simp [Ct.enc]; done)) ?_ | refine HLe.pick 2 rfl (by first | rfl | (simp [Ct.enc]; done)) ?_ | refine HLe.pick 3 rfl (by first | rfl | (simp [Ct.enc]; done)) ?_ | refine HLe.pick 4 rfl (by first | rfl | (simp [Ct.enc]; done)) ?_ | refine HLe.pick 5 rfl (by first | rfl | (simp [Ct.enc]; done)) ?_ | refine HLe.skip _ ?_)
    · try simp only [Bool.or_eq_true, Bool.or_eq_false_iff, Bool.and_eq_true, Bool.and_eq_false_iff, decide_eq_true_eq, decide_eq_false_iff_not, Bool.not_eq_true', Bool.not_eq_false', Int.not_lt, Int.not_le, List.length_map] at hc16
      obtain rfl : k = l.length := by omega
      rw [List.take_length]
      have hol := lostS_len l a g
      have hmem : ∀ x ∈ lostS l a g, 0 ≤ x.t ∧ x.t ≤ 200000 := fun x hx => (hok.val x (List.mem_filter.1 hx).1).2
      refine W.exit ?_
      refine W.reg ?_
      refine XOps.s rfl rfl rfl (Q.move_vs rfl) ?_
      (refine XOps.loud rfl (L.call rfl Try.func21 go21 rfl (sort_c 22 v (fun x y => x.t - y.t) (lostS l a g) _ (by omega) Try.func22 go22 (fun x hx y hy hs => cmpT_c x y hs (hmem x hx) (hmem y hy))) rfl) ?_; rintro _ _ ⟨_, rfl, rfl, p, hpp, rfl⟩)
      refine XOps.nil ?_
      refine W.reg ?_
      refine XOps.s rfl rfl rfl (Q.move_vs rfl) ?_
      refine XOps.s rfl rfl rfl (Q.assign_vs rfl) ?_
      refine XOps.nil ?_
      refine W.ret ?_
      exact ⟨_, (v, .lst 3 (p.map Ct.enc)) :: stC b l id hs, rfl, HLe.refl _, v, p, vs_eq hpp.length_eq.symm, hpp, rfl⟩

set_option maxHeartbeats 1000000 in
set_option maxRecDepth 100000 in
theorem indexC_c (l : List Ct) (v : Ct) (hs : Hp) (hL : l.length ≤ 4611686018427387904) : AC P 23 [.d (.sl 3 (l.map Ct.enc)), .d (.agg v.enc)] hs (fun r h => r = .d (.int .i64 (idxP (fun y => sameC v y) l)) ∧ h = hs) := by
  refine AC.of 19 Try.func23 rfl rfl rfl ?_
  refine W.reg ?_
  refine XOps.loud rfl (L.boxn rfl rfl) ?_
  rintro _ _ ⟨b3, rfl, rfl⟩
  refine XOps.s rfl rfl rfl (Q.assign_d rfl) ?_
  refine XOps.nil ?_
  refine W.seq ?_
  refine W.reg ?_
  refine XOps.s rfl rfl rfl (Q.move_d rfl) ?_
  refine XOps.s rfl rfl rfl (Q.len_sl isl22 rfl) ?_
  refine XOps.s rfl rfl rfl (Q.move_d rfl) ?_
  refine XOps.nil ?_
  refine W.block ?_
  refine W.loop (ι := Nat) (fun k => [(0, .d (.sl 3 (l.map Ct.enc))), (3, .ptr b3 0), (7, .d (.int .i64 l.length)), (8, .d (.int .i64 (k : Nat)))]) (fun k => (b3, .cells (v.enc.map .d)) :: hs) (fun k => k ≤ l.length ∧ ∀ (i : Nat) x, i < k → l[i]? = some x → sameC v x = false) (fun k => l.length - k) 0 ?_ ?_ ?_ ?_
  · exact ⟨Nat.zero_le _, fun i x h => absurd h (Nat.not_lt_zero _)⟩
  · exact ⟨by first | rfl | exact int_eq (by omega) | exact len_eq (by simp) | exact int_eq (by simp; done), by first | rfl | exact int_eq (by omega) | exact len_eq (by simp) | exact int_eq (by simp; done), by first | rfl | exact int_eq (by omega) | exact len_eq (by simp) | exact int_eq (by simp; done), by first | rfl | exact int_eq (by omega) | exact len_eq (by simp) | exact int_eq (by simp; done), trivial⟩
  · repeat (first | exact HLe.refl _ | refine HLe.cons' (by first | rfl | (simp; done)) ?_ | refine HLe.pick 1 rfl (by first | rfl | (simp; done)) ?_ | refine HLe.pick 2 rfl (by first | rfl | (simp; done)) ?_ | refine HLe.pick 3 rfl (by first | rfl | (simp; done)) ?_ | refine HLe.pick 4 rfl (by first | rfl | (simp; done)) ?_ | refine HLe.pick 5 rfl (by first | rfl | (simp; done)) ?_ | refine HLe.skip _ ?_)
  · rintro k ⟨hk, hI⟩
    try dsimp only
    refine W.reg ?_
    refine XOps.s rfl rfl rfl (Q.lss rfl rfl) ?_
    refine XOps.nil ?_
    refine W.seq ?_
    refine W.cond rfl (fun hc9 => ?_) (fun hc9 => ?_)
    · try simp only [decide_eq_true_eq, decide_eq_false_iff_not, Int.not_lt, Int.not_le, List.length_map] at hc9
      obtain ⟨x, hx⟩ : ∃ x, l[k]? = some x := ⟨_, List.getElem?_eq_getElem (by omega)⟩
      refine W.skip ?_
      refine W.seq ?_
      refine W.block ?_
      refine W.reg ?_
      refine XOps.s rfl rfl rfl (Q.move_d rfl) ?_
      refine XOps.s rfl rfl rfl (Q.assign_d rfl) ?_
      refine XOps.nil ?_
      refine W.drawreg 6 follows (by kernel_rfl) ?_
      refine Chain.cons _ (GQ.q rfl (Q.ld_ptrn (k := 0) ag27 rfl rfl rfl)) rfl ?_
      refine Chain.cons _ (GQ.q rfl (Q.move_d rfl)) rfl ?_
      refine Chain.cons _ (GQ.q rfl (Q.move_d rfl)) rfl ?_
      refine Chain.cons _ (GQ.q rfl (Q.idx_sl sl22 (by decide) rfl rfl (by first | omega | (simp only [List.length_map]; omega)) (by first | exact map_at (by assumption) | exact map_at0 (by assumption) | assumption))) rfl ?_
      refine Chain.cons _ (GQ.q rfl (Q.ld_dpn ag27 rfl rfl)) rfl ?_
      refine Chain.cons _ (GQ.q rfl (Q.eql_agg eqt27 rfl rfl rfl rfl rfl)) rfl ?_
      refine Chain.nil ?_
      refine XOps.nil ?_
      refine W.cond rfl (fun hc16 => ?_) (fun hc16 => ?_)
      · try simp only [decide_eq_true_eq, decide_eq_false_iff_not, Int.not_lt, Int.not_le, List.length_map] at hc16
        have hr := idxP_some (p := fun y => sameC v y) hx hc16 hI
        refine W.reg ?_
        refine XOps.s rfl rfl rfl (Q.move_d rfl) ?_
        refine XOps.s rfl rfl rfl (Q.assign_d rfl) ?_
        refine XOps.nil ?_
        refine W.ret ?_
        refine ⟨_, hs, rfl, by repeat (first | exact HLe.refl _ | refine HLe.cons' (by first | rfl | (simp; done)) ?_ | refine HLe.pick 1 rfl (by first | rfl | (simp; done)) ?_ | refine HLe.pick 2 rfl (by first | rfl | (simp; done)) ?_ | refine HLe.pick 3 rfl (by first | rfl | (simp; done)) ?_ | refine HLe.pick 4 rfl (by first | rfl | (simp; done)) ?_ | refine HLe.pick 5 rfl (by first | rfl | (simp; done)) ?_ | refine HLe.skip _ ?_), ?_, rfl⟩
        rw [hr]; rfl
      · try simp only [decide_eq_true_eq, decide_eq_false_iff_not, Int.not_lt, Int.not_le, List.length_map] at hc16
        refine W.skip ?_
        refine W.region ?_
        refine XOps.s rfl rfl rfl (Q.add rfl rfl (wi64 (by first | omega | (dsimp only; omega) | (simp only [List.length_map]; omega)) (by first | omega | (dsimp only; omega) | (simp only [List.length_map]; omega)))) ?_
        refine XOps.s rfl rfl rfl (Q.move_d rfl) ?_
        refine XOps.nil ?_
        refine ⟨k + 1, ?_, ?_, ?_, ?_⟩
        · refine ⟨by omega, fun i y h hy => ?_⟩
          rcases Nat.lt_or_ge i k with h2 | h2
          · exact hI i y h2 hy
          · obtain rfl : i = k := by omega
            rw [hx] at hy; obtain rfl := Option.some.inj hy; exact hc16
        · omega
        · exact ⟨by first | rfl | exact int_eq (by omega) | exact len_eq (by simp) | exact int_eq (by simp; done), by first | rfl | exact int_eq (by omega) | exact len_eq (by simp) | exact int_eq (by simp; done), by first | rfl | exact int_eq (by omega) | exact len_eq (by simp) | exact int_eq (by simp; done), by first | rfl | exact int_eq (by omega) | exact len_eq (by simp) | exact int_eq (by simp; done), trivial⟩
        · repeat (first | exact HLe.refl _ | refine HLe.cons' (by first | rfl | (simp; done)) ?_ | refine HLe.pick 1 rfl (by first | rfl | (simp; done)) ?_ | refine HLe.pick 2 rfl (by first | rfl | (simp; done)) ?_ | refine HLe.pick 3 rfl (by first | rfl | (simp; done)) ?_ | refine HLe.pick 4 rfl (by first | rfl | (simp; done)) ?_ | refine HLe.pick 5 rfl (by first | rfl | (simp; done)) ?_ | refine HLe.skip _ ?_)
    · try simp only [decide_eq_true_eq, decide_eq_false_iff_not, Int.not_lt, Int.not_le, List.length_map] at hc9
      have hr := idxP_none (p := fun y => sameC v y) (l := l) fun i x h => hI i x (by have := (List.getElem?_eq_some_iff.1 h).1; omega) h
      refine W.exit ?_
      refine W.reg ?_
      refine XOps.s rfl rfl rfl (Q.assign_d rfl) ?_
      refine XOps.nil ?_
      refine W.ret ?_
      refine ⟨_, hs, rfl, by repeat (first | exact HLe.refl _ | refine HLe.cons' (by first | rfl | (simp; done)) ?_ | refine HLe.pick 1 rfl (by first | rfl | (simp; done)) ?_ | refine HLe.pick 2 rfl (by first | rfl | (simp; done)) ?_ | refine HLe.pick 3 rfl (by first | rfl | (simp; done)) ?_ | refine HLe.pick 4 rfl (by first | rfl | (simp; done)) ?_ | refine HLe.pick 5 rfl (by first | rfl | (simp; done)) ?_ | refine HLe.skip _ ?_), ?_, rfl⟩
      rw [hr]; rfl

set_option maxHeartbeats 1000000 in
set_option maxRecDepth 100000 in
theorem containsC_c (l : List Ct) (v : Ct) (hs : Hp) (hL : l.length ≤ 4611686018427387904) : AC P 14 [.d (.sl 3 (l.map Ct.enc)), .d (.agg v.enc)] hs (fun r h => r = .d (.bool (l.any fun y => sameC v y)) ∧ h = hs) := by
  refine AC.of 9 Try.func14 rfl rfl rfl ?_
  refine W.reg ?_
  refine XOps.loud rfl (L.boxn rfl rfl) ?_
  rintro _ _ ⟨b3, rfl, rfl⟩
  refine XOps.s rfl rfl rfl (Q.assign_d rfl) ?_
  refine XOps.nil ?_
  refine W.reg ?_
  refine XOps.s rfl rfl rfl (Q.move_d rfl) ?_
  refine XOps.s rfl rfl rfl (Q.ld_ptrn (k := 0) ag27 rfl rfl rfl) ?_
  refine XOps.s rfl rfl rfl (Q.call rfl Try.func23 go23 rfl (indexC_c l v _ hL)) ?_
  refine XOps.s rfl rfl rfl (Q.geq rfl rfl) ?_
  refine XOps.s rfl rfl rfl (Q.assign_d rfl) ?_
  refine XOps.nil ?_
  refine W.ret ?_
  refine ⟨_, hs, rfl, by repeat (first | exact HLe.refl _ | refine HLe.cons' (by first | rfl | (simp; done)) ?_ | refine HLe.pick 1 rfl (by first | rfl | (simp; done)) ?_ | refine HLe.pick 2 rfl (by first | rfl | (simp; done)) ?_ | refine HLe.pick 3 rfl (by first | rfl | (simp; done)) ?_ | refine HLe.pick 4 rfl (by first | rfl | (simp; done)) ?_ | refine HLe.pick 5 rfl (by first | rfl | (simp; done)) ?_ | refine HLe.skip _ ?_), ?_, rfl⟩
  rw [← idxP_any]; rfl

set_option maxHeartbeats 1000000 in
set_option maxRecDepth 100000 in
theorem cut_c (n lo hi : Int) (hs : Hp) (h0 : -1000000000000 ≤ lo) (h1 : lo ≤ hi) (h2 : hi ≤ 1000000000000) : AC P 12 [.d (.int .i64 n), .d (.int .i64 lo), .d (.int .i64 hi)] hs (fun r h => r = .d (.int .i64 (cutI n lo hi)) ∧ h = hs) := by
  refine AC.of 23 Try.func12 rfl rfl rfl ?_
  refine W.reg ?_
  refine XOps.s rfl rfl rfl (Q.assign_d rfl) ?_
  refine XOps.nil ?_
  refine W.reg ?_
  refine XOps.s rfl rfl rfl (Q.move_d rfl) ?_
  refine XOps.s rfl rfl rfl (Q.move_d rfl) ?_
  refine XOps.s rfl rfl rfl (Q.sub rfl rfl (wi64 (by first | omega | (dsimp only; omega) | (simp only [List.length_map]; omega)) (by first | omega | (dsimp only; omega) | (simp only [List.length_map]; omega)))) ?_
  refine XOps.s rfl rfl rfl (Q.add rfl rfl (wi64 (by first | omega | (dsimp only; omega) | (simp only [List.length_map]; omega)) (by first | omega | (dsimp only; omega) | (simp only [List.length_map]; omega)))) ?_
  refine XOps.s rfl rfl rfl (Q.assign_d rfl) ?_
  refine XOps.nil ?_
  refine W.reg ?_
  refine XOps.s rfl rfl rfl (Q.move_d rfl) ?_
  refine XOps.s rfl rfl rfl (Q.move_d rfl) ?_
  refine XOps.s rfl rfl rfl (Q.rem rfl rfl (by omega) rfl) ?_
  refine XOps.s rfl rfl rfl (Q.assign_d rfl) ?_
  refine XOps.nil ?_
  refine W.seq ?_
  have hm := cut_mod (n := n) (m := hi - lo + 1) (by omega) rfl
  have hm0 := Int.emod_nonneg n (by omega : hi - lo + 1 ≠ 0)
  have hm1 := Int.emod_lt_of_pos n (by omega : 0 < hi - lo + 1)
  generalize hT : n.tmod (hi - lo + 1) = t at hm ⊢
  refine W.reg ?_
  refine XOps.s rfl rfl rfl (Q.move_d rfl) ?_
  refine XOps.s rfl rfl rfl (Q.lss rfl rfl) ?_
  refine XOps.nil ?_
  refine W.cond rfl (fun hc16 => ?_) (fun hc16 => ?_)
  · try simp only [Bool.or_eq_true, Bool.or_eq_false_iff, Bool.and_eq_true, Bool.and_eq_false_iff, decide_eq_true_eq, decide_eq_false_iff_not, Bool.not_eq_true', Bool.not_eq_false', Int.not_lt, Int.not_le, List.length_map] at hc16
    rw [if_pos hc16] at hm
    refine W.region ?_
    refine XOps.s rfl rfl rfl (Q.move_d rfl) ?_
    refine XOps.s rfl rfl rfl (Q.move_d rfl) ?_
    refine XOps.s rfl rfl rfl (Q.add rfl rfl (wi64 (by first | omega | (dsimp only; omega) | (simp only [List.length_map]; omega)) (by first | omega | (dsimp only; omega) | (simp only [List.length_map]; omega)))) ?_
    refine XOps.s rfl rfl rfl (Q.assign_d rfl) ?_
    refine XOps.nil ?_
    refine W.reg ?_
    refine XOps.s rfl rfl rfl (Q.move_d rfl) ?_
    refine XOps.s rfl rfl rfl (Q.move_d rfl) ?_
    refine XOps.s rfl rfl rfl (Q.add rfl rfl (wi64 (by first | omega | (dsimp only; omega) | (simp only [List.length_map]; omega)) (by first | omega | (dsimp only; omega) | (simp only [List.length_map]; omega)))) ?_
    refine XOps.s rfl rfl rfl (Q.assign_d rfl) ?_
    refine XOps.nil ?_
    refine W.ret ?_
    refine ⟨_, hs, rfl, by repeat (first | exact HLe.refl _ | refine HLe.cons' (by first | rfl | (simp; done)) ?_ | refine HLe.pick 1 rfl (by first | rfl | (simp; done)) ?_ | refine HLe.pick 2 rfl (by first | rfl | (simp; done)) ?_ | refine HLe.pick 3 rfl (by first | rfl | (simp; done)) ?_ | refine HLe.pick 4 rfl (by first | rfl | (simp; done)) ?_ | refine HLe.pick 5 rfl (by first | rfl | (simp; done)) ?_ | refine HLe.skip _ ?_), ?_, rfl⟩
    exact int_eq (by unfold cutI; omega)
  · try simp only [Bool.or_eq_true, Bool.or_eq_false_iff, Bool.and_eq_true, Bool.and_eq_false_iff, decide_eq_true_eq, decide_eq_false_iff_not, Bool.not_eq_true', Bool.not_eq_false', Int.not_lt, Int.not_le, List.length_map] at hc16
    rw [if_neg (by omega)] at hm
    refine W.skip ?_
    refine W.reg ?_
    refine XOps.s rfl rfl rfl (Q.move_d rfl) ?_
    refine XOps.s rfl rfl rfl (Q.move_d rfl) ?_
    refine XOps.s rfl rfl rfl (Q.add rfl rfl (wi64 (by first | omega | (dsimp only; omega) | (simp only [List.length_map]; omega)) (by first | omega | (dsimp only; omega) | (simp only [List.length_map]; omega)))) ?_
    refine XOps.s rfl rfl rfl (Q.assign_d rfl) ?_
    refine XOps.nil ?_
    refine W.ret ?_
    refine ⟨_, hs, rfl, by repeat (first | exact HLe.refl _ | refine HLe.cons' (by first | rfl | (simp; done)) ?_ | refine HLe.pick 1 rfl (by first | rfl | (simp; done)) ?_ | refine HLe.pick 2 rfl (by first | rfl | (simp; done)) ?_ | refine HLe.pick 3 rfl (by first | rfl | (simp; done)) ?_ | refine HLe.pick 4 rfl (by first | rfl | (simp; done)) ?_ | refine HLe.pick 5 rfl (by first | rfl | (simp; done)) ?_ | refine HLe.skip _ ?_), ?_, rfl⟩
    exact int_eq (by unfold cutI; omega)

set_option maxHeartbeats 1000000 in
set_option maxRecDepth 100000 in
theorem heard_c (l : List Ct) (a g d : Int) (hs : Hp) (hL : l.length * 32 ≤ 140737488355328) (hc : ∀ x ∈ l, x.call.size ≤ 140737488351232) : AC P 4 [.d (.sl 3 (l.map Ct.enc)), .d (.int .i64 a), .d (.int .i64 g), .d (.int .i64 d)] hs (fun r h => r = .d (.bool true)) := by
  have hab := cutI_bounds a (show (0 : Int) ≤ 500 by decide)
  have hgb := cutI_bounds g (show (0 : Int) ≤ 100 by decide)
  have hdb := cutI_bounds d (show (0 : Int) ≤ 100 by decide)
  refine AC.of 91 Try.func4 rfl rfl rfl ?_
  refine W.reg ?_
  refine XOps.s rfl rfl rfl (Q.assign_d rfl) ?_
  refine XOps.nil ?_
  refine W.reg ?_
  (refine XOps.loud rfl (L.call rfl Try.func5 go5 rfl (new_c _) rfl) ?_; rintro _ _ ⟨_, rfl, b, id0, rfl, rfl⟩)
  refine XOps.s rfl rfl rfl (Q.assign_ptr rfl) ?_
  refine XOps.nil ?_
  refine W.seq ?_
  refine W.reg ?_
  refine XOps.s rfl rfl rfl (Q.move_ptr rfl) ?_
  refine XOps.s rfl rfl rfl (Q.eql_ptr ipt23 rfl rfl) ?_
  refine XOps.s rfl rfl rfl (Q.move_d rfl) ?_
  refine XOps.gs rfl rfl rfl rfl rfl rfl rfl (fun hg => Q.call rfl Try.func6 go6 rfl (valid_c 118000 _)) ?_
  refine XOps.gs rfl rfl rfl rfl rfl rfl rfl (fun hg => Quiet.open 22 hg rfl (Q.not rfl)) ?_
  refine XOps.s rfl rfl rfl (Q.pick_or rfl rfl rfl (fun h => by first | (rw [h]; rfl) | (rw [hg, h]; rfl) | (simp [h, hg]; done))) ?_
  refine XOps.s rfl rfl rfl (Q.move_d rfl) ?_
  refine XOps.gs rfl rfl rfl rfl rfl rfl rfl (fun hg => Q.call rfl Try.func6 go6 rfl (valid_c 118010 _)) ?_
  refine XOps.s rfl rfl rfl (Q.pick_or rfl rfl rfl (fun h => by first | (rw [h]; rfl) | (rw [hg, h]; rfl) | (simp [h, hg]; done))) ?_
  refine XOps.nil ?_
  refine W.cond rfl (fun hc27 => ?_) (fun hc27 => ?_)
  · try simp only [Bool.or_eq_true, Bool.or_eq_false_iff, Bool.and_eq_true, Bool.and_eq_false_iff, decide_eq_true_eq, decide_eq_false_iff_not, Bool.not_eq_true', Bool.not_eq_false', Int.not_lt, Int.not_le, List.length_map] at hc27
    exfalso; revert hc27; simp [validF] --done
  · try simp only [Bool.or_eq_true, Bool.or_eq_false_iff, Bool.and_eq_true, Bool.and_eq_false_iff, decide_eq_true_eq, decide_eq_false_iff_not, Bool.not_eq_true', Bool.not_eq_false', Int.not_lt, Int.not_le, List.length_map] at hc27
    refine W.skip ?_
    refine W.seq ?_
    refine W.reg ?_
    refine XOps.s rfl rfl rfl (Q.move_d rfl) ?_
    refine XOps.s rfl rfl rfl (Q.move_d rfl) ?_
    refine XOps.s rfl rfl rfl (Q.len_sl isl22 rfl) ?_
    refine XOps.s rfl rfl rfl (Q.mini rfl rfl) ?_
    refine XOps.s rfl rfl rfl (Q.cut_slm sl22 rfl rfl rfl (by omega) (by omega) (by simp; omega)) ?_
    refine XOps.s rfl rfl rfl (Q.len_sl isl22 rfl) ?_
    refine XOps.s rfl rfl rfl (Q.move_d rfl) ?_
    refine XOps.nil ?_
    refine W.block ?_
    refine W.loop (ι := Nat × Nat) (fun p => [(1, .d (.int .i64 a)), (2, .d (.int .i64 g)), (3, .d (.int .i64 d)), (9, .ptr b 0), (32, .d (.sl 3 ((l.take (min l.length 8)).map Ct.enc))), (33, .d (.int .i64 (min l.length 8 : Nat))), (34, .d (.int .i64 p.1))]) (fun p => stC b (tuneK l p.1) p.2 hs) (fun p => p.1 ≤ min l.length 8) (fun p => min l.length 8 - p.1) (0, id0) ?_ ?_ ?_ ?_
    · exact Nat.zero_le _
    · exact ⟨by first | rfl | exact int_eq (by omega) | exact len_eq (by simp) | exact int_eq (by simp; done), by first | rfl | exact int_eq (by omega) | exact len_eq (by simp) | exact int_eq (by simp; done), by first | rfl | exact int_eq (by omega) | exact len_eq (by simp) | exact int_eq (by simp; done), by first | rfl | exact int_eq (by omega) | exact len_eq (by simp) | exact int_eq (by simp; done), by exact congrArg (fun z => AV.d (.sl 3 z)) (cut12 8), by exact len_eq (by simp; omega), by first | rfl | exact int_eq (by omega) | exact len_eq (by simp) | exact int_eq (by simp; done), trivial⟩
    · repeat (first | exact HLe.refl _ | refine HLe.cons' (by first | rfl | (simp; done)) ?_ | refine HLe.pick 1 rfl (by first | rfl | (simp; done)) ?_ | refine HLe.pick 2 rfl (by first | rfl | (simp; done)) ?_ | refine HLe.pick 3 rfl (by first | rfl | (simp; done)) ?_ | refine HLe.pick 4 rfl (by first | rfl | (simp; done)) ?_ | refine HLe.pick 5 rfl (by first | rfl | (simp; done)) ?_ | refine HLe.skip _ ?_)
    · rintro ⟨k, id⟩ hk
      try dsimp only at hk ⊢
      refine W.reg ?_
      refine XOps.s rfl rfl rfl (Q.lss rfl rfl) ?_
      refine XOps.nil ?_
      refine W.seq ?_
      refine W.cond rfl (fun hc35 => ?_) (fun hc35 => ?_)
      · try simp only [Bool.or_eq_true, Bool.or_eq_false_iff, Bool.and_eq_true, Bool.and_eq_false_iff, decide_eq_true_eq, decide_eq_false_iff_not, Bool.not_eq_true', Bool.not_eq_false', Int.not_lt, Int.not_le, List.length_map] at hc35
        obtain ⟨x, hx⟩ : ∃ x, (l.take (min l.length 8))[k]? = some x := ⟨_, List.getElem?_eq_getElem (by simp; omega)⟩
        have hxl : l[k]? = some x := by rw [List.getElem?_take] at hx; split at hx <;> first | (cases hx; done) | exact hx
        have htk := tuneK_ok l k
        have hst := tuneK_succ hxl
        refine W.skip ?_
        refine W.seq ?_
        refine W.block ?_
        refine W.reg ?_
        refine XOps.s rfl rfl rfl (Q.idx_sl sl22 (by decide) rfl rfl (by first | omega | (simp only [List.length_map]; omega)) (by first | exact map_at hx | exact map_at0 hx)) ?_
        refine XOps.s rfl rfl rfl (Q.ld_dpn ag27 rfl rfl) ?_
        (refine XOps.loud rfl (L.alloc tz27 rfl rfl) ?_; rintro _ _ ⟨b11, rfl, rfl⟩)
        refine XOps.loud rfl (L.storen (k := 0) ag27 rfl rfl rfl rfl rfl) ?_
        rintro _ _ ⟨rfl, rfl⟩
        refine XOps.nil ?_
        refine W.region ?_
        refine XOps.s rfl rfl rfl (Q.move_ptr rfl) ?_
        refine XOps.s rfl rfl rfl (Q.fld_ptr fl27_0 rfl) ?_
        refine XOps.s rfl rfl rfl (Q.ld_ptr (k := 0) ag9 rfl rfl rfl) ?_
        refine XOps.s rfl rfl rfl (Q.fld_ptr fl27_1 rfl) ?_
        refine XOps.s rfl rfl rfl (Q.ld_ptr (k := 0) ag3 rfl rfl rfl) ?_
        refine XOps.s rfl rfl rfl (Q.fld_ptr fl27_2 rfl) ?_
        refine XOps.s rfl rfl rfl (Q.ld_ptr (k := 0) ag3 rfl rfl rfl) ?_
        (refine XOps.loud rfl (L.call rfl Try.func7 go7 rfl (AC.le (tune_c b id (tuneK l k) x.call x.f x.t ((b11, .cells (x.enc.map .d)) :: hs) htk.1 (by omega) (hc x (List.mem_of_getElem? hxl))) (HLe.pick 1 rfl rfl (HLe.pick 1 rfl rfl (HLe.refl _)))) rfl) ?_; rintro _ _ ⟨_, rfl, id2, rfl, rfl⟩)
        refine XOps.nil ?_
        refine W.region ?_
        refine XOps.s rfl rfl rfl (Q.add rfl rfl (wi64 (by first | omega | (dsimp only; omega) | (simp only [List.length_map]; omega)) (by first | omega | (dsimp only; omega) | (simp only [List.length_map]; omega)))) ?_
        refine XOps.s rfl rfl rfl (Q.move_d rfl) ?_
        refine XOps.nil ?_
        refine ⟨(k + 1, id2), ?_, ?_, ?_, ?_⟩
        · show k + 1 ≤ min l.length 8; omega
        · show min l.length 8 - (k + 1) < min l.length 8 - k; omega
        · exact ⟨by first | rfl | exact int_eq (by omega) | exact len_eq (by simp) | exact int_eq (by simp; done), by first | rfl | exact int_eq (by omega) | exact len_eq (by simp) | exact int_eq (by simp; done), by first | rfl | exact int_eq (by omega) | exact len_eq (by simp) | exact int_eq (by simp; done), by first | rfl | exact int_eq (by omega) | exact len_eq (by simp) | exact int_eq (by simp; done), by first | rfl | exact int_eq (by omega) | exact len_eq (by simp) | exact int_eq (by simp; done), by first | rfl | exact int_eq (by omega) | exact len_eq (by simp) | exact int_eq (by simp; done), by first | rfl | exact int_eq (by omega) | exact len_eq (by simp) | exact int_eq (by simp; done), trivial⟩
        · try dsimp only
          rw [hst]
          repeat (first | exact HLe.refl _ | refine HLe.cons' (by first | rfl | (simp; done)) ?_ | refine HLe.pick 1 rfl (by first | rfl | (simp; done)) ?_ | refine HLe.pick 2 rfl (by first | rfl | (simp; done)) ?_ | refine HLe.pick 3 rfl (by first | rfl | (simp; done)) ?_ | refine HLe.pick 4 rfl (by first | rfl | (simp; done)) ?_ | refine HLe.pick 5 rfl (by first | rfl | (simp; done)) ?_ | refine HLe.skip _ ?_)
      · try simp only [Bool.or_eq_true, Bool.or_eq_false_iff, Bool.and_eq_true, Bool.and_eq_false_iff, decide_eq_true_eq, decide_eq_false_iff_not, Bool.not_eq_true', Bool.not_eq_false', Int.not_lt, Int.not_le, List.length_map] at hc35
        obtain rfl : k = min l.length 8 := by omega
        have hMok := tuneK_ok l (min l.length 8)
        generalize hM : (tuneK l (min l.length 8)) = M at hMok ⊢
        refine W.exit ?_
        refine W.reg ?_
        refine XOps.s rfl rfl rfl (Q.move_d rfl) ?_
        refine XOps.s rfl rfl rfl (Q.call rfl Try.func12 go12 rfl (cut_c a 0 500 _ (by decide) (by decide) (by decide))) ?_
        refine XOps.s rfl rfl rfl (Q.move_d rfl) ?_
        refine XOps.s rfl rfl rfl (Q.call rfl Try.func12 go12 rfl (cut_c g 0 100 _ (by decide) (by decide) (by decide))) ?_
        refine XOps.s rfl rfl rfl (Q.assign_d rfl) ?_
        refine XOps.s rfl rfl rfl (Q.assign_d rfl) ?_
        refine XOps.nil ?_
        refine W.reg ?_
        refine XOps.s rfl rfl rfl (Q.move_ptr rfl) ?_
        refine XOps.s rfl rfl rfl (Q.move_d rfl) ?_
        refine XOps.s rfl rfl rfl (Q.move_d rfl) ?_
        refine XOps.loud rfl (L.call rfl Try.func13 go13 rfl (lost_c b id M (cutI a 0 500) (cutI g 0 100) hs hMok.1 (by omega) (by omega)) rfl) ?_
        rintro _ _ ⟨_, rfl, v, p, rfl, hpp, rfl⟩
        refine XOps.s rfl rfl rfl (Q.assign_vs rfl) ?_
        refine XOps.nil ?_
        have hpl : p.length ≤ 8 := by have := hpp.length_eq; have := lostS_len M (cutI a 0 500) (cutI g 0 100); omega
        refine W.freeze 12 0 rfl rfl (by simp) ?_
        refine W.seq ?_
        refine W.reg ?_
        refine XOps.s rfl rfl rfl (Q.move_ptr rfl) ?_
        (refine XOps.loud rfl (L.call rfl Try.func10 go10 rfl (list_c b id M _ (by omega)) rfl) ?_; rintro _ _ ⟨_, rfl, v56, rfl, rfl⟩)
        refine XOps.s rfl rfl rfl (Q.len_vs isl22 rfl) ?_
        refine XOps.s rfl rfl rfl (Q.move_d rfl) ?_
        refine XOps.nil ?_
        refine W.freeze 56 0 rfl rfl (by simp) ?_
        refine W.block ?_
        refine W.loop (ι := Nat) (fun k => [(1, .d (.int .i64 (cutI a 0 500))), (2, .d (.int .i64 (cutI g 0 100))), (3, .d (.int .i64 d)), (9, .ptr b 0), (12, .d (.sl 3 (p.map Ct.enc))), (56, .d (.sl 3 (M.map Ct.enc))), (57, .d (.int .i64 M.length)), (58, .d (.int .i64 k))]) (fun k => stC b M id hs) (fun k => k ≤ M.length) (fun k => M.length - k) 0 ?_ ?_ ?_ ?_
        · exact Nat.zero_le _
        · exact ⟨by first | rfl | exact int_eq (by omega) | exact len_eq (by simp) | exact int_eq (by simp; done), by first | rfl | exact int_eq (by omega) | exact len_eq (by simp) | exact int_eq (by simp; done), by first | rfl | exact int_eq (by omega) | exact len_eq (by simp) | exact int_eq (by simp; done), by first | rfl | exact int_eq (by omega) | exact len_eq (by simp) | exact int_eq (by simp; done), by first | rfl | exact int_eq (by omega) | exact len_eq (by simp) | exact int_eq (by simp; done), by first | rfl | exact int_eq (by omega) | exact len_eq (by simp) | exact int_eq (by simp; done), by first | rfl | exact int_eq (by omega) | exact len_eq (by simp) | exact int_eq (by simp; done), by first | rfl | exact int_eq (by omega) | exact len_eq (by simp) | exact int_eq (by simp; done), trivial⟩
        · repeat (first | exact HLe.refl _ | refine HLe.cons' (by first | rfl | (simp; done)) ?_ | refine HLe.pick 1 rfl (by first | rfl | (simp; done)) ?_ | refine HLe.pick 2 rfl (by first | rfl | (simp; done)) ?_ | refine HLe.pick 3 rfl (by first | rfl | (simp; done)) ?_ | refine HLe.pick 4 rfl (by first | rfl | (simp; done)) ?_ | refine HLe.pick 5 rfl (by first | rfl | (simp; done)) ?_ | refine HLe.skip _ ?_)
        · rintro k hk
          try dsimp only
          refine W.reg ?_
          refine XOps.s rfl rfl rfl (Q.lss rfl rfl) ?_
          refine XOps.nil ?_
          refine W.seq ?_
          refine W.cond rfl (fun hc59 => ?_) (fun hc59 => ?_)
          · try simp only [Bool.or_eq_true, Bool.or_eq_false_iff, Bool.and_eq_true, Bool.and_eq_false_iff, decide_eq_true_eq, decide_eq_false_iff_not, Bool.not_eq_true', Bool.not_eq_false', Int.not_lt, Int.not_le, List.length_map] at hc59
            obtain ⟨x, hx⟩ : ∃ x, M[k]? = some x := ⟨_, List.getElem?_eq_getElem (by simp at hc59; omega)⟩
            have hxM := List.mem_of_getElem? hx
            have hxv := (hMok.1.val x hxM).2
            have han := any_lost (a := (cutI a 0 500)) (g := (cutI g 0 100)) hpp (by omega) (by omega) hxM
            refine W.skip ?_
            refine W.seq ?_
            refine W.block ?_
            refine W.reg ?_
            refine XOps.s rfl rfl rfl (Q.idx_sl sl22 (by decide) rfl rfl (by first | omega | (simp only [List.length_map]; omega)) (by first | exact map_at hx | exact map_at0 hx)) ?_
            refine XOps.s rfl rfl rfl (Q.ld_dpn ag27 rfl rfl) ?_
            (refine XOps.loud rfl (L.alloc tz27 rfl rfl) ?_; rintro _ _ ⟨b14, rfl, rfl⟩)
            refine XOps.loud rfl (L.storen (k := 0) ag27 rfl rfl rfl rfl rfl) ?_
            rintro _ _ ⟨rfl, rfl⟩
            refine XOps.nil ?_
            refine W.drawreg 10 follows (by kernel_rfl) ?_
            refine Chain.cons _ (GQ.q rfl (Q.move_d rfl)) rfl ?_
            refine Chain.cons _ (GQ.q rfl (Q.ld_ptrn (k := 0) ag27 rfl rfl rfl)) rfl ?_
            refine Chain.cons _ (GQ.q rfl (Q.call rfl Try.func14 go14 rfl (containsC_c p x _ (by omega)))) rfl ?_
            refine Chain.cons _ (GQ.q rfl (Q.move_d rfl)) rfl ?_
            refine Chain.cons _ (GQ.q rfl (Q.fld_ptr fl27_2 rfl)) rfl ?_
            refine Chain.cons _ (GQ.q rfl (Q.ld_ptr (k := 0) ag3 rfl rfl rfl)) rfl ?_
            refine Chain.cons _ (GQ.q rfl (Q.sub rfl rfl (wi64 (by first | omega | (dsimp only; omega) | (simp only [List.length_map]; omega)) (by first | omega | (dsimp only; omega) | (simp only [List.length_map]; omega))))) rfl ?_
            refine Chain.cons _ (GQ.q rfl (Q.move_d rfl)) rfl ?_
            refine Chain.cons _ (GQ.q rfl (Q.gtr rfl rfl)) rfl ?_
            refine Chain.cons _ (GQ.q rfl (Q.neq_bool isb4 rfl rfl)) rfl ?_
            refine Chain.nil ?_
            refine XOps.nil ?_
            refine W.cond rfl (fun hc71 => ?_) (fun hc71 => ?_)
            · try simp only [Bool.or_eq_true, Bool.or_eq_false_iff, Bool.and_eq_true, Bool.and_eq_false_iff, decide_eq_true_eq, decide_eq_false_iff_not, Bool.not_eq_true', Bool.not_eq_false', Int.not_lt, Int.not_le, List.length_map] at hc71
              exfalso
              rw [han] at hc71
              simp at hc71 --done
            · try simp only [Bool.or_eq_true, Bool.or_eq_false_iff, Bool.and_eq_true, Bool.and_eq_false_iff, decide_eq_true_eq, decide_eq_false_iff_not, Bool.not_eq_true', Bool.not_eq_false', Int.not_lt, Int.not_le, List.length_map] at hc71
              refine W.skip ?_
              refine W.region ?_
              refine XOps.s rfl rfl rfl (Q.add rfl rfl (wi64 (by first | omega | (dsimp only; omega) | (simp only [List.length_map]; omega)) (by first | omega | (dsimp only; omega) | (simp only [List.length_map]; omega)))) ?_
              refine XOps.s rfl rfl rfl (Q.move_d rfl) ?_
              refine XOps.nil ?_
              refine ⟨k + 1, ?_, ?_, ?_, ?_⟩
              · omega
              · omega
              · exact ⟨by first | rfl | exact int_eq (by omega) | exact len_eq (by simp) | exact int_eq (by simp; done), by first | rfl | exact int_eq (by omega) | exact len_eq (by simp) | exact int_eq (by simp; done), by first | rfl | exact int_eq (by omega) | exact len_eq (by simp) | exact int_eq (by simp; done), by first | rfl | exact int_eq (by omega) | exact len_eq (by simp) | exact int_eq (by simp; done), by first | rfl | exact int_eq (by omega) | exact len_eq (by simp) | exact int_eq (by simp; done), by first | rfl | exact int_eq (by omega) | exact len_eq (by simp) | exact int_eq (by simp; done), by first | rfl | exact int_eq (by omega) | exact len_eq (by simp) | exact int_eq (by simp; done), by first | rfl | exact int_eq (by omega) | exact len_eq (by simp) | exact int_eq (by simp; done), trivial⟩
              · repeat (first | exact HLe.refl _ | refine HLe.cons' (by first | rfl | (simp; done)) ?_ | refine HLe.pick 1 rfl (by first | rfl | (simp; done)) ?_ | refine HLe.pick 2 rfl (by first | rfl | (simp; done)) ?_ | refine HLe.pick 3 rfl (by first | rfl | (simp; done)) ?_ | refine HLe.pick 4 rfl (by first | rfl | (simp; done)) ?_ | refine HLe.pick 5 rfl (by first | rfl | (simp; done)) ?_ | refine HLe.skip _ ?_)
          · try simp only [Bool.or_eq_true, Bool.or_eq_false_iff, Bool.and_eq_true, Bool.and_eq_false_iff, decide_eq_true_eq, decide_eq_false_iff_not, Bool.not_eq_true', Bool.not_eq_false', Int.not_lt, Int.not_le, List.length_map] at hc59
            refine W.exit ?_
            refine W.reg ?_
            refine XOps.s rfl rfl rfl (Q.move_ptr rfl) ?_
            refine XOps.s rfl rfl rfl (Q.move_d rfl) ?_
            refine XOps.s rfl rfl rfl (Q.move_d rfl) ?_
            refine XOps.s rfl rfl rfl (Q.call rfl Try.func12 go12 rfl (cut_c d 0 100 _ (by decide) (by decide) (by decide))) ?_
            refine XOps.s rfl rfl rfl (Q.add rfl rfl (wi64 (by first | omega | (dsimp only; omega) | (simp only [List.length_map]; omega)) (by first | omega | (dsimp only; omega) | (simp only [List.length_map]; omega)))) ?_
            refine XOps.s rfl rfl rfl (Q.move_d rfl) ?_
            refine XOps.loud rfl (L.call rfl Try.func13 go13 rfl (lost_c b id M ((cutI a 0 500) + (cutI d 0 100)) (cutI g 0 100) hs hMok.1 (by omega) (by omega)) rfl) ?_
            rintro _ _ ⟨_, rfl, v2, p2, rfl, hpp2, rfl⟩
            refine XOps.s rfl rfl rfl (Q.assign_vs rfl) ?_
            refine XOps.nil ?_
            have hpl2 : p2.length ≤ 8 := by have := hpp2.length_eq; have := lostS_len M ((cutI a 0 500) + (cutI d 0 100)) (cutI g 0 100); omega
            refine W.freeze 15 0 rfl rfl (by simp) ?_
            refine W.seq ?_
            refine W.reg ?_
            refine XOps.s rfl rfl rfl (Q.move_d rfl) ?_
            refine XOps.s rfl rfl rfl (Q.len_sl isl22 rfl) ?_
            refine XOps.s rfl rfl rfl (Q.move_d rfl) ?_
            refine XOps.nil ?_
            refine W.block ?_
            refine W.loop (ι := Nat) (fun k => [(15, .d (.sl 3 (p2.map Ct.enc))), (80, .d (.sl 3 (p.map Ct.enc))), (81, .d (.int .i64 p.length)), (82, .d (.int .i64 k))]) (fun k => hs) (fun k => k ≤ p.length) (fun k => p.length - k) 0 ?_ ?_ ?_ ?_
            · exact Nat.zero_le _
            · exact ⟨by first | rfl | exact int_eq (by omega) | exact len_eq (by simp) | exact int_eq (by simp; done), by first | rfl | exact int_eq (by omega) | exact len_eq (by simp) | exact int_eq (by simp; done), by first | rfl | exact int_eq (by omega) | exact len_eq (by simp) | exact int_eq (by simp; done), by first | rfl | exact int_eq (by omega) | exact len_eq (by simp) | exact int_eq (by simp; done), trivial⟩
            · exact HLe.skip _ (HLe.skip _ (HLe.refl _))
            · rintro k hk
              try dsimp only
              refine W.reg ?_
              refine XOps.s rfl rfl rfl (Q.lss rfl rfl) ?_
              refine XOps.nil ?_
              refine W.seq ?_
              refine W.cond rfl (fun hc83 => ?_) (fun hc83 => ?_)
              · try simp only [Bool.or_eq_true, Bool.or_eq_false_iff, Bool.and_eq_true, Bool.and_eq_false_iff, decide_eq_true_eq, decide_eq_false_iff_not, Bool.not_eq_true', Bool.not_eq_false', Int.not_lt, Int.not_le, List.length_map] at hc83
                obtain ⟨x, hx⟩ : ∃ x, p[k]? = some x := ⟨_, List.getElem?_eq_getElem (by simp at hc83; omega)⟩
                have hla := lost_later hpp hpp2 (by omega) (List.mem_of_getElem? hx)
                refine W.skip ?_
                refine W.seq ?_
                refine W.block ?_
                refine W.reg ?_
                refine XOps.s rfl rfl rfl (Q.idx_sl sl22 (by decide) rfl rfl (by first | omega | (simp only [List.length_map]; omega)) (by first | exact map_at hx | exact map_at0 hx)) ?_
                refine XOps.s rfl rfl rfl (Q.ld_dpn ag27 rfl rfl) ?_
                (refine XOps.loud rfl (L.alloc tz27 rfl rfl) ?_; rintro _ _ ⟨b17, rfl, rfl⟩)
                refine XOps.loud rfl (L.storen (k := 0) ag27 rfl rfl rfl rfl rfl) ?_
                rintro _ _ ⟨rfl, rfl⟩
                refine XOps.nil ?_
                refine W.reg ?_
                refine XOps.s rfl rfl rfl (Q.move_d rfl) ?_
                refine XOps.s rfl rfl rfl (Q.ld_ptrn (k := 0) ag27 rfl rfl rfl) ?_
                refine XOps.s rfl rfl rfl (Q.call rfl Try.func14 go14 rfl (containsC_c p2 x _ (by omega))) ?_
                refine XOps.s rfl rfl rfl (Q.not rfl) ?_
                refine XOps.nil ?_
                refine W.cond rfl (fun hc89 => ?_) (fun hc89 => ?_)
                · try simp only [Bool.or_eq_true, Bool.or_eq_false_iff, Bool.and_eq_true, Bool.and_eq_false_iff, decide_eq_true_eq, decide_eq_false_iff_not, Bool.not_eq_true', Bool.not_eq_false', Int.not_lt, Int.not_le, List.length_map] at hc89
                  exfalso
                  rw [hla] at hc89
                  simp at hc89 --done
                · try simp only [Bool.or_eq_true, Bool.or_eq_false_iff, Bool.and_eq_true, Bool.and_eq_false_iff, decide_eq_true_eq, decide_eq_false_iff_not, Bool.not_eq_true', Bool.not_eq_false', Int.not_lt, Int.not_le, List.length_map] at hc89
                  refine W.skip ?_
                  refine W.region ?_
                  refine XOps.s rfl rfl rfl (Q.add rfl rfl (wi64 (by first | omega | (dsimp only; omega) | (simp only [List.length_map]; omega)) (by first | omega | (dsimp only; omega) | (simp only [List.length_map]; omega)))) ?_
                  refine XOps.s rfl rfl rfl (Q.move_d rfl) ?_
                  refine XOps.nil ?_
                  refine ⟨k + 1, ?_, ?_, ?_, ?_⟩
                  · omega
                  · omega
                  · exact ⟨by first | rfl | exact int_eq (by omega) | exact len_eq (by simp) | exact int_eq (by simp; done), by first | rfl | exact int_eq (by omega) | exact len_eq (by simp) | exact int_eq (by simp; done), by first | rfl | exact int_eq (by omega) | exact len_eq (by simp) | exact int_eq (by simp; done), by first | rfl | exact int_eq (by omega) | exact len_eq (by simp) | exact int_eq (by simp; done), trivial⟩
                  · repeat (first | exact HLe.refl _ | refine HLe.cons' (by first | rfl | (simp; done)) ?_ | refine HLe.pick 1 rfl (by first | rfl | (simp; done)) ?_ | refine HLe.pick 2 rfl (by first | rfl | (simp; done)) ?_ | refine HLe.pick 3 rfl (by first | rfl | (simp; done)) ?_ | refine HLe.pick 4 rfl (by first | rfl | (simp; done)) ?_ | refine HLe.pick 5 rfl (by first | rfl | (simp; done)) ?_ | refine HLe.skip _ ?_)
              · try simp only [Bool.or_eq_true, Bool.or_eq_false_iff, Bool.and_eq_true, Bool.and_eq_false_iff, decide_eq_true_eq, decide_eq_false_iff_not, Bool.not_eq_true', Bool.not_eq_false', Int.not_lt, Int.not_le, List.length_map] at hc83
                refine W.exit ?_
                refine W.reg ?_
                refine XOps.s rfl rfl rfl (Q.assign_d rfl) ?_
                refine XOps.nil ?_
                refine W.ret ?_
                exact ⟨_, _, rfl, HLe.refl _, rfl⟩
end Go.Proofs.YtaegecnjimbfbaaA
