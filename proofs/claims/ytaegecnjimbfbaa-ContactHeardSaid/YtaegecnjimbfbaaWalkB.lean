/- slices.Insert; Tune of package contact. -/
import Derived.Test.YtaegecnjimbfbaaBase
import Derived.Test.YtaegecnjimbfbaaWalkA
import Derived.Test.YtaegecnjimbfbaaAbs32
set_option linter.unusedVariables false
set_option linter.unusedSimpArgs false
set_option linter.unnecessarySimpa false
namespace Go.Proofs.YtaegecnjimbfbaaA.FWalkB
open Go
theorem ag22 : tAgg P 22 = some ((false, 1)) := by kernel_rfl
theorem ag27 : tAgg P 27 = some ((true, 3)) := by kernel_rfl
theorem ag3 : tAgg P 3 = some ((false, 1)) := by kernel_rfl
theorem ap22 : tApp P 22 = some ((3, 32)) := by kernel_rfl
theorem fl27_2 : tFld P 27 2 = some (2) := by kernel_rfl
theorem fl41_0 : tFld P 41 0 = some (0) := by kernel_rfl
theorem go15 : callGo Go.Proofs.Try.f15 = true := by kernel_rfl
theorem go16 : callGo Go.Proofs.Try.f16 = true := by kernel_rfl
theorem go17 : callGo Go.Proofs.Try.f17 = true := by kernel_rfl
theorem go6 : callGo Go.Proofs.Try.f6 = true := by kernel_rfl
theorem ik3 : tInt P 3 = some (.i64) := by kernel_rfl
theorem isl22 : isSl P 22 = true := by kernel_rfl
theorem pl27 : tPl P 27 = some ([(0, 1), (1, 1), (2, 1)]) := by kernel_rfl
theorem sl22 : tSl P 22 = some (3) := by kernel_rfl
theorem tz27 : tZero P 27 = some ([.string ⟨#[]⟩, .int .i64 0, .int .i64 0]) := by kernel_rfl
theorem tzd27 : cellsD [.string ⟨#[]⟩, .int .i64 0, .int .i64 0] = some ([.str ⟨#[]⟩, .int .i64 0, .int .i64 0]) := rfl
theorem zr22 : tZrow P 22 = some ([.string ⟨#[]⟩, .int .i64 0, .int .i64 0]) := by kernel_rfl
theorem zrd22 : cellsD [.string ⟨#[]⟩, .int .i64 0, .int .i64 0] = some ([.str ⟨#[]⟩, .int .i64 0, .int .i64 0]) := rfl
end Go.Proofs.YtaegecnjimbfbaaA.FWalkB
namespace Go.Proofs.YtaegecnjimbfbaaA
open Go FWalkB
theorem ins_end {α : Type} (rows : List α) (x : α) (i : Nat) (h : i = rows.length) : rows ++ [x] = rows.take i ++ x :: rows.drop i := by subst h; simp
theorem ins_rep {α : Type} (rows : List α) (x z : α) (i m : Nat) (hi : i < rows.length) (hm : m = rows.length + 1 - i) :
    ((rows.take i ++ List.replicate m z).take i ++ [x] ++ (rows.take i ++ List.replicate m z).drop (i + 1)).take (i + 1) ++ (rows.drop i).take (rows.length - i) ++ ((rows.take i ++ List.replicate m z).take i ++ [x] ++ (rows.take i ++ List.replicate m z).drop (i + 1)).drop (i + 1 + (rows.length - i)) = rows.take i ++ x :: rows.drop i := by
  have e0 : (rows.take i ++ List.replicate m z).take i = rows.take i := by rw [List.take_append_of_le_length (by simp; omega), List.take_take, Nat.min_self]
  rw [e0]
  have e1 : (rows.take i ++ [x] ++ (rows.take i ++ List.replicate m z).drop (i + 1)).take (i + 1) = rows.take i ++ [x] := by
    rw [List.take_append_of_le_length (by simp; omega), List.take_of_length_le (by simp; omega)]
  have e2 : (rows.take i ++ [x] ++ (rows.take i ++ List.replicate m z).drop (i + 1)).drop (i + 1 + (rows.length - i)) = [] := List.drop_eq_nil_of_le (by simp; omega)
  rw [e1, e2, List.append_nil, List.take_of_length_le (l := rows.drop i) (by simp), List.append_assoc]; rfl
theorem ins_in {α : Type} (rows : List α) (x : α) (i : Nat) (hi : i < rows.length) :
    (rows.take (i + 1) ++ (rows.drop i).take (rows.length - i) ++ rows.drop (i + 1 + (rows.length - i))).take i ++ [x] ++ (rows.take (i + 1) ++ (rows.drop i).take (rows.length - i) ++ rows.drop (i + 1 + (rows.length - i))).drop (i + 1) = rows.take i ++ x :: rows.drop i := by
  have e1 : rows.drop (i + 1 + (rows.length - i)) = [] := List.drop_eq_nil_of_le (by omega)
  have e2 : (rows.drop i).take (rows.length - i) = rows.drop i := List.take_of_length_le (by simp)
  have e3 : (rows.take (i + 1)).length = i + 1 := by rw [List.length_take]; omega
  rw [e1, e2, List.append_nil, List.take_append_of_le_length (by omega), List.take_take, show min i (i + 1) = i by omega, List.drop_left' e3, List.append_assoc]
  rfl

set_option maxHeartbeats 1000000 in
set_option maxRecDepth 100000 in
theorem insert_c (vid id i : Nat) (x : List D) (rows : List (List D)) (hs : Hp) (hi : i ≤ rows.length) (hn : rows.length ≤ 1000) (hx3 : x.length = 3) (hx1 : ∀ d ∈ x, d.one = true) : AC P 17 [.vs id 0 rows.length 3, .d (.int .i64 i), .vs vid 0 1 3] ((vid, .lst 3 [x]) :: (id, .lst 3 rows) :: hs) (fun r h => ∃ id2, r = .vs id2 0 (rows.length + 1) 3 ∧ h = (id2, .lst 3 (rows.take i ++ x :: rows.drop i)) :: hs) := by
  refine AC.of 95 Try.func17 rfl rfl rfl ?_
  refine W.reg ?_
  refine XOps.s rfl rfl rfl (Q.assign_nilsl rfl) ?_
  refine XOps.nil ?_
  refine W.reg ?_
  refine XOps.s rfl rfl rfl (Q.move_vs rfl) ?_
  refine XOps.s rfl rfl rfl (Q.move_d rfl) ?_
  refine XOps.s rfl rfl rfl (Q.cut_vs2 (kk := 1) sl22 rfl rfl rfl rfl (by omega) (by omega) (by omega)) ?_
  refine XOps.nil ?_
  refine W.reg ?_
  refine XOps.s rfl rfl rfl (Q.move_vs rfl) ?_
  refine XOps.s rfl rfl rfl (Q.len_vs isl22 rfl) ?_
  refine XOps.s rfl rfl rfl (Q.assign_d rfl) ?_
  refine XOps.nil ?_
  refine W.seq ?_
  refine W.reg ?_
  refine XOps.s rfl rfl rfl (Q.move_d rfl) ?_
  refine XOps.s rfl rfl rfl (Q.eql rfl rfl) ?_
  refine XOps.nil ?_
  refine W.cond rfl (fun hc16 => ?_) (fun hc16 => ?_)
  · try simp only [Bool.or_eq_true, Bool.or_eq_false_iff, Bool.and_eq_true, Bool.and_eq_false_iff, decide_eq_true_eq, decide_eq_false_iff_not, Bool.not_eq_true', Bool.not_eq_false', Int.not_lt, Int.not_le, List.length_map] at hc16
    exact absurd hc16 (by decide)
  · try simp only [Bool.or_eq_true, Bool.or_eq_false_iff, Bool.and_eq_true, Bool.and_eq_false_iff, decide_eq_true_eq, decide_eq_false_iff_not, Bool.not_eq_true', Bool.not_eq_false', Int.not_lt, Int.not_le, List.length_map] at hc16
    refine W.skip ?_
    refine W.reg ?_
    refine XOps.s rfl rfl rfl (Q.move_vs rfl) ?_
    refine XOps.s rfl rfl rfl (Q.len_vs isl22 rfl) ?_
    refine XOps.s rfl rfl rfl (Q.assign_d rfl) ?_
    refine XOps.nil ?_
    refine W.seq ?_
    refine W.reg ?_
    refine XOps.s rfl rfl rfl (Q.move_d rfl) ?_
    refine XOps.s rfl rfl rfl (Q.move_d rfl) ?_
    refine XOps.s rfl rfl rfl (Q.eql rfl rfl) ?_
    refine XOps.nil ?_
    refine W.cond rfl (fun hc22 => ?_) (fun hc22 => ?_)
    · try simp only [Bool.or_eq_true, Bool.or_eq_false_iff, Bool.and_eq_true, Bool.and_eq_false_iff, decide_eq_true_eq, decide_eq_false_iff_not, Bool.not_eq_true', Bool.not_eq_false', Int.not_lt, Int.not_le, List.length_map] at hc22
      refine W.freeze 2 0 rfl rfl rfl ?_
      refine W.reg ?_
      refine XOps.s rfl rfl rfl (Q.move_vs rfl) ?_
      refine XOps.s rfl rfl rfl (Q.move_d rfl) ?_
      (refine XOps.loud rfl (L.app (k := 0) ap22 rfl rfl rfl rfl (by simp; omega) rfl) ?_; rintro _ _ ⟨v25, rfl, rfl⟩)
      refine XOps.s rfl rfl rfl (Q.assign_vs rfl) ?_
      refine XOps.nil ?_
      refine W.ret ?_
      exact ⟨_, (v25, .lst 3 (rows ++ [x])) :: hs, rfl, HLe.refl _, v25, rfl, by rw [ins_end rows x i (by omega)]⟩
    · try simp only [Bool.or_eq_true, Bool.or_eq_false_iff, Bool.and_eq_true, Bool.and_eq_false_iff, decide_eq_true_eq, decide_eq_false_iff_not, Bool.not_eq_true', Bool.not_eq_false', Int.not_lt, Int.not_le, List.length_map] at hc22
      refine W.skip ?_
      refine W.seq ?_
      refine W.reg ?_
      refine XOps.s rfl rfl rfl (Q.move_d rfl) ?_
      refine XOps.s rfl rfl rfl (Q.move_d rfl) ?_
      refine XOps.s rfl rfl rfl (Q.add rfl rfl (wi64 (by first | omega | (dsimp only; omega) | (simp only [List.length_map]; omega)) (by first | omega | (dsimp only; omega) | (simp only [List.length_map]; omega)))) ?_
      refine XOps.s rfl rfl rfl (Q.move_vs rfl) ?_
      (refine XOps.loud rfl (L.cap (k := 1) isl22 rfl rfl rfl) ?_; rintro _ _ ⟨idc, c, ⟨hcp1, hcp2⟩, rfl, rfl⟩)
      refine XOps.s rfl rfl rfl (Q.gtr rfl rfl) ?_
      refine XOps.nil ?_
      refine W.cond rfl (fun hc31 => ?_) (fun hc31 => ?_)
      · try simp only [Bool.or_eq_true, Bool.or_eq_false_iff, Bool.and_eq_true, Bool.and_eq_false_iff, decide_eq_true_eq, decide_eq_false_iff_not, Bool.not_eq_true', Bool.not_eq_false', Int.not_lt, Int.not_le, List.length_map] at hc31
        refine W.reg ?_
        refine XOps.s rfl rfl rfl (Q.move_vs rfl) ?_
        refine XOps.s rfl rfl rfl (Q.move_d rfl) ?_
        refine XOps.s rfl rfl rfl (Q.cut_vs2 (kk := 2) sl22 rfl rfl rfl rfl (by omega) (by omega) (by omega)) ?_
        refine XOps.s rfl rfl rfl (Q.move_d rfl) ?_
        refine XOps.s rfl rfl rfl (Q.move_d rfl) ?_
        refine XOps.s rfl rfl rfl (Q.add rfl rfl (wi64 (by first | omega | (dsimp only; omega) | (simp only [List.length_map]; omega)) (by first | omega | (dsimp only; omega) | (simp only [List.length_map]; omega)))) ?_
        refine XOps.s rfl rfl rfl (Q.move_d rfl) ?_
        refine XOps.s rfl rfl rfl (Q.sub rfl rfl (wi64 (by first | omega | (dsimp only; omega) | (simp only [List.length_map]; omega)) (by first | omega | (dsimp only; omega) | (simp only [List.length_map]; omega)))) ?_
        (refine XOps.loud rfl (L.app_mk2 (k := 2) (kk := 0) (i := i) (m := rows.length + 1 - i) (n := rows.length + 1 - i) ap22 zr22 zrd22 ik3 rfl rfl (by omega) rfl (by exact int_eq (by omega)) rfl (by omega) (by omega) (by omega) rfl) ?_; rintro _ _ ⟨v40, rfl, rfl⟩)
        refine XOps.s rfl rfl rfl (Q.assign_vs rfl) ?_
        refine XOps.nil ?_
        refine W.reg ?_
        refine XOps.s rfl rfl rfl (Q.move_vs rfl) ?_
        refine XOps.s rfl rfl rfl (Q.move_d rfl) ?_
        refine XOps.s rfl rfl rfl (Q.cut_vs2 (kk := 0) sl22 rfl rfl rfl rfl (by omega) (by omega) (by simp; omega)) ?_
        refine XOps.s rfl rfl rfl (Q.move_vs rfl) ?_
        (refine XOps.loud rfl (L.copy_own (k := 0) (k2 := 2) 1 sl22 rfl rfl (by simp; omega) rfl rfl (by omega) (by simp) rfl) ?_; rintro _ _ ⟨rfl, rfl⟩)
        refine XOps.nil ?_
        refine W.drawTreg 9 [8] follows (by kernel_rfl) (by decide) ?_
        apply DT.moreF [.new, .new, .new, .new, .new, .new, .new, .new, .now] (by kernel_rfl)
        refine PC.new _ rfl (GQ.q rfl (Q.move_vs rfl)) rfl ?_
        refine PC.new _ rfl (GQ.q rfl (Q.move_d rfl)) rfl ?_
        refine PC.new _ rfl (GQ.q rfl (Q.move_d rfl)) rfl ?_
        refine PC.new _ rfl (GQ.q rfl (Q.add rfl rfl (wi64 (by first | omega | (dsimp only; omega) | (simp only [List.length_map]; omega)) (by first | omega | (dsimp only; omega) | (simp only [List.length_map]; omega))))) rfl ?_
        refine PC.new _ rfl (GQ.q rfl (Q.cut_vs2 (kk := 0) sl22 rfl rfl rfl rfl (by omega) (by omega) (by simp; omega))) rfl ?_
        refine PC.new _ rfl (GQ.q rfl (Q.move_vs rfl)) rfl ?_
        refine PC.new _ rfl (GQ.q rfl (Q.move_d rfl)) rfl ?_
        refine PC.new _ rfl (GQ.q rfl (Q.cut_vs2 (kk := 3) sl22 rfl rfl rfl rfl (by omega) (by omega) (by simp))) rfl ?_
        refine PC.now rfl rfl (fun τ => Loud.to (L.copy_own (k := 0) (k2 := 3) (rows.length - i) sl22 rfl rfl (by simp; omega) rfl rfl (by omega) (by omega) rfl) (fun _ _ h => ⟨_, h.1, rfl, h.2⟩)) ?_
        refine PC.nil ?_
        rintro _ _ ⟨rfl, rfl⟩
        refine DT.last [.did, .did, .did, .did, .did, .did, .did, .did, .did] (by kernel_rfl) ?_
        refine PC.did rfl ?_
        refine PC.did rfl ?_
        refine PC.did rfl ?_
        refine PC.did rfl ?_
        refine PC.did rfl ?_
        refine PC.did rfl ?_
        refine PC.did rfl ?_
        refine PC.did rfl ?_
        refine PC.did rfl ?_
        refine PC.nil ?_
        refine XOps.nil ?_
        refine W.reg ?_
        refine XOps.s rfl rfl rfl (Q.move_vs rfl) ?_
        refine XOps.s rfl rfl rfl (Q.assign_vs rfl) ?_
        refine XOps.nil ?_
        refine W.ret ?_
        exact ⟨_, (v40, .lst 3 (rows.take i ++ x :: rows.drop i)) :: hs, rfl, HLe.cons' (by refine (congrArg (HO.lst 3) (ins_rep rows x [.str ⟨#[]⟩, .int .i64 0, .int .i64 0] i _ (by omega) rfl).symm).trans ?_; simp only [Nat.zero_add, (show ((i : Int) + ((1 : Nat) : Int)).toNat = i + 1 by omega), Int.toNat_natCast]; rfl) (HLe.skip _ (HLe.skip _ (HLe.skip _ (HLe.refl _)))), v40, (by show AV.vs _ _ _ _ = _; exact vs_eq (by omega)), rfl⟩
      · try simp only [Bool.or_eq_true, Bool.or_eq_false_iff, Bool.and_eq_true, Bool.and_eq_false_iff, decide_eq_true_eq, decide_eq_false_iff_not, Bool.not_eq_true', Bool.not_eq_false', Int.not_lt, Int.not_le, List.length_map] at hc31
        refine W.skip ?_
        refine W.reg ?_
        refine XOps.s rfl rfl rfl (Q.move_vs rfl) ?_
        refine XOps.s rfl rfl rfl (Q.move_d rfl) ?_
        refine XOps.s rfl rfl rfl (Q.move_d rfl) ?_
        refine XOps.s rfl rfl rfl (Q.add rfl rfl (wi64 (by first | omega | (dsimp only; omega) | (simp only [List.length_map]; omega)) (by first | omega | (dsimp only; omega) | (simp only [List.length_map]; omega)))) ?_
        refine XOps.s rfl rfl rfl (Q.cut_cap (kk := 0) sl22 rfl rfl rfl rfl (by omega) (by omega) (by omega)) ?_
        refine XOps.s rfl rfl rfl (Q.assign_vs rfl) ?_
        refine XOps.nil ?_
        refine W.seq ?_
        refine W.reg ?_
        refine XOps.s rfl rfl rfl (Q.move_vs rfl) ?_
        refine XOps.s rfl rfl rfl (Q.move_vs rfl) ?_
        refine XOps.s rfl rfl rfl (Q.move_d rfl) ?_
        refine XOps.s rfl rfl rfl (Q.move_d rfl) ?_
        refine XOps.s rfl rfl rfl (Q.add rfl rfl (wi64 (by first | omega | (dsimp only; omega) | (simp only [List.length_map]; omega)) (by first | omega | (dsimp only; omega) | (simp only [List.length_map]; omega)))) ?_
        refine XOps.s rfl rfl rfl (Q.cut_cap (kk := 0) sl22 rfl rfl rfl rfl (by omega) (by omega) (by omega)) ?_
        refine XOps.s rfl rfl rfl (Q.overlaps (k := 1) (k2 := 2) sl22 rfl (run_callFunc_extern (e := Extern.SlicesOverlaps.overlaps #[22, 22] #[4]) Try.func27 (by kernel_rfl) (by kernel_rfl) (by kernel_rfl) (by kernel_rfl)) rfl rfl rfl rfl (by decide) (by decide) (by omega)) ?_
        refine XOps.s rfl rfl rfl (Q.not rfl) ?_
        refine XOps.nil ?_
        refine W.cond_t rfl ?_
        refine W.drawTreg 9 [8] follows (by kernel_rfl) (by decide) ?_
        apply DT.moreF [.new, .new, .new, .new, .new, .new, .new, .new, .now] (by kernel_rfl)
        refine PC.new _ rfl (GQ.q rfl (Q.move_vs rfl)) rfl ?_
        refine PC.new _ rfl (GQ.q rfl (Q.move_d rfl)) rfl ?_
        refine PC.new _ rfl (GQ.q rfl (Q.move_d rfl)) rfl ?_
        refine PC.new _ rfl (GQ.q rfl (Q.add rfl rfl (wi64 (by first | omega | (dsimp only; omega) | (simp only [List.length_map]; omega)) (by first | omega | (dsimp only; omega) | (simp only [List.length_map]; omega))))) rfl ?_
        refine PC.new _ rfl (GQ.q rfl (Q.cut_cap (kk := 0) sl22 rfl rfl rfl rfl (by omega) (by omega) (by omega))) rfl ?_
        refine PC.new _ rfl (GQ.q rfl (Q.move_vs rfl)) rfl ?_
        refine PC.new _ rfl (GQ.q rfl (Q.move_d rfl)) rfl ?_
        refine PC.new _ rfl (GQ.q rfl (Q.cut_cap (kk := 0) sl22 rfl rfl rfl rfl (by omega) (by omega) (by omega))) rfl ?_
        refine PC.now rfl rfl (fun τ => Loud.to (L.copy_own (k := 2) (k2 := 2) (rows.length - i) sl22 rfl rfl (by omega) rfl rfl (by omega) (by omega) rfl) (fun _ _ h => ⟨_, h.1, rfl, h.2⟩)) ?_
        refine PC.nil ?_
        rintro _ _ ⟨rfl, rfl⟩
        refine DT.last [.did, .did, .did, .did, .did, .did, .did, .did, .did] (by kernel_rfl) ?_
        refine PC.did rfl ?_
        refine PC.did rfl ?_
        refine PC.did rfl ?_
        refine PC.did rfl ?_
        refine PC.did rfl ?_
        refine PC.did rfl ?_
        refine PC.did rfl ?_
        refine PC.did rfl ?_
        refine PC.did rfl ?_
        refine PC.nil ?_
        refine XOps.nil ?_
        refine W.reg ?_
        refine XOps.s rfl rfl rfl (Q.move_vs rfl) ?_
        refine XOps.s rfl rfl rfl (Q.move_d rfl) ?_
        refine XOps.s rfl rfl rfl (Q.cut_cap (kk := 0) sl22 rfl rfl rfl rfl (by omega) (by omega) (by omega)) ?_
        refine XOps.s rfl rfl rfl (Q.move_vs rfl) ?_
        (refine XOps.loud rfl (L.copy_own (k := 2) (k2 := 1) 1 sl22 rfl rfl (by simp; omega) rfl rfl (by omega) (by simp) rfl) ?_; rintro _ _ ⟨rfl, rfl⟩)
        refine XOps.nil ?_
        refine W.reg ?_
        refine XOps.s rfl rfl rfl (Q.move_vs rfl) ?_
        refine XOps.s rfl rfl rfl (Q.assign_vs rfl) ?_
        refine XOps.nil ?_
        refine W.ret ?_
        exact ⟨_, (id, .lst 3 (rows.take i ++ x :: rows.drop i)) :: hs, rfl, HLe.skip _ (HLe.skip _ (HLe.cons' (by refine (congrArg (HO.lst 3) (ins_in rows x i (by omega)).symm).trans ?_; simp only [Nat.zero_add, (show ((i : Int) + ((1 : Nat) : Int)).toNat = i + 1 by omega), Int.toNat_natCast]; rfl) (HLe.refl _))), id, (by show AV.vs _ _ _ _ = _; exact vs_eq (by omega)), rfl⟩

theorem insertC_c (vid id i : Nat) (x : Ct) (l : List Ct) (hs : Hp) (hi : i ≤ l.length) (hn : l.length ≤ 1000) : AC P 17 [.vs id 0 l.length 3, .d (.int .i64 i), .vs vid 0 1 3] ((vid, .lst 3 [x.enc]) :: (id, .lst 3 (l.map Ct.enc)) :: hs)
    (fun r h => ∃ id2, r = .vs id2 0 (l.length + 1) 3 ∧ h = (id2, .lst 3 ((l.take i ++ x :: l.drop i).map Ct.enc)) :: hs) := by
  have h := insert_c vid id i x.enc (l.map Ct.enc) hs (by simpa using hi) (by simpa using hn) rfl (by simp [Ct.enc, D.one])
  rw [List.length_map] at h
  exact h.mono fun r h' ⟨id2, h1, h2⟩ => ⟨id2, h1, by rw [h2]; simp⟩

set_option maxHeartbeats 1000000 in
set_option maxRecDepth 100000 in
theorem tune_c (b id : Nat) (l : List Ct) (c : ByteArray) (f t : Int) (hs : Hp) (hok : okC l) (hl : l.length ≤ 999) (hc : c.size ≤ 140737488351232) : AC P 7 [.ptr b 0, .d (.str c), .d (.int .i64 f), .d (.int .i64 t)] (stC b l id hs) (fun r h => ∃ id2, r = .d (.int .i64 (tuneE l c f t)) ∧ h = stC b (tuneL l c f t) id2 hs) := by
  obtain ⟨x, hx⟩ : ∃ x : Ct, isF l c = true → l[atK l c]? = some x := by
    cases h : isF l c with
    | true => obtain ⟨x, hx, _⟩ := isF_at h; exact ⟨x, fun _ => hx⟩
    | false => exact ⟨⟨c, 0, 0⟩, fun h => by cases h⟩
  have hal := atK_le l c
  refine AC.of 82 Try.func7 rfl rfl rfl ?_
  refine W.reg ?_
  refine XOps.s rfl rfl rfl (Q.assign_d rfl) ?_
  refine XOps.nil ?_
  refine W.reg ?_
  refine XOps.s rfl rfl rfl (Q.move_ptr rfl) ?_
  refine XOps.s rfl rfl rfl (Q.move_d rfl) ?_
  refine XOps.s rfl rfl rfl (Q.call rfl Try.func15 go15 rfl (find_c b id l c _ hok (by omega))) ?_
  refine XOps.s rfl rfl rfl (Q.move_tup rfl) ?_
  refine XOps.s rfl rfl rfl (Q.extract rfl rfl) ?_
  refine XOps.s rfl rfl rfl (Q.extract rfl rfl) ?_
  refine XOps.s rfl rfl rfl (Q.assign_d rfl) ?_
  refine XOps.s rfl rfl rfl (Q.assign_d rfl) ?_
  refine XOps.nil ?_
  refine W.seq ?_
  refine W.block ?_
  refine W.reg ?_
  refine XOps.s rfl rfl rfl (Q.move_d rfl) ?_
  refine XOps.s rfl rfl rfl (Q.call rfl Try.func16 go16 rfl (named_c c _ hc)) ?_
  refine XOps.s rfl rfl rfl (Q.not rfl) ?_
  refine XOps.s rfl rfl rfl (Q.assign_d rfl) ?_
  refine XOps.nil ?_
  refine W.cond rfl (fun hc18 => ?_) (fun hc18 => ?_)
  · try simp only [Bool.or_eq_true, Bool.or_eq_false_iff, Bool.and_eq_true, Bool.and_eq_false_iff, decide_eq_true_eq, decide_eq_false_iff_not, Bool.not_eq_true', Bool.not_eq_false', Int.not_lt, Int.not_le, List.length_map] at hc18
    have hE : tuneE l c f t = 6 := by unfold tuneE; rw [if_pos (by simpa using hc18)]
    have hL : tuneL l c f t = l := by unfold tuneL; rw [if_pos (by omega)]
    rw [hE, hL]
    refine W.reg ?_
    refine XOps.s rfl rfl rfl (Q.assign_d rfl) ?_
    refine XOps.nil ?_
    refine W.ret ?_
    exact ⟨_, stC b l id hs, rfl, HLe.refl _, id, rfl, rfl⟩
  · try simp only [Bool.or_eq_true, Bool.or_eq_false_iff, Bool.and_eq_true, Bool.and_eq_false_iff, decide_eq_true_eq, decide_eq_false_iff_not, Bool.not_eq_true', Bool.not_eq_false', Int.not_lt, Int.not_le, List.length_map] at hc18
    have h18 : ¬ namedS c = false := by simpa using hc18
    refine W.reg ?_
    refine XOps.s rfl rfl rfl (Q.move_d rfl) ?_
    refine XOps.s rfl rfl rfl (Q.call rfl Try.func6 go6 rfl (valid_c f _)) ?_
    refine XOps.s rfl rfl rfl (Q.not rfl) ?_
    refine XOps.s rfl rfl rfl (Q.move_d rfl) ?_
    refine XOps.gs rfl rfl rfl rfl rfl rfl rfl (fun hg => Q.move_d rfl) ?_
    refine XOps.gs rfl rfl rfl rfl rfl rfl rfl (fun hg => Quiet.open 27 hg rfl (Q.lss rfl rfl)) ?_
    refine XOps.s rfl rfl rfl (Q.pick_or rfl rfl rfl (fun h => by first | (rw [h]; rfl) | (rw [hg, h]; rfl) | (simp [h, hg]; done))) ?_
    refine XOps.s rfl rfl rfl (Q.move_d rfl) ?_
    refine XOps.gs rfl rfl rfl rfl rfl rfl rfl (fun hg => Q.move_d rfl) ?_
    refine XOps.gs rfl rfl rfl rfl rfl rfl rfl (fun hg => Quiet.open 31 hg rfl (Q.gtr rfl rfl)) ?_
    refine XOps.s rfl rfl rfl (Q.pick_or rfl rfl rfl (fun h => by first | (rw [h]; rfl) | (rw [hg, h]; rfl) | (simp [h, hg]; done))) ?_
    refine XOps.s rfl rfl rfl (Q.assign_d rfl) ?_
    refine XOps.nil ?_
    refine W.cond rfl (fun hc22 => ?_) (fun hc22 => ?_)
    · try simp only [Bool.or_eq_true, Bool.or_eq_false_iff, Bool.and_eq_true, Bool.and_eq_false_iff, decide_eq_true_eq, decide_eq_false_iff_not, Bool.not_eq_true', Bool.not_eq_false', Int.not_lt, Int.not_le, List.length_map] at hc22
      have hE : tuneE l c f t = 4 := by unfold tuneE; rw [if_neg h18, if_pos (by simpa [or_assoc] using hc22)]
      have hL : tuneL l c f t = l := by unfold tuneL; rw [if_pos (by omega)]
      rw [hE, hL]
      refine W.reg ?_
      refine XOps.s rfl rfl rfl (Q.assign_d rfl) ?_
      refine XOps.nil ?_
      refine W.ret ?_
      exact ⟨_, stC b l id hs, rfl, HLe.refl _, id, rfl, rfl⟩
    · try simp only [Bool.or_eq_true, Bool.or_eq_false_iff, Bool.and_eq_true, Bool.and_eq_false_iff, decide_eq_true_eq, decide_eq_false_iff_not, Bool.not_eq_true', Bool.not_eq_false', Int.not_lt, Int.not_le, List.length_map] at hc22
      have h22 : ¬ (validF f = false ∨ t < 0 ∨ 200000 < t) := by
        rintro (h | h | h)
        · rw [h] at hc22; simp at hc22
        · omega
        · omega
      refine W.reg ?_
      refine XOps.s rfl rfl rfl (Q.move_d rfl) ?_
      refine XOps.s rfl rfl rfl (Q.not rfl) ?_
      refine XOps.s rfl rfl rfl (Q.move_d rfl) ?_
      refine XOps.gs rfl rfl rfl rfl rfl rfl rfl (fun hg => Q.move_ptr rfl) ?_
      refine XOps.gs rfl rfl rfl rfl rfl rfl rfl (fun hg => Quiet.open 38 hg rfl (Q.nil_ptr rfl)) ?_
      refine XOps.gs rfl rfl rfl rfl rfl rfl rfl (fun hg => Quiet.open 39 hg rfl (Q.fld_ptr fl41_0 rfl)) ?_
      refine XOps.gs rfl rfl rfl rfl rfl rfl rfl (fun hg => Quiet.open 40 hg rfl (Q.ld_ptr (k := 0) ag22 rfl rfl rfl)) ?_
      refine XOps.gs rfl rfl rfl rfl rfl rfl rfl (fun hg => Quiet.open 41 hg rfl (Q.len_vs isl22 rfl)) ?_
      refine XOps.gs rfl rfl rfl rfl rfl rfl rfl (fun hg => Quiet.open 42 hg rfl (Q.eql rfl rfl)) ?_
      refine XOps.s rfl rfl rfl (Q.pick_and rfl rfl rfl (fun h => by first | (rw [h]; rfl) | (rw [hg, h]; rfl) | (simp [h, hg]; done))) ?_
      refine XOps.s rfl rfl rfl (Q.assign_d rfl) ?_
      refine XOps.nil ?_
      refine W.cond rfl (fun hc34 => ?_) (fun hc34 => ?_)
      · try simp only [Bool.or_eq_true, Bool.or_eq_false_iff, Bool.and_eq_true, Bool.and_eq_false_iff, decide_eq_true_eq, decide_eq_false_iff_not, Bool.not_eq_true', Bool.not_eq_false', Int.not_lt, Int.not_le, List.length_map] at hc34
        have hE : tuneE l c f t = 9 := by unfold tuneE; rw [if_neg h18, if_neg h22, if_pos ⟨hc34.1, by omega⟩]
        have hL : tuneL l c f t = l := by unfold tuneL; rw [if_pos (by omega)]
        rw [hE, hL]
        refine W.reg ?_
        refine XOps.s rfl rfl rfl (Q.assign_d rfl) ?_
        refine XOps.nil ?_
        refine W.ret ?_
        exact ⟨_, stC b l id hs, rfl, HLe.refl _, id, rfl, rfl⟩
      · try simp only [Bool.or_eq_true, Bool.or_eq_false_iff, Bool.and_eq_true, Bool.and_eq_false_iff, decide_eq_true_eq, decide_eq_false_iff_not, Bool.not_eq_true', Bool.not_eq_false', Int.not_lt, Int.not_le, List.length_map] at hc34
        have h34 : ¬ (isF l c = false ∧ l.length = 24) := by
          rintro ⟨h, h2⟩
          rw [h, h2] at hc34; simp at hc34
        refine W.reg ?_
        refine XOps.s rfl rfl rfl (Q.move_d rfl) ?_
        refine XOps.s rfl rfl rfl (Q.move_d rfl) ?_
        refine XOps.gs rfl rfl rfl rfl rfl rfl rfl (fun hg => Q.move_d rfl) ?_
        refine XOps.gs rfl rfl rfl rfl rfl rfl rfl (fun hg => Q.move_ptr rfl) ?_
        refine XOps.gs rfl rfl rfl rfl rfl rfl rfl (fun hg => Quiet.open 49 hg rfl (Q.nil_ptr rfl)) ?_
        refine XOps.gs rfl rfl rfl rfl rfl rfl rfl (fun hg => Quiet.open 50 hg rfl (Q.fld_ptr fl41_0 rfl)) ?_
        refine XOps.gs rfl rfl rfl rfl rfl rfl rfl (fun hg => Quiet.open 51 hg rfl (Q.ld_ptr (k := 0) ag22 rfl rfl rfl)) ?_
        refine XOps.gs rfl rfl rfl rfl rfl rfl rfl (fun hg => Q.move_d rfl) ?_
        refine XOps.gs rfl rfl rfl rfl rfl rfl rfl (fun hg => Quiet.open 52 hg rfl (Quiet.open 53 hg rfl (Q.idx_vs (kk := 1) sl22 rfl rfl rfl (by omega) (by have := (List.getElem?_eq_some_iff.1 (hx (by simpa using hg))).1; omega)))) ?_
        refine XOps.gs rfl rfl rfl rfl rfl rfl rfl (fun hg => Quiet.open 54 hg rfl (Q.fld_ep fl27_2 rfl)) ?_
        refine XOps.gs rfl rfl rfl rfl rfl rfl rfl (fun hg => Quiet.open 55 hg rfl (Q.ld_ep (k := 1) ag3 rfl rfl (map_at0 (hx (by simpa using hg))) rfl)) ?_
        refine XOps.gs rfl rfl rfl rfl rfl rfl rfl (fun hg => Quiet.open 48 hg rfl (Quiet.open 56 hg rfl (Q.lss rfl rfl))) ?_
        refine XOps.s rfl rfl rfl (Q.pick_and rfl rfl rfl (fun h => by first | (rw [h]; rfl) | (rw [hg, h]; rfl) | (simp [h, hg]; done))) ?_
        refine XOps.s rfl rfl rfl (Q.assign_d rfl) ?_
        refine XOps.nil ?_
        refine W.cond rfl (fun hc45 => ?_) (fun hc45 => ?_)
        · try simp only [Bool.or_eq_true, Bool.or_eq_false_iff, Bool.and_eq_true, Bool.and_eq_false_iff, decide_eq_true_eq, decide_eq_false_iff_not, Bool.not_eq_true', Bool.not_eq_false', Int.not_lt, Int.not_le, List.length_map] at hc45
          have hE : tuneE l c f t = 12 := by unfold tuneE; rw [if_neg h18, if_neg h22, if_neg h34, if_pos ⟨hc45.1, by unfold timeK; rw [hx hc45.1]; exact hc45.2⟩]
          have hL : tuneL l c f t = l := by unfold tuneL; rw [if_pos (by omega)]
          rw [hE, hL]
          refine W.reg ?_
          refine XOps.s rfl rfl rfl (Q.assign_d rfl) ?_
          refine XOps.nil ?_
          refine W.ret ?_
          exact ⟨_, stC b l id hs, rfl, HLe.refl _, id, rfl, rfl⟩
        · try simp only [Bool.or_eq_true, Bool.or_eq_false_iff, Bool.and_eq_true, Bool.and_eq_false_iff, decide_eq_true_eq, decide_eq_false_iff_not, Bool.not_eq_true', Bool.not_eq_false', Int.not_lt, Int.not_le, List.length_map] at hc45
          have hE : tuneE l c f t = 0 := by
            unfold tuneE; rw [if_neg h18, if_neg h22, if_neg h34, if_neg]
            rintro ⟨h, h2⟩
            unfold timeK at h2; rw [hx h] at h2; replace h2 : t < x.t := h2; rw [h] at hc45; simp at hc45; omega
          refine W.skip ?_
          refine W.reg ?_
          refine XOps.s rfl rfl rfl (Q.move_d rfl) ?_
          refine XOps.s rfl rfl rfl (Q.move_d rfl) ?_
          refine XOps.s rfl rfl rfl (Q.move_d rfl) ?_
          refine XOps.s rfl rfl rfl (Q.build pl27 tz27 tzd27 rfl) ?_
          (refine XOps.loud rfl (L.alloc tz27 rfl rfl) ?_; rintro _ _ ⟨b11, rfl, rfl⟩)
          refine XOps.loud rfl (L.storen (k := 0) ag27 rfl rfl rfl rfl rfl) ?_
          rintro _ _ ⟨rfl, rfl⟩
          refine XOps.nil ?_
          refine W.seq ?_
          refine W.reg ?_
          refine XOps.s rfl rfl rfl (Q.move_d rfl) ?_
          refine XOps.nil ?_
          refine W.cond rfl (fun hc63 => ?_) (fun hc63 => ?_)
          · try simp only [Bool.or_eq_true, Bool.or_eq_false_iff, Bool.and_eq_true, Bool.and_eq_false_iff, decide_eq_true_eq, decide_eq_false_iff_not, Bool.not_eq_true', Bool.not_eq_false', Int.not_lt, Int.not_le, List.length_map] at hc63
            have hxx := hx hc63
            have hkl := (List.getElem?_eq_some_iff.1 hxx).1
            have hL : tuneL l c f t = l.set (atK l c) ⟨c, f, t⟩ := by unfold tuneL; rw [if_neg (by omega), if_pos hc63]
            rw [hE, hL]
            refine W.draw 6 follows (by kernel_rfl) ?_
            refine Chain.cons _ (GQ.q rfl (Q.move_ptr rfl)) rfl ?_
            refine Chain.cons _ (GQ.q rfl (Q.nil_ptr rfl)) rfl ?_
            refine Chain.cons _ (GQ.q rfl (Q.fld_ptr fl41_0 rfl)) rfl ?_
            refine Chain.cons _ (GQ.q rfl (Q.ld_ptr (k := 1) ag22 rfl rfl rfl)) rfl ?_
            refine Chain.cons _ (GQ.q rfl (Q.move_d rfl)) rfl ?_
            refine Chain.cons _ (GQ.q rfl (Q.ld_ptrn (k := 0) ag27 rfl rfl rfl)) rfl ?_
            refine Chain.nil ?_
            refine XOps.s rfl rfl rfl (Q.idx_vs (kk := 2) sl22 rfl rfl rfl (by omega) (by omega)) ?_
            (refine XOps.loud rfl (L.storen_ep (k := 2) ag27 rfl rfl (map_at0 hxx) rfl rfl rfl) ?_; rintro _ _ ⟨rfl, rfl⟩)
            refine XOps.nil ?_
            refine W.reg ?_
            refine XOps.s rfl rfl rfl (Q.assign_d rfl) ?_
            refine XOps.nil ?_
            refine W.ret ?_
            exact ⟨_, stC b (l.set (atK l c) ⟨c, f, t⟩) id hs, rfl, HLe.skip _ (HLe.cons' (by simp) (HLe.cons' (by simp [Ct.enc, List.map_set]) (HLe.refl _))), id, rfl, rfl⟩
          · try simp only [Bool.or_eq_true, Bool.or_eq_false_iff, Bool.and_eq_true, Bool.and_eq_false_iff, decide_eq_true_eq, decide_eq_false_iff_not, Bool.not_eq_true', Bool.not_eq_false', Int.not_lt, Int.not_le, List.length_map] at hc63
            have hF : isF l c = false := by simpa using hc63
            have hL : tuneL l c f t = l.take (atK l c) ++ ⟨c, f, t⟩ :: l.drop (atK l c) := by unfold tuneL; rw [if_neg (by omega), if_neg (by simp [hF])]
            rw [hE, hL]
            refine W.drawT 12 [7, 8, 11] follows (by kernel_rfl) (by decide) ?_
            apply DT.moreE [.new, .new, .new, .new, .new, .new, .new, .now, .later, .later, .later, .later] (by kernel_rfl)
            refine PC.new _ rfl (GQ.q rfl (Q.move_ptr rfl)) rfl ?_
            refine PC.new _ rfl (GQ.q rfl (Q.move_ptr rfl)) rfl ?_
            refine PC.new _ rfl (GQ.q rfl (Q.nil_ptr rfl)) rfl ?_
            refine PC.new _ rfl (GQ.q rfl (Q.fld_ptr fl41_0 rfl)) rfl ?_
            refine PC.new _ rfl (GQ.q rfl (Q.ld_ptr (k := 1) ag22 rfl rfl rfl)) rfl ?_
            refine PC.new _ rfl (GQ.q rfl (Q.move_d rfl)) rfl ?_
            refine PC.new _ rfl (GQ.q rfl (Q.ld_ptrn (k := 0) ag27 rfl rfl rfl)) rfl ?_
            refine PC.now rfl rfl (fun τ => Loud.to (L.bslo sl22 (by decide) zr22 rfl zrd22 (by decide) rfl rfl rfl) (fun _ _ ⟨v, h1, h2⟩ => ⟨_, h1, v, rfl, h2⟩)) ?_
            refine PC.later rfl ?_
            refine PC.later rfl ?_
            refine PC.later rfl ?_
            refine PC.later rfl ?_
            refine PC.nil ?_
            rintro _ _ ⟨v78, rfl, rfl⟩
            apply DT.moreC [.old, .old, .old, .old, .old, .old, .did, .did, .now, .later, .later, .later] (by kernel_rfl)
            refine PC.old rfl (GQ.q rfl (Q.move_ptr rfl)) rfl ?_
            refine PC.old rfl (GQ.q rfl (Q.move_ptr rfl)) rfl ?_
            refine PC.old rfl (GQ.q rfl (Q.nil_ptr rfl)) rfl ?_
            refine PC.old rfl (GQ.q rfl (Q.fld_ptr fl41_0 rfl)) rfl ?_
            refine PC.old rfl (GQ.q rfl (Q.ld_ptr (k := 2) ag22 rfl rfl rfl)) rfl ?_
            refine PC.old rfl (GQ.q rfl (Q.move_d rfl)) rfl ?_
            refine PC.did rfl ?_
            refine PC.did rfl ?_
            refine PC.now rfl rfl (fun τ => Loud.to (L.call rfl Try.func17 go17 rfl (AC.le (insertC_c v78 id (atK l c) ⟨c, f, t⟩ l _ hal (by omega)) (HLe.cons _ (HLe.pick 2 rfl rfl (HLe.refl _)))) rfl) (fun _ _ ⟨r, h1, h2⟩ => ⟨r, h1, _, h2, rfl⟩)) ?_
            refine PC.later rfl ?_
            refine PC.later rfl ?_
            refine PC.later rfl ?_
            refine PC.nil ?_
            rintro _ _ ⟨_, ⟨id2, rfl, rfl⟩, rfl⟩
            apply DT.moreS [.old, .did, .did, .did, .did, .did, .did, .did, .did, .new, .new, .now] (by kernel_rfl)
            refine PC.old rfl (GQ.q rfl (Q.move_ptr rfl)) rfl ?_
            refine PC.did rfl ?_
            refine PC.did rfl ?_
            refine PC.did rfl ?_
            refine PC.did rfl ?_
            refine PC.did rfl ?_
            refine PC.did rfl ?_
            refine PC.did rfl ?_
            refine PC.did rfl ?_
            refine PC.new _ rfl (GQ.q rfl (Q.nil_ptr rfl)) rfl ?_
            refine PC.new _ rfl (GQ.q rfl (Q.fld_ptr fl41_0 rfl)) rfl ?_
            refine PC.now rfl rfl (fun τ => Loud.to (L.store (k := 2) ag22 ((oev_app rfl).trans rfl) rfl rfl ((oev_app rfl).trans rfl) rfl) (fun _ _ h => ⟨.any, h.1, h.2⟩)) ?_
            refine PC.nil ?_
            rintro _ _ rfl
            refine DT.last [.did, .did, .did, .did, .did, .did, .did, .did, .did, .did, .did, .did] (by kernel_rfl) ?_
            refine PC.did rfl ?_
            refine PC.did rfl ?_
            refine PC.did rfl ?_
            refine PC.did rfl ?_
            refine PC.did rfl ?_
            refine PC.did rfl ?_
            refine PC.did rfl ?_
            refine PC.did rfl ?_
            refine PC.did rfl ?_
            refine PC.did rfl ?_
            refine PC.did rfl ?_
            refine PC.did rfl ?_
            refine PC.nil ?_
            refine XOps.nil ?_
            refine W.reg ?_
            refine XOps.s rfl rfl rfl (Q.assign_d rfl) ?_
            refine XOps.nil ?_
            refine W.ret ?_
            exact ⟨_, stC b (l.take (atK l c) ++ ⟨c, f, t⟩ :: l.drop (atK l c)) id2 hs, rfl, HLe.pick 2 rfl (congrArg (fun z => HO.cells [AV.vs id2 0 z 3]) (by simp; omega)) (HLe.cons _ (HLe.skip _ (HLe.refl _))), id2, rfl, rfl⟩
end Go.Proofs.YtaegecnjimbfbaaA
