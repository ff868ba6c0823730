/- Flights: clash, clashes. -/
import Derived.Test.YtaegeaajhbfkgaaGreatDoorFrB
import Derived.Test.YtaegeaajhbfkgaaGreatDoorCeI
set_option linter.unusedVariables false
set_option linter.unusedSimpArgs false
set_option linter.unnecessarySimpa false
namespace Go.Proofs.YtaegeaajhbfkgaaGreatDoorA.FCeJ
open Go
theorem ag23 : tAgg P 23 = some ((true, 2)) := by kernel_rfl
theorem ag3 : tAgg P 3 = some ((false, 1)) := by kernel_rfl
theorem ag31 : tAgg P 31 = some ((false, 1)) := by kernel_rfl
theorem ag33 : tAgg P 33 = some ((false, 1)) := by kernel_rfl
theorem ag37 : tAgg P 37 = some ((false, 1)) := by kernel_rfl
theorem ag4 : tAgg P 4 = some ((false, 1)) := by kernel_rfl
theorem ag41 : tAgg P 41 = some ((true, 8)) := by kernel_rfl
theorem ag47 : tAgg P 47 = some ((true, 6)) := by kernel_rfl
theorem ag9 : tAgg P 9 = some ((false, 1)) := by kernel_rfl
theorem fl27_0 : tFld P 27 0 = some (0) := by kernel_rfl
theorem fl41_0 : tFld P 41 0 = some (0) := by kernel_rfl
theorem fl45_0 : tFld P 45 0 = some (0) := by kernel_rfl
theorem fl47_0 : tFld P 47 0 = some (0) := by kernel_rfl
theorem fl83_0 : tFld P 83 0 = some (0) := by kernel_rfl
theorem fl83_2 : tFld P 83 2 = some (19) := by kernel_rfl
theorem go100 : callGo Go.Proofs.Tryz.f100 = true := by kernel_rfl
theorem go101 : callGo Go.Proofs.Tryz.f101 = true := by kernel_rfl
theorem go102 : callGo Go.Proofs.Tryz.f102 = true := by kernel_rfl
theorem go122 : callGo Go.Proofs.Tryz.f122 = true := by kernel_rfl
theorem go25 : callGo Go.Proofs.Tryz.f25 = true := by kernel_rfl
theorem go43 : callGo Go.Proofs.Tryz.f43 = true := by kernel_rfl
theorem go46 : callGo Go.Proofs.Tryz.f46 = true := by kernel_rfl
theorem go70 : callGo Go.Proofs.Tryz.f70 = true := by kernel_rfl
theorem isl32 : isSl P 32 = true := by kernel_rfl
theorem isl37 : isSl P 37 = true := by kernel_rfl
theorem sl32 : tSl P 32 = some (6) := by kernel_rfl
theorem sl37 : tSl P 37 = some (8) := by kernel_rfl
theorem tz4 : tZero P 4 = some ([.bool false]) := by kernel_rfl
theorem tz47 : tZero P 47 = some ([.int .i64 0, .int .i64 0, .int .i64 0, .int .i64 0, .int .i64 0, .int .i64 0]) := by kernel_rfl
end Go.Proofs.YtaegeaajhbfkgaaGreatDoorA.FCeJ
namespace Go.Proofs.YtaegeaajhbfkgaaGreatDoorA
open Go FCeJ
attribute [local irreducible] XOps Quiet Loud W AC GQ DT
set_option maxHeartbeats 16000000 in
set_option maxRecDepth 100000 in
theorem clash_c (su : Su) (T : List AV) (b q : Nat) (hs : Hp) (hq : hs[q]? = some (b, .cells (su.enc.map AV.d ++ T))) (l : List Nd) (f : Fl) (ok : TuOk l) (fl : ∀ l ∈ f.legs, TuOk l) (fn : f.next.length ≤ 1000000) (fz : f.legs.length ≤ 1000) : AC P 102 [.ptr b 0, .d (tuD l), .d (.agg (Fl.enc f))] hs (fun r h => r = .d (.bool (claB su l f)) ∧ h = hs) := by
  refine AC.ofc 39 Tryz.func102 rfl rfl rfl ?_
  refine W.reg ?_
  refine XOps.loud rfl (L.box rfl rfl rfl) ?_
  rintro _ _ ⟨b3, rfl, rfl⟩
  refine XOps.loud rfl (L.boxn rfl rfl) ?_
  rintro _ _ ⟨b5, rfl, rfl⟩
  (refine XOps.loud rfl (L.alloc tz4 rfl rfl) ?_; rintro _ _ ⟨b6, rfl, rfl⟩)
  refine XOps.nil ?_
  refine W.seq ?_
  refine W.reg ?_
  refine XOps.s rfl rfl rfl (Q.move_d rfl) ?_
  (refine XOps.loud rfl (L.call rfl Tryz.func43 go43 rfl (all_c l _) rfl) ?_; rintro _ _ ⟨_, rfl, bb, rfl, rfl⟩)
  refine XOps.nil ?_
  refine W.block ?_
  refine W.range rfl Tryz.func70 go70 (fun id0 => ?_)
  refine ((allit_c l ok id0 bb _ (fun k H => H = (b6, .cells [.d (.bool false)]) :: (b5, .cells (f.enc.map .d)) :: (b3, .cells [.ptr b 0]) :: hs ∧ ∀ i, i < k → clashK su l f i = false) (fun H => H = (b6, .cells [.d (.bool true)]) :: (b5, .cells (f.enc.map .d)) :: (b3, .cells [.ptr b 0]) :: hs ∧ ∃ i, i < cntT l ∧ clashK su l f i = true) ((b6, .cells [.d (.bool false)]) :: (b5, .cells (f.enc.map .d)) :: (b3, .cells [.ptr b 0]) :: hs) ⟨rfl, fun i h => absurd h (Nat.not_lt_zero _)⟩ (fun k H priv hJ hk => ?_)).le (HLe.refl _)).mono ?_
  ·
    obtain ⟨rfl, hI⟩ := hJ
    have hXl := nodesF_len f.legs f.next (atN l (hdT l + (k : Nat))).t
    have hqp : (hs ++ priv)[q]? = some (b, .cells (su.enc.map AV.d ++ T)) := by rw [List.getElem?_append_left (List.getElem?_eq_some_iff.1 hq).1]; exact hq
    refine YC.of rfl rfl (fun B l0 => ?_)
    refine W.region ?_
    (refine XOps.loud rfl (L.alloc tz47 rfl rfl) ?_; rintro _ _ ⟨b7, rfl, rfl⟩)
    refine XOps.loud rfl (L.storen (k := 0) ag47 rfl rfl rfl rfl rfl) ?_
    rintro _ _ ⟨rfl, rfl⟩
    refine XOps.nil ?_
    refine ⟨(b7, .cells ((atN l (hdT l + (k : Nat))).enc.map .d)) :: (b6, .cells [.d (.bool false)]) :: (b5, .cells (f.enc.map .d)) :: (b3, .cells [.ptr b 0]) :: (hs ++ priv), HLe.pick 1 rfl rfl (HLe.refl _), ?_⟩
    refine W.named (fun lr hlr => ?_)
    refine W.block ?_
    refine W.reg ?_
    refine XOps.s rfl rfl rfl (Q.ld_ptrn (k := 3) ag41 rfl rfl rfl) ?_
    refine XOps.s rfl rfl rfl (Q.fld_ptr fl47_0 rfl) ?_
    refine XOps.s rfl rfl rfl (Q.fld_ptr fl45_0 rfl) ?_
    refine XOps.s rfl rfl rfl (Q.ld_ptr (k := 1) ag3 rfl rfl rfl) ?_
    refine XOps.s rfl rfl rfl (Q.call rfl Tryz.func46 go46 rfl (nodes_c f (atN l (hdT l + (k : Nat))).t _ fl fn fz)) ?_
    refine XOps.s rfl rfl rfl (Q.len_sl isl32 rfl) ?_
    refine XOps.s rfl rfl rfl (Q.move_d rfl) ?_
    refine XOps.nil ?_
    refine W.block ?_
    refine W.loop (ι := Nat) (fun j => [(3, .ptr b3 0), (6, .ptr b6 0), (7, .ptr b7 0), (19, .d (.sl 6 ((nodesF f.legs f.next (atN l (hdT l + (k : Nat))).t).map Nd.enc))), (20, .d (.int .i64 (nodesF f.legs f.next (atN l (hdT l + (k : Nat))).t).length)), (21, .d (.int .i64 (j : Nat)))]) (fun j => lr :: (b7, .cells ((atN l (hdT l + (k : Nat))).enc.map .d)) :: (b6, .cells [.d (.bool false)]) :: (b5, .cells (f.enc.map .d)) :: (b3, .cells [.ptr b 0]) :: (hs ++ priv)) (fun j => j ≤ (nodesF f.legs f.next (atN l (hdT l + (k : Nat))).t).length ∧ ((nodesF f.legs f.next (atN l (hdT l + (k : Nat))).t).take j).any (fun m => !SepB (atN l (hdT l + (k : Nat))) m su.lat su.ver) = false) (fun j => (nodesF f.legs f.next (atN l (hdT l + (k : Nat))).t).length - j) 0 ?_ ?_ ?_ ?_
    · exact ⟨Nat.zero_le _, rfl⟩
    · exact ⟨by first | rfl | exact int_eq (by omega) | exact len_eq (by simp) | exact int_eq (by simp; done), by first | rfl | exact int_eq (by omega) | exact len_eq (by simp) | exact int_eq (by simp; done), by first | rfl | exact int_eq (by omega) | exact len_eq (by simp) | exact int_eq (by simp; done), by first | rfl | exact int_eq (by omega) | exact len_eq (by simp) | exact int_eq (by simp; done), by exact int_eq (by rw [List.length_map]), by first | rfl | exact int_eq (by omega) | exact len_eq (by simp) | exact int_eq (by simp; done), trivial⟩
    · exact HLe.refl _
    · rintro j ⟨hj, hJ⟩
      refine W.reg ?_
      refine XOps.s rfl rfl rfl (Q.lss rfl rfl) ?_
      refine XOps.nil ?_
      refine W.seq ?_
      refine W.cond rfl (fun hc22 => ?_) (fun hc22 => ?_)
      · skip
        have h22 : (j : Int) < (((nodesF f.legs f.next (atN l (hdT l + (k : Nat))).t).length : Nat) : Int) := of_decide_eq_true hc22
        obtain ⟨m, hm⟩ : ∃ m, (nodesF f.legs f.next (atN l (hdT l + (k : Nat))).t)[j]? = some m := ⟨_, List.getElem?_eq_getElem (by omega)⟩
        have hst := any_take (p := fun m => !SepB (atN l (hdT l + (k : Nat))) m su.lat su.ver) hm
        refine W.skip ?_
        refine W.seq ?_
        refine W.block ?_
        refine W.reg ?_
        refine XOps.s rfl rfl rfl (Q.idx_sl sl32 (by decide) rfl rfl (by first | omega | (simp only [List.length_map]; omega)) (by exact map_at hm)) ?_
        refine XOps.s rfl rfl rfl (Q.ld_dpn ag47 rfl rfl) ?_
        (refine XOps.loud rfl (L.alloc tz47 rfl rfl) ?_; rintro _ _ ⟨b9, rfl, rfl⟩)
        refine XOps.loud rfl (L.storen (k := 0) ag47 rfl rfl rfl rfl rfl) ?_
        rintro _ _ ⟨rfl, rfl⟩
        refine XOps.nil ?_
        refine W.drawreg 12 follows (by kernel_rfl) ?_
        refine Chain.cons _ (GQ.q rfl (Q.ld_ptrn (k := 2) ag47 rfl rfl rfl)) rfl ?_
        refine Chain.cons _ (GQ.q rfl (Q.ld_ptrn (k := 0) ag47 rfl rfl rfl)) rfl ?_
        refine Chain.cons _ (GQ.q rfl (Q.ld_ptr (k := 5) ag31 rfl rfl rfl)) rfl ?_
        refine Chain.cons _ (GQ.q rfl (Q.nil_ptr rfl)) rfl ?_
        refine Chain.cons _ (GQ.q rfl (Q.fld_ptr fl83_0 rfl)) rfl ?_
        refine Chain.cons _ (GQ.q rfl (Q.fld_ptr fl27_0 rfl)) rfl ?_
        refine Chain.cons _ (GQ.q rfl (Q.ld_ptrn (k := q + 6) ag23 rfl hqp rfl)) rfl ?_
        refine Chain.cons _ (GQ.q rfl (Q.call rfl Tryz.func25 go25 rfl (Sep_c (atN l (hdT l + (k : Nat))) m su.lat su.ver _))) rfl ?_
        refine Chain.cons _ (GQ.q rfl (Q.move_tup rfl)) rfl ?_
        refine Chain.cons _ (GQ.q rfl (Q.extract rfl rfl)) rfl ?_
        refine Chain.cons _ (GQ.q rfl (Q.extract rfl rfl)) rfl ?_
        refine Chain.cons _ (GQ.q rfl (Q.assign_d rfl)) rfl ?_
        refine Chain.nil ?_
        refine XOps.s rfl rfl rfl (Q.assign_d rfl) ?_
        refine XOps.nil ?_
        refine W.reg ?_
        refine XOps.s rfl rfl rfl (Q.move_d rfl) ?_
        refine XOps.s rfl rfl rfl (Q.not rfl) ?_
        refine XOps.nil ?_
        refine W.cond rfl (fun hc37 => ?_) (fun hc37 => ?_)
        · skip
          have hkt : clashK su l f k = true := any_yes (p := fun m => !SepB (atN l (hdT l + (k : Nat))) m su.lat su.ver) hm hc37
          refine W.reg ?_
          refine XOps.loud rfl (L.store (k := 3) ag4 rfl rfl rfl rfl rfl) ?_
          rintro _ _ ⟨rfl, rfl⟩
          refine XOps.nil ?_
          refine W.ret ?_
          subst hlr
          exact ⟨(b6, .cells [.d (.bool true)]) :: (b5, .cells (f.enc.map .d)) :: (b3, .cells [.ptr b 0]) :: (hs ++ priv), HLe.pick 1 rfl rfl (HLe.skip _ (HLe.skip _ (HLe.refl _))), false, rfl, (b6, .cells [.d (.bool true)]) :: (b5, .cells (f.enc.map .d)) :: (b3, .cells [.ptr b 0]) :: hs, by rw [if_neg (by simp)]; exact ⟨rfl, k, hk, hkt⟩, rfl⟩
        · skip
          have h37 : (!SepB (atN l (hdT l + (k : Nat))) m su.lat su.ver) = false := hc37
          rw [hJ, h37] at hst
          refine W.skip ?_
          refine W.region ?_
          refine XOps.s rfl rfl rfl (Q.add rfl rfl (wi64 (by first | omega | (dsimp only; omega) | (simp only [List.length_map]; omega)) (by first | omega | (dsimp only; omega) | (simp only [List.length_map]; omega)))) ?_
          refine XOps.s rfl rfl rfl (Q.move_d rfl) ?_
          refine XOps.nil ?_
          refine ⟨j + 1, ?_, ?_, ?_, ?_⟩
          · exact ⟨by omega, hst⟩
          · omega
          · exact ⟨by first | rfl | exact int_eq (by omega) | exact len_eq (by simp) | exact int_eq (by simp; done), by first | rfl | exact int_eq (by omega) | exact len_eq (by simp) | exact int_eq (by simp; done), by first | rfl | exact int_eq (by omega) | exact len_eq (by simp) | exact int_eq (by simp; done), by first | rfl | exact int_eq (by omega) | exact len_eq (by simp) | exact int_eq (by simp; done), by first | rfl | exact int_eq (by omega) | exact len_eq (by simp) | exact int_eq (by simp; done), by first | rfl | exact int_eq (by omega) | exact len_eq (by simp) | exact int_eq (by simp; done), trivial⟩
          · exact HLe.skip _ (HLe.refl _)
      · skip
        have h22 : ¬ (j : Int) < (((nodesF f.legs f.next (atN l (hdT l + (k : Nat))).t).length : Nat) : Int) := of_decide_eq_false hc22
        obtain rfl : j = (nodesF f.legs f.next (atN l (hdT l + (k : Nat))).t).length := by omega
        rw [List.take_length] at hJ
        have hkf : clashK su l f k = false := hJ
        refine W.exit ?_
        subst hlr
        exact ⟨(b6, .cells [.d (.bool false)]) :: (b5, .cells (f.enc.map .d)) :: (b3, .cells [.ptr b 0]) :: (hs ++ priv), HLe.pick 0 rfl rfl (HLe.skip _ (HLe.refl _)), true, rfl, (b6, .cells [.d (.bool false)]) :: (b5, .cells (f.enc.map .d)) :: (b3, .cells [.ptr b 0]) :: hs, by rw [if_pos rfl]; exact ⟨rfl, fun i hi => by
          rcases Nat.lt_or_ge i k with h | h
          · exact hI i h
          · rw [show i = k by omega]; exact hkf⟩, rfl⟩
  · rintro _ _ ⟨rfl, q2, H2, hq2, rfl⟩
    by_cases hqq : q2 = false
    · subst hqq
      rw [if_neg (by simp)] at hq2
      obtain ⟨rfl, i, hi, hin⟩ := hq2
      refine .inr (.inl ⟨(b6, .cells [.d (.bool true)]) :: (b5, .cells (f.enc.map .d)) :: (b3, .cells [.ptr b 0]) :: hs, HLe.refl _, ?_⟩)
      rw [claB_yes hi hin]
      exact ⟨_, hs, (.cons (by first | exact .celln 0 ag4 rfl rfl rfl | exact .cell1 0 ag4 rfl rfl rfl | exact .celln 1 ag4 rfl rfl rfl | exact .cell1 1 ag4 rfl rfl rfl | exact .celln 2 ag4 rfl rfl rfl | exact .cell1 2 ag4 rfl rfl rfl | exact .celln 3 ag4 rfl rfl rfl | exact .cell1 3 ag4 rfl rfl rfl | exact .celln 4 ag4 rfl rfl rfl | exact .cell1 4 ag4 rfl rfl rfl) .nil), HLe.skip _ (HLe.skip _ (HLe.skip _ (HLe.refl _))), rfl, rfl⟩
    have hqt : q2 = true := by cases q2 with | true => rfl | false => exact absurd rfl hqq
    subst hqt
    rw [if_pos rfl] at hq2
    obtain ⟨rfl, hI⟩ := hq2
    rw [claB_no hI]
    refine rangeQ.go ((b6, .cells [.d (.bool false)]) :: (b5, .cells (f.enc.map .d)) :: (b3, .cells [.ptr b 0]) :: hs) (HLe.refl _) ?_
    refine W.reg ?_
    refine XOps.loud rfl (L.store (k := 0) ag4 rfl rfl rfl rfl rfl) ?_
    rintro _ _ ⟨rfl, rfl⟩
    refine XOps.nil ?_
    refine W.ret ?_
    exact ⟨_, hs, (.cons (by first | exact .celln 0 ag4 rfl rfl rfl | exact .cell1 0 ag4 rfl rfl rfl | exact .celln 1 ag4 rfl rfl rfl | exact .cell1 1 ag4 rfl rfl rfl | exact .celln 2 ag4 rfl rfl rfl | exact .cell1 2 ag4 rfl rfl rfl | exact .celln 3 ag4 rfl rfl rfl | exact .cell1 3 ag4 rfl rfl rfl | exact .celln 4 ag4 rfl rfl rfl | exact .cell1 4 ag4 rfl rfl rfl) .nil), HLe.skip _ (HLe.skip _ (HLe.skip _ (HLe.refl _))), rfl, rfl⟩
set_option maxHeartbeats 1000000 in
set_option maxRecDepth 100000 in
theorem cls1_c (su : Su) (T : List AV) (b q : Nat) (hs : Hp) (hq : hs[q]? = some (b, .cells (su.enc.map AV.d ++ T))) (l : List Nd) (c : ByteArray) (f : Fl) (i3 i4 i5 k3 k4 k5 : Nat) (q3 : hs[k3]? = some (i3, .cells [.ptr b 0])) (q4 : hs[k4]? = some (i4, .cells [.d (.str c)])) (q5 : hs[k5]? = some (i5, .cells [.d (tuD l)])) (ok : TuOk l) (fl : ∀ l ∈ f.legs, TuOk l) (fn : f.next.length ≤ 1000000) (fz : f.legs.length ≤ 1000) : AC P 101 [.d (.agg (Fl.enc f)), .ptr i4 0, .ptr i3 0, .ptr i5 0] hs (fun r h => r = .d (.bool (!(f.call.toList == c.toList) && claB su l f)) ∧ h = hs) := by
  refine AC.of 16 Tryz.func101 rfl rfl rfl ?_
  refine W.reg ?_
  refine XOps.loud rfl (L.boxn rfl rfl) ?_
  rintro _ _ ⟨b4, rfl, rfl⟩
  refine XOps.s rfl rfl rfl (Q.assign_d rfl) ?_
  refine XOps.nil ?_
  refine W.reg ?_
  refine XOps.s rfl rfl rfl (Q.fld_ptr fl41_0 rfl) ?_
  refine XOps.s rfl rfl rfl (Q.ld_ptr (k := 0) ag9 rfl rfl rfl) ?_
  refine XOps.s rfl rfl rfl (Q.ld_ptr (k := k4 + 1) ag9 rfl q4 rfl) ?_
  refine XOps.s rfl rfl rfl (Q.neq_str rfl rfl) ?_
  refine XOps.s rfl rfl rfl (Q.move_d rfl) ?_
  refine XOps.gs rfl rfl rfl rfl rfl rfl rfl (fun hg => Q.ld_ptr (k := k3 + 1) ag31 rfl q3 rfl) ?_
  refine XOps.gs rfl rfl rfl rfl rfl rfl rfl (fun hg => Q.ld_ptr (k := k5 + 1) ag33 rfl q5 rfl) ?_
  refine XOps.gs rfl rfl rfl rfl rfl rfl rfl (fun hg => Q.ld_ptrn (k := 0) ag41 rfl rfl rfl) ?_
  refine XOps.gs rfl rfl rfl rfl rfl rfl rfl (fun hg => Quiet.open 11 hg rfl (Quiet.open 12 hg rfl (Quiet.open 13 hg rfl (Q.call rfl Tryz.func102 go102 rfl (clash_c su T b (q + 1) _ hq l f ok fl fn fz))))) ?_
  refine XOps.s rfl rfl rfl (Q.pick_and rfl rfl rfl (fun h => by first | (rw [h]; rfl) | (rw [hg, h]; rfl) | (simp [h, hg]; done))) ?_
  refine XOps.s rfl rfl rfl (Q.assign_d rfl) ?_
  refine XOps.nil ?_
  refine W.ret ?_
  exact ⟨_, hs, rfl, HLe.skip _ (HLe.refl _), rfl, rfl⟩
set_option maxHeartbeats 1000000 in
set_option maxRecDepth 100000 in
theorem indexF_c {fn : Func} (f : Nat) (caps : List AV) (p : Fl → Bool) (l : List Fl) (hs : Hp) (hL : l.length ≤ 4611686018427387904) (hf : P.funcs[f]? = some fn) (hg : callGo fn = true) (hp : ∀ x ∈ l, AC P f ([AV.d (.agg (Fl.enc x))] ++ caps) hs (fun r h => r = .d (.bool (p x)) ∧ h = hs)) : AC P 122 [.d (.sl 8 (l.map Fl.enc)), .fn f caps] hs (fun r h => r = .d (.int .i64 (idxP p l)) ∧ h = hs) := by
  refine AC.of 19 Tryz.func122 rfl rfl rfl ?_
  refine W.reg ?_
  refine XOps.s rfl rfl rfl (Q.assign_d rfl) ?_
  refine XOps.nil ?_
  refine W.seq ?_
  refine W.reg ?_
  refine XOps.s rfl rfl rfl (Q.move_d rfl) ?_
  refine XOps.s rfl rfl rfl (Q.len_sl isl37 rfl) ?_
  refine XOps.s rfl rfl rfl (Q.move_d rfl) ?_
  refine XOps.nil ?_
  refine W.block ?_
  refine W.loop (ι := Nat) (fun k => [(0, .d (.sl 8 (l.map Fl.enc))), (1, .fn f caps), (7, .d (.int .i64 l.length)), (8, .d (.int .i64 k))]) (fun k => hs) (fun k => k ≤ l.length ∧ ∀ i x, i < k → l[i]? = some x → p x = false) (fun k => l.length - k) 0 ?_ ?_ ?_ ?_
  · exact ⟨Nat.zero_le _, fun i x h => absurd h (Nat.not_lt_zero _)⟩
  · exact ⟨by first | rfl | exact int_eq (by omega) | exact len_eq (by simp) | exact int_eq (by simp; done), by first | rfl | exact int_eq (by omega) | exact len_eq (by simp) | exact int_eq (by simp; done), by first | rfl | exact int_eq (by omega) | exact len_eq (by simp) | exact int_eq (by simp; done), by first | rfl | exact int_eq (by omega) | exact len_eq (by simp) | exact int_eq (by simp; done), trivial⟩
  · repeat (first | exact HLe.refl _ | refine HLe.cons' (by first | rfl | (simp [Nd.enc]; done)) ?_ | refine HLe.pick 1 rfl (by first | rfl | (simp [Nd.enc]; done)) ?_ | refine HLe.pick 2 rfl (by first | rfl | (simp [Nd.enc]; done)) ?_ | refine HLe.pick 3 rfl (by first | rfl | (simp [Nd.enc]; done)) ?_ | refine HLe.pick 4 rfl (by first | rfl | (simp [Nd.enc]; done)) ?_ | refine HLe.pick 5 rfl (by first | rfl | (simp [Nd.enc]; done)) ?_ | refine HLe.skip _ ?_)
  · rintro k ⟨hk, hI⟩
    try dsimp only
    refine W.reg ?_
    refine XOps.s rfl rfl rfl (Q.lss rfl rfl) ?_
    refine XOps.nil ?_
    refine W.seq ?_
    refine W.cond rfl (fun hc9 => ?_) (fun hc9 => ?_)
    · try simp only [Bool.or_eq_true, Bool.or_eq_false_iff, Bool.and_eq_true, Bool.and_eq_false_iff, decide_eq_true_eq, decide_eq_false_iff_not, Bool.not_eq_true', Bool.not_eq_false', Int.not_lt, Int.not_le, List.length_map] at hc9
      obtain ⟨x, hx⟩ : ∃ x, l[k]? = some x := ⟨_, List.getElem?_eq_getElem (by omega)⟩
      refine W.skip ?_
      refine W.seq ?_
      refine W.block ?_
      refine W.reg ?_
      refine XOps.s rfl rfl rfl (Q.move_d rfl) ?_
      refine XOps.s rfl rfl rfl (Q.assign_d rfl) ?_
      refine XOps.nil ?_
      refine W.reg ?_
      refine XOps.s rfl rfl rfl (Q.move_fn rfl) ?_
      refine XOps.s rfl rfl rfl (Q.move_d rfl) ?_
      refine XOps.s rfl rfl rfl (Q.move_d rfl) ?_
      refine XOps.s rfl rfl rfl (Q.idx_sl sl37 (by decide) rfl rfl (by first | omega | (simp only [List.length_map]; omega)) (by first | exact map_at hx | exact map_at0 hx | assumption)) ?_
      refine XOps.s rfl rfl rfl (Q.ld_dpn ag41 rfl rfl) ?_
      refine XOps.s rfl rfl rfl (Q.call rfl hf hg rfl (hp x (List.mem_of_getElem? hx))) ?_
      refine XOps.nil ?_
      refine W.cond rfl (fun hc16 => ?_) (fun hc16 => ?_)
      · try simp only [Bool.or_eq_true, Bool.or_eq_false_iff, Bool.and_eq_true, Bool.and_eq_false_iff, decide_eq_true_eq, decide_eq_false_iff_not, Bool.not_eq_true', Bool.not_eq_false', Int.not_lt, Int.not_le, List.length_map] at hc16
        have hr := idxP_some hx hc16 hI
        refine W.reg ?_
        refine XOps.s rfl rfl rfl (Q.move_d rfl) ?_
        refine XOps.s rfl rfl rfl (Q.assign_d rfl) ?_
        refine XOps.nil ?_
        refine W.ret ?_
        refine ⟨_, hs, rfl, by repeat (first | exact HLe.refl _ | refine HLe.cons' (by first | rfl | (simp [Nd.enc]; done)) ?_ | refine HLe.pick 1 rfl (by first | rfl | (simp [Nd.enc]; done)) ?_ | refine HLe.pick 2 rfl (by first | rfl | (simp [Nd.enc]; done)) ?_ | refine HLe.pick 3 rfl (by first | rfl | (simp [Nd.enc]; done)) ?_ | refine HLe.pick 4 rfl (by first | rfl | (simp [Nd.enc]; done)) ?_ | refine HLe.pick 5 rfl (by first | rfl | (simp [Nd.enc]; done)) ?_ | refine HLe.skip _ ?_), ?_, rfl⟩
        rw [hr]; rfl
      · try simp only [Bool.or_eq_true, Bool.or_eq_false_iff, Bool.and_eq_true, Bool.and_eq_false_iff, decide_eq_true_eq, decide_eq_false_iff_not, Bool.not_eq_true', Bool.not_eq_false', Int.not_lt, Int.not_le, List.length_map] at hc16
        refine W.skip ?_
        refine W.region ?_
        refine XOps.s rfl rfl rfl (Q.add rfl rfl (wi64 (by first | omega | (dsimp only; omega) | (simp only [List.length_map]; omega)) (by first | omega | (dsimp only; omega) | (simp only [List.length_map]; omega)))) ?_
        refine XOps.s rfl rfl rfl (Q.move_d rfl) ?_
        refine XOps.nil ?_
        refine ⟨k + 1, ?_, ?_, ?_, ?_⟩
        · refine ⟨by omega, fun i y h hy => ?_⟩
          rcases Nat.lt_or_ge i k with h2 | h2
          · exact hI i y h2 hy
          · obtain rfl : i = k := by omega
            rw [hx] at hy; obtain rfl := Option.some.inj hy; exact (by simpa using hc16)
        · omega
        · exact ⟨by first | rfl | exact int_eq (by omega) | exact len_eq (by simp) | exact int_eq (by simp; done), by first | rfl | exact int_eq (by omega) | exact len_eq (by simp) | exact int_eq (by simp; done), by first | rfl | exact int_eq (by omega) | exact len_eq (by simp) | exact int_eq (by simp; done), by first | rfl | exact int_eq (by omega) | exact len_eq (by simp) | exact int_eq (by simp; done), trivial⟩
        · repeat (first | exact HLe.refl _ | refine HLe.cons' (by first | rfl | (simp [Nd.enc]; done)) ?_ | refine HLe.pick 1 rfl (by first | rfl | (simp [Nd.enc]; done)) ?_ | refine HLe.pick 2 rfl (by first | rfl | (simp [Nd.enc]; done)) ?_ | refine HLe.pick 3 rfl (by first | rfl | (simp [Nd.enc]; done)) ?_ | refine HLe.pick 4 rfl (by first | rfl | (simp [Nd.enc]; done)) ?_ | refine HLe.pick 5 rfl (by first | rfl | (simp [Nd.enc]; done)) ?_ | refine HLe.skip _ ?_)
    · try simp only [Bool.or_eq_true, Bool.or_eq_false_iff, Bool.and_eq_true, Bool.and_eq_false_iff, decide_eq_true_eq, decide_eq_false_iff_not, Bool.not_eq_true', Bool.not_eq_false', Int.not_lt, Int.not_le, List.length_map] at hc9
      have hr := idxP_none (p := p) (l := l) fun i x h => hI i x (by have := (List.getElem?_eq_some_iff.1 h).1; omega) h
      refine W.exit ?_
      refine W.reg ?_
      refine XOps.s rfl rfl rfl (Q.assign_d rfl) ?_
      refine XOps.nil ?_
      refine W.ret ?_
      refine ⟨_, hs, rfl, by repeat (first | exact HLe.refl _ | refine HLe.cons' (by first | rfl | (simp [Nd.enc]; done)) ?_ | refine HLe.pick 1 rfl (by first | rfl | (simp [Nd.enc]; done)) ?_ | refine HLe.pick 2 rfl (by first | rfl | (simp [Nd.enc]; done)) ?_ | refine HLe.pick 3 rfl (by first | rfl | (simp [Nd.enc]; done)) ?_ | refine HLe.pick 4 rfl (by first | rfl | (simp [Nd.enc]; done)) ?_ | refine HLe.pick 5 rfl (by first | rfl | (simp [Nd.enc]; done)) ?_ | refine HLe.skip _ ?_), ?_, rfl⟩
      rw [hr]; rfl
set_option maxHeartbeats 1000000 in
set_option maxRecDepth 100000 in
theorem containsF_c {fn : Func} (f : Nat) (caps : List AV) (p : Fl → Bool) (l : List Fl) (hs : Hp) (hL : l.length ≤ 4611686018427387904) (hf : P.funcs[f]? = some fn) (hg : callGo fn = true) (hp : ∀ x ∈ l, AC P f ([AV.d (.agg (Fl.enc x))] ++ caps) hs (fun r h => r = .d (.bool (p x)) ∧ h = hs)) : AC P 100 [.d (.sl 8 (l.map Fl.enc)), .fn f caps] hs (fun r h => r = .d (.bool (l.any p)) ∧ h = hs) := by
  refine AC.of 9 Tryz.func100 rfl rfl rfl ?_
  refine W.reg ?_
  refine XOps.s rfl rfl rfl (Q.assign_d rfl) ?_
  refine XOps.nil ?_
  refine W.reg ?_
  refine XOps.s rfl rfl rfl (Q.move_d rfl) ?_
  refine XOps.s rfl rfl rfl (Q.move_fn rfl) ?_
  refine XOps.s rfl rfl rfl (Q.call rfl Tryz.func122 go122 rfl (indexF_c f caps p l hs hL hf hg hp)) ?_
  refine XOps.s rfl rfl rfl (Q.geq rfl rfl) ?_
  refine XOps.s rfl rfl rfl (Q.assign_d rfl) ?_
  refine XOps.nil ?_
  refine W.ret ?_
  refine ⟨_, hs, rfl, by repeat (first | exact HLe.refl _ | refine HLe.cons' (by first | rfl | (simp [Nd.enc]; done)) ?_ | refine HLe.pick 1 rfl (by first | rfl | (simp [Nd.enc]; done)) ?_ | refine HLe.pick 2 rfl (by first | rfl | (simp [Nd.enc]; done)) ?_ | refine HLe.pick 3 rfl (by first | rfl | (simp [Nd.enc]; done)) ?_ | refine HLe.pick 4 rfl (by first | rfl | (simp [Nd.enc]; done)) ?_ | refine HLe.pick 5 rfl (by first | rfl | (simp [Nd.enc]; done)) ?_ | refine HLe.skip _ ?_), ?_, rfl⟩
  rw [idxP_any]; rfl
set_option maxHeartbeats 4000000 in
set_option maxRecDepth 100000 in
theorem clashes_c (su : Su) (tm : AV) (fl : List Fl) (T : List AV) (b q : Nat) (hs : Hp) (hq : hs[q]? = some (b, .cells (su.enc.map AV.d ++ tm :: .d (.sl 8 (fl.map Fl.enc)) :: T))) (c : ByteArray) (l : List Nd) (ok : TuOk l) (fo : ∀ f ∈ fl, FlOk f) (hf : fl.length ≤ 1000) : AC P 80 [.ptr b 0, .d (.str c), .d (tuD l)] hs (fun r h => r = .d (.bool (clashesB su fl c l)) ∧ h = hs) := by
  refine AC.of 13 Tryz.func80 rfl rfl rfl ?_
  refine W.reg ?_
  refine XOps.loud rfl (L.box rfl rfl rfl) ?_
  rintro _ _ ⟨b3, rfl, rfl⟩
  refine XOps.loud rfl (L.box rfl rfl rfl) ?_
  rintro _ _ ⟨b4, rfl, rfl⟩
  refine XOps.loud rfl (L.box rfl rfl rfl) ?_
  rintro _ _ ⟨b5, rfl, rfl⟩
  refine XOps.s rfl rfl rfl (Q.assign_d rfl) ?_
  refine XOps.nil ?_
  refine W.reg ?_
  refine XOps.s rfl rfl rfl (Q.ld_ptr (k := 2) ag31 rfl rfl rfl) ?_
  refine XOps.s rfl rfl rfl (Q.nil_ptr rfl) ?_
  refine XOps.s rfl rfl rfl (Q.fld_ptr fl83_2 rfl) ?_
  refine XOps.s rfl rfl rfl (Q.ld_ptr (k := q + 3) ag37 rfl hq rfl) ?_
  refine XOps.s rfl rfl rfl (Q.mkfn rfl) ?_
  refine XOps.s rfl rfl rfl (Q.call rfl Tryz.func100 go100 rfl (containsF_c 101 [.ptr b4 0, .ptr b3 0, .ptr b5 0] (fun f => !(f.call.toList == c.toList) && claB su l f) fl _ (by omega) Tryz.func101 go101 (fun f hf => cls1_c su _ b (q + 3) _ hq l c f b3 b4 b5 2 1 0 rfl rfl rfl ok (fo f hf).legs ((fo f hf).next.elim (fun h => by rw [h]; exact Nat.zero_le _) (fun h => by have := h.len; omega)) (by have := (fo f hf).len; omega)))) ?_
  refine XOps.s rfl rfl rfl (Q.assign_d rfl) ?_
  refine XOps.nil ?_
  refine W.ret ?_
  exact ⟨_, hs, rfl, HLe.skip _ (HLe.skip _ (HLe.skip _ (HLe.refl _))), rfl, rfl⟩
end Go.Proofs.YtaegeaajhbfkgaaGreatDoorA

