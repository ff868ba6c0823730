/- The law RecordTorn. -/
import Derived.Test.YtldkkoecehdicaaDoorBase
import Derived.Test.YtldkkoecehdicaaDoorRcH
set_option linter.unusedVariables false
set_option linter.unusedSimpArgs false
set_option linter.unnecessarySimpa false
namespace Go.Proofs.YtldkkoecehdicaaDoorA.FRcJ
open Go
theorem ag23 : tAgg P 23 = some ((true, 4)) := by kernel_rfl
theorem go10 : callGo Go.Proofs.Tryd.f10 = true := by kernel_rfl
theorem go12 : callGo Go.Proofs.Tryd.f12 = true := by kernel_rfl
theorem go14 : callGo Go.Proofs.Tryd.f14 = true := by kernel_rfl
theorem go15 : callGo Go.Proofs.Tryd.f15 = true := by kernel_rfl
theorem go16 : callGo Go.Proofs.Tryd.f16 = true := by kernel_rfl
theorem go18 : callGo Go.Proofs.Tryd.f18 = true := by kernel_rfl
theorem go19 : callGo Go.Proofs.Tryd.f19 = true := by kernel_rfl
theorem go9 : callGo Go.Proofs.Tryd.f9 = true := by kernel_rfl
theorem ipt35 : isPtr P 35 = true := by kernel_rfl
theorem isl34 : isSl P 34 = true := by kernel_rfl
theorem ist9 : isStr P 9 = true := by kernel_rfl
theorem sl34 : tSl P 34 = some (4) := by kernel_rfl
theorem tz23 : tZero P 23 = some ([.int .i64 0, .int .i64 0, .string ⟨#[]⟩, .string ⟨#[]⟩]) := by kernel_rfl
end Go.Proofs.YtldkkoecehdicaaDoorA.FRcJ
namespace Go.Proofs.YtldkkoecehdicaaDoorA
open Go FRcJ
attribute [local irreducible] XOps Quiet Loud W AC GQ DT
theorem bytesL_take {l : List EN} (k : Nat) : bytesL l = bytesL (l.take k) ++ bytesL (l.drop k) := by rw [← bytesL_app, List.take_append_drop]
theorem bytesL_succ {l : List EN} {k : Nat} {e : EN} (h : l[k]? = some e) : bytesL (l.take (k + 1)) = bytesL (l.take k) ++ encB e := by
  obtain ⟨h1, h2⟩ := List.getElem?_eq_some_iff.1 h
  rw [List.take_succ_eq_append_getElem h1, h2, bytesL_app, bytesL_one]
theorem bytes_front {l : List EN} (k : Nat) : (bs (bytesL l)).extract 0 (bytesL (l.take k)).length = bs (bytesL (l.take k)) := bl_inj (by
  rw [bl_extract, bl_bs, bl_bs, List.drop_zero, bytesL_take (l := l) k, List.take_left])
/-- Of the bytes that are cut the complete entries are recovered. -/
theorem rec_cut {l : List EN} (ok : Okl l) {n j : Nat} (hj : j ≤ l.length) (h1 : (bytesL (l.take j)).length ≤ n) (hn : n ≤ (bytesL l).length)
    (h2 : ∀ e, l[j]? = some e → n < (bytesL (l.take j)).length + (encB e).length) : recL ((bs (bytesL l)).extract 0 n) = l.take j := by
  have hs : bl ((bs (bytesL l)).extract 0 n) = (bytesL l).take n := by rw [bl_extract, bl_bs, List.drop_zero]
  have hp : ((bytesL l).take n) = bytesL (l.take j) ++ (bytesL (l.drop j)).take (n - (bytesL (l.take j)).length) := by
    conv => lhs; rw [bytesL_take j, List.take_append, List.take_of_length_le h1]
  unfold recL
  have hf := (rec_front (l.take j) [] ((bs (bytesL l)).extract 0 n) (bs ((bytesL (l.drop j)).take (n - (bytesL (l.take j)).length))) (((bs (bytesL l)).extract 0 n).size + 1) (by simpa using ok.take j) (by omega) (by rw [hs, hp, bl_bs])).1
  rw [hf, List.nil_append, rec_stop]
  have h5 : decE (bs ((bytesL (l.drop j)).take (n - (bytesL (l.take j)).length))) = 5 := by
    rcases Nat.lt_or_ge j l.length with h | h
    · have he : l[j]? = some l[j] := List.getElem?_eq_getElem h
      have h3 := h2 _ he
      refine dec_cut (e := l[j]) (m := n - (bytesL (l.take j)).length) (ok.ok _ (List.getElem_mem h)) (by omega) ?_
      rw [bl_bs, List.drop_eq_getElem_cons h, bytesL_cons, List.take_append_of_le_length (by omega)]
    · rw [List.drop_of_length_le h, show bytesL [] = [] from rfl, List.take_nil]
      show decE ⟨#[]⟩ = 5
      decide +kernel
  unfold stopR
  rw [h5]; rfl
theorem take_cut {l : List EN} {k : Nat} : (l.take (k : Int).toNat).drop (0 : Int).toNat = l.take k := by
  rw [Int.toNat_natCast]; rfl

set_option maxHeartbeats 8000000 in
set_option maxRecDepth 100000 in
theorem torn_c (xs : List EN) (m : Int) (gd : Nat) (hs : Hp) (hx : ∀ x ∈ xs, x.kind.size ≤ 140737488351232 ∧ x.text.size ≤ 140737488351232) : AC P 7 [.d (.sl 4 (xs.map EN.enc)), .d (.int .i64 m)] ((gd, p10G) :: hs) (fun r h => r = .d (.bool true)) := by
  obtain ⟨ok, hln⟩ := logV_ok xs
  have hbz := bytesL_size ok
  have hb2 := bs_size (bytesL (logV xs))
  refine AC.of 91 Tryd.func7 rfl rfl rfl ?_
  refine W.reg ?_
  refine XOps.s rfl rfl rfl (Q.assign_d rfl) ?_
  refine XOps.nil ?_
  refine W.reg ?_
  refine XOps.s rfl rfl rfl (Q.move_d rfl) ?_
  (refine XOps.loud rfl (L.call rfl Tryd.func14 go14 rfl (logof_c xs gd hs hx) rfl) ?_; rintro _ _ ⟨_, rfl, b, f, rfl, rfl⟩)
  refine XOps.s rfl rfl rfl (Q.assign_ptr rfl) ?_
  refine XOps.nil ?_
  refine W.seq ?_
  refine W.reg ?_
  refine XOps.s rfl rfl rfl (Q.call rfl Tryd.func9 go9 rfl (rfact_c gd (reH b (logV xs) f hs))) ?_
  refine XOps.s rfl rfl rfl (Q.not rfl) ?_
  refine XOps.s rfl rfl rfl (Q.move_d rfl) ?_
  refine XOps.gs rfl rfl rfl rfl rfl rfl rfl (fun hg => Q.move_ptr rfl) ?_
  refine XOps.gs rfl rfl rfl rfl rfl rfl rfl (fun hg => Quiet.open 21 hg rfl (Q.eql_ptr ipt35 rfl rfl)) ?_
  refine XOps.s rfl rfl rfl (Q.pick_or rfl rfl rfl (fun h => by first | (rw [h]; rfl) | (rw [hg, h]; rfl) | (simp [h, hg]; done))) ?_
  refine XOps.nil ?_
  refine W.cond rfl (fun hc23 => ?_) (fun hc23 => ?_)
  · try simp only [Bool.or_eq_true, Bool.or_eq_false_iff, Bool.and_eq_true, Bool.and_eq_false_iff, decide_eq_true_eq, decide_eq_false_iff_not, Bool.not_eq_true', Bool.not_eq_false', Int.not_lt, Int.not_le, List.length_map] at hc23
    exact absurd hc23 (by decide)
  · try simp only [Bool.or_eq_true, Bool.or_eq_false_iff, Bool.and_eq_true, Bool.and_eq_false_iff, decide_eq_true_eq, decide_eq_false_iff_not, Bool.not_eq_true', Bool.not_eq_false', Int.not_lt, Int.not_le, List.length_map] at hc23
    refine W.skip ?_
    refine W.reg ?_
    refine XOps.s rfl rfl rfl (Q.move_ptr rfl) ?_
    refine XOps.s rfl rfl rfl (Q.call rfl Tryd.func16 go16 rfl (bytes_c 1 2 rfl rfl)) ?_
    refine XOps.s rfl rfl rfl (Q.assign_d rfl) ?_
    refine XOps.nil ?_
    refine W.reg ?_
    refine XOps.s rfl rfl rfl (Q.move_d rfl) ?_
    refine XOps.s rfl rfl rfl (Q.move_d rfl) ?_
    refine XOps.s rfl rfl rfl (Q.len_str ist9 rfl) ?_
    refine XOps.s rfl rfl rfl (Q.call rfl Tryd.func12 go12 rfl (rcut_c m 0 ((bs (bytesL (logV xs))).size : Nat) _ (by omega) (by omega) (by omega))) ?_
    refine XOps.s rfl rfl rfl (Q.assign_d rfl) ?_
    refine XOps.nil ?_
    obtain ⟨j, hj, hjl⟩ : ∃ j : Nat, cutI m 0 (((bs (bytesL (logV xs))).size : Nat) : Int) = j ∧ j ≤ (bs (bytesL (logV xs))).size := by
      have := cutI_bounds m (lo := 0) (hi := (((bs (bytesL (logV xs))).size : Nat) : Int)) (by omega)
      exact ⟨(cutI m 0 (((bs (bytesL (logV xs))).size : Nat) : Int)).toNat, by omega, by omega⟩
    rw [hj]
    have hxs := (ext_split (bs (bytesL (logV xs))) hjl).2.1
    refine W.reg ?_
    refine XOps.s rfl rfl rfl (Q.move_d rfl) ?_
    refine XOps.s rfl rfl rfl (Q.move_d rfl) ?_
    refine XOps.s rfl rfl rfl (Q.cut_strN (i := 0) (j := j) ist9 rfl rfl rfl (by omega) (by omega)) ?_
    (refine XOps.loud rfl (L.call rfl Tryd.func15 go15 rfl (recover_c ((bs (bytesL (logV xs))).extract 0 j) gd (reH b (logV xs) f hs) (by omega)) rfl) ?_; rintro _ _ ⟨_, rfl, b2, f2, rfl, rfl⟩)
    refine XOps.s rfl rfl rfl (Q.move_tup rfl) ?_
    refine XOps.s rfl rfl rfl (Q.extract rfl rfl) ?_
    refine XOps.s rfl rfl rfl (Q.extract rfl rfl) ?_
    refine XOps.s rfl rfl rfl (Q.extract rfl rfl) ?_
    refine XOps.s rfl rfl rfl (Q.assign_ptr rfl) ?_
    refine XOps.s rfl rfl rfl (Q.assign_d rfl) ?_
    refine XOps.s rfl rfl rfl (Q.assign_d rfl) ?_
    refine XOps.nil ?_
    obtain ⟨R, hR⟩ : ∃ R, R = recL ((bs (bytesL (logV xs))).extract 0 j) := ⟨_, rfl⟩
    rw [← hR]
    refine W.seq ?_
    refine W.reg ?_
    refine XOps.s rfl rfl rfl (Q.move_d rfl) ?_
    refine XOps.s rfl rfl rfl (Q.neq rfl rfl) ?_
    refine XOps.s rfl rfl rfl (Q.move_d rfl) ?_
    refine XOps.gs rfl rfl rfl rfl rfl rfl rfl (fun hg => Q.move_ptr rfl) ?_
    refine XOps.gs rfl rfl rfl rfl rfl rfl rfl (fun hg => Quiet.open 41 hg rfl (Q.eql_ptr ipt35 rfl rfl)) ?_
    refine XOps.s rfl rfl rfl (Q.pick_or rfl rfl rfl (fun h => by first | (rw [h]; rfl) | (rw [hg, h]; rfl) | (simp [h, hg]; done))) ?_
    refine XOps.nil ?_
    refine W.cond rfl (fun hc43 => ?_) (fun hc43 => ?_)
    · try simp only [Bool.or_eq_true, Bool.or_eq_false_iff, Bool.and_eq_true, Bool.and_eq_false_iff, decide_eq_true_eq, decide_eq_false_iff_not, Bool.not_eq_true', Bool.not_eq_false', Int.not_lt, Int.not_le, List.length_map] at hc43
      exact absurd hc43 (by decide)
    · try simp only [Bool.or_eq_true, Bool.or_eq_false_iff, Bool.and_eq_true, Bool.and_eq_false_iff, decide_eq_true_eq, decide_eq_false_iff_not, Bool.not_eq_true', Bool.not_eq_false', Int.not_lt, Int.not_le, List.length_map] at hc43
      refine W.skip ?_
      refine W.reg ?_
      refine XOps.s rfl rfl rfl (Q.assign_d rfl) ?_
      refine XOps.s rfl rfl rfl (Q.assign_d rfl) ?_
      refine XOps.nil ?_
      refine W.seq ?_
      refine W.reg ?_
      refine XOps.s rfl rfl rfl (Q.move_ptr rfl) ?_
      refine XOps.s rfl rfl rfl (Q.call rfl Tryd.func18 go18 rfl (entries_c 1 3 4 rfl rfl (by omega))) ?_
      refine XOps.s rfl rfl rfl (Q.len_sl isl34 rfl) ?_
      refine XOps.s rfl rfl rfl (Q.move_d rfl) ?_
      refine XOps.nil ?_
      rw [fromL_one]
      refine W.block ?_
      refine W.loop (ι := Nat) (fun k => [(1, .d (.int .i64 (j : Nat))), (5, .ptr b 0), (6, .d (.str (bs (bytesL (logV xs))))), (7, .ptr b2 0), (8, .d (.int .i64 (bs (bytesL R)).size)), (10, .d (.int .i64 (bytesL ((logV xs).take k)).length)), (11, .d (.int .i64 (k : Nat))), (45, .d (.sl 4 ((logV xs).map EN.enc))), (46, .d (.int .i64 (logV xs).length)), (47, .d (.int .i64 (k : Nat)))]) (fun k => (gd, p10G) :: reH b2 R f2 (reH b (logV xs) f hs)) (fun k => k ≤ (logV xs).length ∧ (bytesL ((logV xs).take k)).length ≤ j) (fun k => (logV xs).length - k) 0 ?_ ?_ ?_ ?_
      · exact ⟨Nat.zero_le _, Nat.zero_le _⟩
      · exact ⟨by first | rfl | exact int_eq (by omega) | exact len_eq (by simp) | exact int_eq (by simp; done), by first | rfl | exact int_eq (by omega) | exact len_eq (by simp) | exact int_eq (by simp; done), by first | rfl | exact int_eq (by omega) | exact len_eq (by simp) | exact int_eq (by simp; done), by first | rfl | exact int_eq (by omega) | exact len_eq (by simp) | exact int_eq (by simp; done), by first | rfl | exact int_eq (by omega) | exact len_eq (by simp) | exact int_eq (by simp; done), by first | rfl | exact int_eq (by omega) | exact len_eq (by simp) | exact int_eq (by simp; done), by first | rfl | exact int_eq (by omega) | exact len_eq (by simp) | exact int_eq (by simp; done), by first | rfl | exact int_eq (by omega) | exact len_eq (by simp) | exact int_eq (by simp; done), by exact int_eq (by rw [List.length_map]), by first | rfl | exact int_eq (by omega) | exact len_eq (by simp) | exact int_eq (by simp; done), trivial⟩
      · exact HLe.refl _
      · rintro k ⟨hk, hkn⟩
        try dsimp only
        refine W.reg ?_
        refine XOps.s rfl rfl rfl (Q.lss rfl rfl) ?_
        refine XOps.nil ?_
        refine W.seq ?_
        refine W.cond rfl (fun hc48 => ?_) (fun hc48 => ?_)
        · try simp only [Bool.or_eq_true, Bool.or_eq_false_iff, Bool.and_eq_true, Bool.and_eq_false_iff, decide_eq_true_eq, decide_eq_false_iff_not, Bool.not_eq_true', Bool.not_eq_false', Int.not_lt, Int.not_le, List.length_map] at hc48
          obtain ⟨x, hx2⟩ : ∃ x, (logV xs)[k]? = some x := ⟨_, List.getElem?_eq_getElem (by omega)⟩
          have okx := ok.ok x (List.mem_of_getElem? hx2)
          have h0 : checkN x = 0 := checkN_zero.2 okx
          have okt := okx.text
          have okk := okx.kind
          have hv : encV x = bs (encB x) := if_neg (by omega)
          have hl := enc_len okx
          have hez : (encV x).size = (encB x).length := by rw [hv, bs_size]
          have hsu := congrArg List.length (bytesL_succ hx2)
          rw [List.length_append] at hsu
          refine W.skip ?_
          refine W.seq ?_
          refine W.block ?_
          refine W.reg ?_
          refine XOps.s rfl rfl rfl (Q.idx_sl sl34 (by decide) rfl rfl (by first | omega | (simp only [List.length_map]; omega)) (by exact map_at hx2)) ?_
          refine XOps.s rfl rfl rfl (Q.ld_dpn ag23 rfl rfl) ?_
          (refine XOps.loud rfl (L.alloc tz23 rfl rfl) ?_; rintro _ _ ⟨b13, rfl, rfl⟩)
          refine XOps.loud rfl (L.storen (k := 0) ag23 rfl rfl rfl rfl rfl) ?_
          rintro _ _ ⟨rfl, rfl⟩
          refine XOps.nil ?_
          refine W.reg ?_
          refine XOps.s rfl rfl rfl (Q.ld_ptrn (k := 0) ag23 rfl rfl rfl) ?_
          (refine XOps.loud rfl (L.call rfl Tryd.func10 go10 rfl (AC.le (enc_c x gd (reH b2 R f2 (reH b (logV xs) f hs)) (by omega) (by omega)) (HLe.skip _ (HLe.refl _))) rfl) ?_; rintro _ _ ⟨_, rfl, rfl, rfl⟩)
          refine XOps.s rfl rfl rfl (Q.move_tup rfl) ?_
          refine XOps.s rfl rfl rfl (Q.extract rfl rfl) ?_
          refine XOps.s rfl rfl rfl (Q.extract rfl rfl) ?_
          refine XOps.s rfl rfl rfl (Q.assign_d rfl) ?_
          refine XOps.s rfl rfl rfl (Q.assign_d rfl) ?_
          refine XOps.nil ?_
          refine W.seq ?_
          refine W.reg ?_
          refine XOps.s rfl rfl rfl (Q.move_d rfl) ?_
          refine XOps.s rfl rfl rfl (Q.neq rfl rfl) ?_
          refine XOps.nil ?_
          refine W.cond rfl (fun hc57 => ?_) (fun hc57 => ?_)
          · try simp only [Bool.or_eq_true, Bool.or_eq_false_iff, Bool.and_eq_true, Bool.and_eq_false_iff, decide_eq_true_eq, decide_eq_false_iff_not, Bool.not_eq_true', Bool.not_eq_false', Int.not_lt, Int.not_le, List.length_map] at hc57
            exfalso
            rw [h0] at hc57
            first | exact absurd hc57 (by decide) | exact hc57 rfl --done
          · try simp only [Bool.or_eq_true, Bool.or_eq_false_iff, Bool.and_eq_true, Bool.and_eq_false_iff, decide_eq_true_eq, decide_eq_false_iff_not, Bool.not_eq_true', Bool.not_eq_false', Int.not_lt, Int.not_le, List.length_map] at hc57
            refine W.skip ?_
            refine W.seq ?_
            refine W.reg ?_
            refine XOps.s rfl rfl rfl (Q.move_d rfl) ?_
            refine XOps.s rfl rfl rfl (Q.move_d rfl) ?_
            refine XOps.s rfl rfl rfl (Q.len_str ist9 rfl) ?_
            refine XOps.s rfl rfl rfl (Q.add rfl rfl (wi64 (by first | omega | (dsimp only; omega) | (simp only [List.length_map]; omega)) (by first | omega | (dsimp only; omega) | (simp only [List.length_map]; omega)))) ?_
            refine XOps.s rfl rfl rfl (Q.move_d rfl) ?_
            refine XOps.s rfl rfl rfl (Q.gtr rfl rfl) ?_
            refine XOps.nil ?_
            refine W.cond rfl (fun hc63 => ?_) (fun hc63 => ?_)
            · try simp only [Bool.or_eq_true, Bool.or_eq_false_iff, Bool.and_eq_true, Bool.and_eq_false_iff, decide_eq_true_eq, decide_eq_false_iff_not, Bool.not_eq_true', Bool.not_eq_false', Int.not_lt, Int.not_le, List.length_map] at hc63
              have hfin : R = (logV xs).take k := by
                rw [hR]
                refine rec_cut ok hk hkn (by omega) fun e he => ?_
                rw [hx2] at he; obtain rfl := Option.some.inj he; omega
              rw [hfin]
              refine W.exit ?_
              refine W.drawreg 20 follows (by kernel_rfl) ?_
              refine Chain.cons _ (GQ.q rfl (Q.move_d rfl)) rfl ?_
              refine Chain.cons _ (GQ.q rfl (Q.move_d rfl)) rfl ?_
              refine Chain.cons _ (GQ.q rfl (Q.eql rfl rfl)) rfl ?_
              refine Chain.cons _ (GQ.q rfl (Q.move_d rfl)) rfl ?_
              refine Chain.cons _ (GQ.g rfl rfl rfl rfl rfl (fun hg => Q.move_ptr rfl)) rfl ?_
              refine Chain.cons _ (GQ.g rfl rfl rfl rfl rfl (fun hg => Quiet.open 75 hg rfl (Q.call rfl Tryd.func18 go18 rfl (entries_c 1 1 2 rfl rfl (by simp; omega))))) rfl ?_
              refine Chain.cons _ (GQ.g rfl rfl rfl rfl rfl (fun hg => Q.move_ptr rfl)) rfl ?_
              refine Chain.cons _ (GQ.g rfl rfl rfl rfl rfl (fun hg => Quiet.open 77 hg rfl (Q.call rfl Tryd.func18 go18 rfl (entries_c 1 3 4 rfl rfl (by omega))))) rfl ?_
              refine Chain.cons _ (GQ.g rfl rfl rfl rfl rfl (fun hg => Q.move_d rfl)) rfl ?_
              refine Chain.cons _ (GQ.g rfl rfl rfl rfl rfl (fun hg => Quiet.open 78 hg rfl (Quiet.open 79 hg rfl (Quiet.to (v' := .d (.sl 4 (((logV xs).take k).map EN.enc))) (Q.cut_slm (l := logV xs) (f := EN.enc) sl34 rfl rfl rfl (by omega) (by omega) (by omega)) (fun _ _ _ _ h => by rw [take_cut] at h; exact h))))) rfl ?_
              refine Chain.cons _ (GQ.g rfl rfl rfl rfl rfl (fun hg => Quiet.open 76 hg rfl (Quiet.open 80 hg rfl (Q.call rfl Tryd.func19 go19 rfl (equalE_c ((logV xs).take k) ((logV xs).take k) _ (by simp; omega)))))) rfl ?_
              refine Chain.cons _ (GQ.q rfl (Q.pick_and rfl rfl rfl (fun h => by first | (rw [h]; rfl) | (rw [hg, h]; rfl) | (simp [h, hg]; done)))) rfl ?_
              refine Chain.cons _ (GQ.q rfl (Q.move_d rfl)) rfl ?_
              refine Chain.cons _ (GQ.g rfl rfl rfl rfl rfl (fun hg => Q.move_ptr rfl)) rfl ?_
              refine Chain.cons _ (GQ.g rfl rfl rfl rfl rfl (fun hg => Quiet.open 84 hg rfl (Q.call rfl Tryd.func16 go16 rfl (bytes_c 1 2 rfl rfl)))) rfl ?_
              refine Chain.cons _ (GQ.g rfl rfl rfl rfl rfl (fun hg => Q.move_d rfl)) rfl ?_
              refine Chain.cons _ (GQ.g rfl rfl rfl rfl rfl (fun hg => Q.move_d rfl)) rfl ?_
              refine Chain.cons _ (GQ.g rfl rfl rfl rfl rfl (fun hg => Quiet.open 86 hg rfl (Quiet.open 87 hg rfl (Q.cut_strN (i := 0) (j := (bytesL ((logV xs).take k)).length) ist9 rfl rfl rfl (by omega) (by omega))))) rfl ?_
              refine Chain.cons _ (GQ.g rfl rfl rfl rfl rfl (fun hg => Quiet.open 85 hg rfl (Quiet.open 88 hg rfl (Q.eql_str rfl rfl)))) rfl ?_
              refine Chain.cons _ (GQ.q rfl (Q.pick_and rfl rfl rfl (fun h => by first | (rw [h]; rfl) | (rw [hg, h]; rfl) | (simp [h, hg]; done)))) rfl ?_
              refine Chain.nil ?_
              refine XOps.s rfl rfl rfl (Q.assign_d rfl) ?_
              refine XOps.nil ?_
              refine W.ret ?_
              refine ⟨_, _, rfl, HLe.refl _, ?_⟩
              show AV.d (.bool _) = _
              refine congrArg (fun b => AV.d (D.bool b)) ?_
              rw [bs_size, bytes_front]
              simp
            · try simp only [Bool.or_eq_true, Bool.or_eq_false_iff, Bool.and_eq_true, Bool.and_eq_false_iff, decide_eq_true_eq, decide_eq_false_iff_not, Bool.not_eq_true', Bool.not_eq_false', Int.not_lt, Int.not_le, List.length_map] at hc63
              refine W.skip ?_
              refine W.reg ?_
              refine XOps.s rfl rfl rfl (Q.move_d rfl) ?_
              refine XOps.s rfl rfl rfl (Q.move_d rfl) ?_
              refine XOps.s rfl rfl rfl (Q.len_str ist9 rfl) ?_
              refine XOps.s rfl rfl rfl (Q.add rfl rfl (wi64 (by first | omega | (dsimp only; omega) | (simp only [List.length_map]; omega)) (by first | omega | (dsimp only; omega) | (simp only [List.length_map]; omega)))) ?_
              refine XOps.s rfl rfl rfl (Q.assign_d rfl) ?_
              refine XOps.nil ?_
              refine W.region ?_
              refine XOps.s rfl rfl rfl (Q.move_d rfl) ?_
              refine XOps.s rfl rfl rfl (Q.add rfl rfl (wi64 (by first | omega | (dsimp only; omega) | (simp only [List.length_map]; omega)) (by first | omega | (dsimp only; omega) | (simp only [List.length_map]; omega)))) ?_
              refine XOps.s rfl rfl rfl (Q.assign_d rfl) ?_
              refine XOps.nil ?_
              refine W.region ?_
              refine XOps.s rfl rfl rfl (Q.add rfl rfl (wi64 (by first | omega | (dsimp only; omega) | (simp only [List.length_map]; omega)) (by first | omega | (dsimp only; omega) | (simp only [List.length_map]; omega)))) ?_
              refine XOps.s rfl rfl rfl (Q.move_d rfl) ?_
              refine XOps.nil ?_
              refine ⟨k + 1, ?_, ?_, ?_, ?_⟩
              · exact ⟨by omega, by omega⟩
              · omega
              · exact ⟨by first | rfl | exact int_eq (by omega) | exact len_eq (by simp) | exact int_eq (by simp; done), by first | rfl | exact int_eq (by omega) | exact len_eq (by simp) | exact int_eq (by simp; done), by first | rfl | exact int_eq (by omega) | exact len_eq (by simp) | exact int_eq (by simp; done), by first | rfl | exact int_eq (by omega) | exact len_eq (by simp) | exact int_eq (by simp; done), by first | rfl | exact int_eq (by omega) | exact len_eq (by simp) | exact int_eq (by simp; done), by exact int_eq (by omega), by first | rfl | exact int_eq (by omega) | exact len_eq (by simp) | exact int_eq (by simp; done), by first | rfl | exact int_eq (by omega) | exact len_eq (by simp) | exact int_eq (by simp; done), by first | rfl | exact int_eq (by omega) | exact len_eq (by simp) | exact int_eq (by simp; done), by first | rfl | exact int_eq (by omega) | exact len_eq (by simp) | exact int_eq (by simp; done), trivial⟩
              · exact HLe.refl _
        · try simp only [Bool.or_eq_true, Bool.or_eq_false_iff, Bool.and_eq_true, Bool.and_eq_false_iff, decide_eq_true_eq, decide_eq_false_iff_not, Bool.not_eq_true', Bool.not_eq_false', Int.not_lt, Int.not_le, List.length_map] at hc48
          have hkk : k = (logV xs).length := by omega
          have hfin : R = (logV xs).take k := by
            rw [hR]
            refine rec_cut ok hk hkn (by omega) fun e he => ?_
            rw [List.getElem?_eq_none (by omega)] at he; cases he
          rw [hfin]
          refine W.exit ?_
          refine W.drawreg 20 follows (by kernel_rfl) ?_
          refine Chain.cons _ (GQ.q rfl (Q.move_d rfl)) rfl ?_
          refine Chain.cons _ (GQ.q rfl (Q.move_d rfl)) rfl ?_
          refine Chain.cons _ (GQ.q rfl (Q.eql rfl rfl)) rfl ?_
          refine Chain.cons _ (GQ.q rfl (Q.move_d rfl)) rfl ?_
          refine Chain.cons _ (GQ.g rfl rfl rfl rfl rfl (fun hg => Q.move_ptr rfl)) rfl ?_
          refine Chain.cons _ (GQ.g rfl rfl rfl rfl rfl (fun hg => Quiet.open 75 hg rfl (Q.call rfl Tryd.func18 go18 rfl (entries_c 1 1 2 rfl rfl (by simp; omega))))) rfl ?_
          refine Chain.cons _ (GQ.g rfl rfl rfl rfl rfl (fun hg => Q.move_ptr rfl)) rfl ?_
          refine Chain.cons _ (GQ.g rfl rfl rfl rfl rfl (fun hg => Quiet.open 77 hg rfl (Q.call rfl Tryd.func18 go18 rfl (entries_c 1 3 4 rfl rfl (by omega))))) rfl ?_
          refine Chain.cons _ (GQ.g rfl rfl rfl rfl rfl (fun hg => Q.move_d rfl)) rfl ?_
          refine Chain.cons _ (GQ.g rfl rfl rfl rfl rfl (fun hg => Quiet.open 78 hg rfl (Quiet.open 79 hg rfl (Quiet.to (v' := .d (.sl 4 (((logV xs).take k).map EN.enc))) (Q.cut_slm (l := logV xs) (f := EN.enc) sl34 rfl rfl rfl (by omega) (by omega) (by omega)) (fun _ _ _ _ h => by rw [take_cut] at h; exact h))))) rfl ?_
          refine Chain.cons _ (GQ.g rfl rfl rfl rfl rfl (fun hg => Quiet.open 76 hg rfl (Quiet.open 80 hg rfl (Q.call rfl Tryd.func19 go19 rfl (equalE_c ((logV xs).take k) ((logV xs).take k) _ (by simp; omega)))))) rfl ?_
          refine Chain.cons _ (GQ.q rfl (Q.pick_and rfl rfl rfl (fun h => by first | (rw [h]; rfl) | (rw [hg, h]; rfl) | (simp [h, hg]; done)))) rfl ?_
          refine Chain.cons _ (GQ.q rfl (Q.move_d rfl)) rfl ?_
          refine Chain.cons _ (GQ.g rfl rfl rfl rfl rfl (fun hg => Q.move_ptr rfl)) rfl ?_
          refine Chain.cons _ (GQ.g rfl rfl rfl rfl rfl (fun hg => Quiet.open 84 hg rfl (Q.call rfl Tryd.func16 go16 rfl (bytes_c 1 2 rfl rfl)))) rfl ?_
          refine Chain.cons _ (GQ.g rfl rfl rfl rfl rfl (fun hg => Q.move_d rfl)) rfl ?_
          refine Chain.cons _ (GQ.g rfl rfl rfl rfl rfl (fun hg => Q.move_d rfl)) rfl ?_
          refine Chain.cons _ (GQ.g rfl rfl rfl rfl rfl (fun hg => Quiet.open 86 hg rfl (Quiet.open 87 hg rfl (Q.cut_strN (i := 0) (j := (bytesL ((logV xs).take k)).length) ist9 rfl rfl rfl (by omega) (by omega))))) rfl ?_
          refine Chain.cons _ (GQ.g rfl rfl rfl rfl rfl (fun hg => Quiet.open 85 hg rfl (Quiet.open 88 hg rfl (Q.eql_str rfl rfl)))) rfl ?_
          refine Chain.cons _ (GQ.q rfl (Q.pick_and rfl rfl rfl (fun h => by first | (rw [h]; rfl) | (rw [hg, h]; rfl) | (simp [h, hg]; done)))) rfl ?_
          refine Chain.nil ?_
          refine XOps.s rfl rfl rfl (Q.assign_d rfl) ?_
          refine XOps.nil ?_
          refine W.ret ?_
          refine ⟨_, _, rfl, HLe.refl _, ?_⟩
          show AV.d (.bool _) = _
          refine congrArg (fun b => AV.d (D.bool b)) ?_
          rw [bs_size, bytes_front]
          simp
end Go.Proofs.YtldkkoecehdicaaDoorA
