/- Reading. -/
import Derived.Test.YtohckiiadkibkaaDoorBase
import Derived.Test.YtohckiiadkibkaaDoorSpec5
import Derived.Test.YtohckiiadkibkaaDoorSnC
set_option linter.unusedVariables false
set_option linter.unusedSimpArgs false
set_option linter.unnecessarySimpa false
namespace Go.Proofs.YtohckiiadkibkaaDoorA.FSnI
open Go
theorem ag9 : tAgg P 9 = some ((false, 1)) := by kernel_rfl
theorem ap22 : tApp P 22 = some ((2, 32)) := by kernel_rfl
theorem go31 : callGo Go.Proofs.Tryd.f31 = true := by kernel_rfl
theorem go32 : callGo Go.Proofs.Tryd.f32 = true := by kernel_rfl
theorem go34 : callGo Go.Proofs.Tryd.f34 = true := by kernel_rfl
theorem go35 : callGo Go.Proofs.Tryd.f35 = true := by kernel_rfl
theorem isl67 : isSl P 67 = true := by kernel_rfl
theorem ist9 : isStr P 9 = true := by kernel_rfl
theorem pl48 : tPl P 48 = some ([(0, 1), (1, 1)]) := by kernel_rfl
theorem sl22 : tSl P 22 = some (2) := by kernel_rfl
theorem sl67 : tSl P 67 = some (1) := by kernel_rfl
theorem tz48 : tZero P 48 = some ([.string ⟨#[]⟩, .string ⟨#[]⟩]) := by kernel_rfl
theorem tzd48 : cellsD [.string ⟨#[]⟩, .string ⟨#[]⟩] = some ([.str ⟨#[]⟩, .str ⟨#[]⟩]) := rfl
theorem zr22 : tZrow P 22 = some ([.string ⟨#[]⟩, .string ⟨#[]⟩]) := by kernel_rfl
theorem zrd22 : cellsD [.string ⟨#[]⟩, .string ⟨#[]⟩] = some ([.str ⟨#[]⟩, .str ⟨#[]⟩]) := rfl
end Go.Proofs.YtohckiiadkibkaaDoorA.FSnI
namespace Go.Proofs.YtohckiiadkibkaaDoorA
open Go FSnI
attribute [local irreducible] XOps Quiet Loud W AC GQ DT
theorem spl_sub (c : UInt8) : ∀ (l : List UInt8), ∀ p ∈ spl c l, p.length ≤ l.length
  | [], p, h => by simp [spl] at h; subst h; simp
  | x :: l, p, h => by
    have ih := spl_sub c l
    unfold spl at h
    split at h
    · rcases List.mem_cons.1 h with rfl | h
      · simp
      · have := ih p h; simp; omega
    · split at h
      · rename_i q t h2
        rw [h2] at ih
        rcases List.mem_cons.1 h with rfl | h
        · have := ih q (by simp); simp; omega
        · have := ih p (by simp [h]); simp; omega
      · simp at h; subst h; simp
theorem splS_sub {c : UInt8} {s p : ByteArray} (h : p ∈ splS c s) : p.size ≤ s.size := by
  unfold splS at h
  obtain ⟨q, hq, rfl⟩ := List.mem_map.1 h
  have := spl_sub c _ q hq
  rw [bl_len] at this
  rw [bs_size]; exact this
theorem mid_sub {s p : ByteArray} (h : p ∈ midS s) : p.size ≤ s.size := splS_sub (List.mem_of_mem_take (List.mem_of_mem_drop h))
theorem cut_sub (c : UInt8) (p : ByteArray) : (cutL c p).size ≤ p.size ∧ (cutR c p).size ≤ p.size := by
  refine ⟨?_, ?_⟩
  · unfold cutL; split
    · rw [← bl_len, bl_extract]; simp [bl_len] <;> omega
    · exact Nat.le_refl _
  · unfold cutR; split
    · rw [← bl_len, bl_extract]; simp [bl_len] <;> omega
    · exact Nat.zero_le _
theorem rows_step {M : List ByteArray} {k : Nat} {p : ByteArray} (h : M[k]? = some p) : rowsR (M.drop k) = if cutB 61 p = true then (rowsR (M.drop (k + 1))).map (⟨cutL 61 p, cutR 61 p⟩ :: ·) else none := by
  obtain ⟨hk, rfl⟩ := List.getElem?_eq_some_iff.1 h
  rw [List.drop_eq_getElem_cons hk, rowsR]
theorem readE_none {s : ByteArray} (h1 : ¬ 8192 < s.size) (h2 : ¬ ((splS 10 s).length < 2 ∨ lastS s ≠ ⟨#[]⟩)) (h3 : rowsR (midS s) = none) : readE s = 5 := by
  unfold readE; rw [if_neg h1, if_neg h2, h3]
theorem readE_some {s : ByteArray} {out : List SR} (h1 : ¬ 8192 < s.size) (h2 : ¬ ((splS 10 s).length < 2 ∨ lastS s ≠ ⟨#[]⟩)) (h3 : rowsR (midS s) = some out) : readE s = sumE s out := by
  unfold readE; rw [if_neg h1, if_neg h2, h3]
theorem digV_lt (l : List SR) : digV l < 18446744073709551616 := by
  unfold digV; split
  · omega
  · exact fnv_lt _

set_option maxHeartbeats 4000000 in
set_option maxRecDepth 100000 in
theorem read_c (s : ByteArray) (gd : Nat) (hs : Hp) (hL : s.size ≤ 4611686018427387904) : AC P 20 [.d (.str s)] ((gd, dbG) :: hs) (fun r h => r = .tup [.d (.sl 2 ((readL s).map SR.enc)), .d (.int .i64 (readE s))] ∧ h = (gd, dbG) :: hs) := by
  have hsn := splS_len 10 s
  have hcnt : (bl s).count 10 ≤ s.size := by rw [← bl_len]; exact List.count_le_length
  have hlast : ((splS 10 s).map sE)[((((splS 10 s).map sE).length : Int) - 1).toNat]? = some (sE (lastS s)) := by
    have e : ((((splS 10 s).map sE).length : Int) - 1).toNat = (splS 10 s).length - 1 := by rw [List.length_map]; omega
    rw [e, List.getElem?_map, lastS, List.getD_eq_getElem?_getD, List.getElem?_eq_getElem (by omega)]; rfl
  have hhead : ((splS 10 s).map sE)[(0 : Int).toNat]? = some (sE (headS s)) := by
    rw [List.getElem?_map, headS, List.getD_eq_getElem?_getD]
    show Option.map sE (splS 10 s)[0]? = some (sE ((splS 10 s)[0]?.getD _))
    rw [List.getElem?_eq_getElem (by omega)]; rfl
  refine AC.of 72 Tryd.func20 rfl rfl rfl ?_
  refine W.reg ?_
  refine XOps.s rfl rfl rfl (Q.assign_nilsl rfl) ?_
  refine XOps.s rfl rfl rfl (Q.assign_d rfl) ?_
  refine XOps.nil ?_
  refine W.seq ?_
  refine W.reg ?_
  refine XOps.s rfl rfl rfl (Q.move_d rfl) ?_
  refine XOps.s rfl rfl rfl (Q.len_str ist9 rfl) ?_
  refine XOps.s rfl rfl rfl (Q.gtr rfl rfl) ?_
  refine XOps.nil ?_
  refine W.cond rfl (fun hc15 => ?_) (fun hc15 => ?_)
  · try simp only [Bool.or_eq_true, Bool.or_eq_false_iff, Bool.and_eq_true, Bool.and_eq_false_iff, decide_eq_true_eq, decide_eq_false_iff_not, Bool.not_eq_true', Bool.not_eq_false', Int.not_lt, Int.not_le, List.length_map] at hc15
    have hE : readE s = 2 := by unfold readE; rw [if_pos (by omega)]
    have hV : readL s = [] := if_pos (by omega)
    rw [hE, hV]
    refine W.reg ?_
    refine XOps.s rfl rfl rfl (Q.assign_nilsl rfl) ?_
    refine XOps.s rfl rfl rfl (Q.assign_d rfl) ?_
    refine XOps.nil ?_
    refine W.nild 2 2 rfl ?_
    refine W.ret ?_
    refine ⟨_, (gd, dbG) :: hs, rfl, by repeat (first | exact HLe.refl _ | refine HLe.skip _ ?_), ?_, rfl⟩
    rfl
  · try simp only [Bool.or_eq_true, Bool.or_eq_false_iff, Bool.and_eq_true, Bool.and_eq_false_iff, decide_eq_true_eq, decide_eq_false_iff_not, Bool.not_eq_true', Bool.not_eq_false', Int.not_lt, Int.not_le, List.length_map] at hc15
    have h15 : ¬ 8192 < s.size := by omega
    refine W.skip ?_
    refine W.reg ?_
    refine XOps.s rfl rfl rfl (Q.move_d rfl) ?_
    refine XOps.s rfl rfl rfl (Q.call rfl Tryd.func34 go34 rfl (split_c s 10 _ (by omega))) ?_
    refine XOps.s rfl rfl rfl (Q.assign_d rfl) ?_
    refine XOps.nil ?_
    refine W.seq ?_
    refine W.reg ?_
    refine XOps.s rfl rfl rfl (Q.move_d rfl) ?_
    refine XOps.s rfl rfl rfl (Q.len_sl isl67 rfl) ?_
    refine XOps.s rfl rfl rfl (Q.lss rfl rfl) ?_
    refine XOps.s rfl rfl rfl (Q.move_d rfl) ?_
    refine XOps.gs rfl rfl rfl rfl rfl rfl rfl (fun hg => Q.move_d rfl) ?_
    refine XOps.gs rfl rfl rfl rfl rfl rfl rfl (fun hg => Q.move_d rfl) ?_
    refine XOps.gs rfl rfl rfl rfl rfl rfl rfl (fun hg => Quiet.open 23 hg rfl (Q.len_sl isl67 rfl)) ?_
    refine XOps.gs rfl rfl rfl rfl rfl rfl rfl (fun hg => Quiet.open 24 hg rfl (Q.sub rfl rfl (wi64 (by first | omega | (dsimp only; omega) | (simp only [List.length_map]; omega)) (by first | omega | (dsimp only; omega) | (simp only [List.length_map]; omega))))) ?_
    refine XOps.gs rfl rfl rfl rfl rfl rfl rfl (fun hg => Quiet.open 22 hg rfl (Quiet.open 25 hg rfl (Q.idx_sl (r := sE (lastS s)) sl67 (by decide) rfl rfl (by simp only [List.length_map]; omega) hlast))) ?_
    refine XOps.gs rfl rfl rfl rfl rfl rfl rfl (fun hg => Quiet.open 26 hg rfl (Q.ld_dp ag9 rfl rfl)) ?_
    refine XOps.gs rfl rfl rfl rfl rfl rfl rfl (fun hg => Quiet.open 27 hg rfl (Q.neq_str rfl rfl)) ?_
    refine XOps.s rfl rfl rfl (Q.pick_or rfl rfl rfl (fun h => by first | (rw [h]; rfl) | (rw [hg, h]; rfl) | (simp [h, hg]; done))) ?_
    refine XOps.nil ?_
    refine W.cond rfl (fun hc29 => ?_) (fun hc29 => ?_)
    · try simp only [Bool.or_eq_true, Bool.or_eq_false_iff, Bool.and_eq_true, Bool.and_eq_false_iff, decide_eq_true_eq, decide_eq_false_iff_not, Bool.not_eq_true', Bool.not_eq_false', Int.not_lt, Int.not_le, List.length_map] at hc29
      have h29 : (splS 10 s).length < 2 ∨ lastS s ≠ ⟨#[]⟩ := by
        rcases hc29 with h | h
        · exact .inl (by omega)
        · refine .inr fun e => ?_
          have h2 : seq (lastS s) ⟨#[]⟩ = false := h
          rw [e, seq_refl] at h2; cases h2
      have hE : readE s = 5 := by unfold readE; rw [if_neg h15, if_pos h29]
      have hV : readL s = [] := if_pos (by omega)
      rw [hE, hV]
      refine W.reg ?_
      refine XOps.s rfl rfl rfl (Q.assign_nilsl rfl) ?_
      refine XOps.s rfl rfl rfl (Q.assign_d rfl) ?_
      refine XOps.nil ?_
      refine W.nild 2 2 rfl ?_
      refine W.ret ?_
      refine ⟨_, (gd, dbG) :: hs, rfl, by repeat (first | exact HLe.refl _ | refine HLe.skip _ ?_), ?_, rfl⟩
      rfl
    · try simp only [Bool.or_eq_true, Bool.or_eq_false_iff, Bool.and_eq_true, Bool.and_eq_false_iff, decide_eq_true_eq, decide_eq_false_iff_not, Bool.not_eq_true', Bool.not_eq_false', Int.not_lt, Int.not_le, List.length_map] at hc29
      have h29 : ¬ ((splS 10 s).length < 2 ∨ lastS s ≠ ⟨#[]⟩) := by
        rintro (h | h)
        · have := hc29.1; omega
        · exact h ((seq_iff _ _).1 hc29.2)
      have hml : (midS s).length ≤ 8193 := by unfold midS; simp; omega
      refine W.skip ?_
      refine W.reg ?_
      refine XOps.s rfl rfl rfl (Q.assign_nilsl rfl) ?_
      refine XOps.nil ?_
      refine W.ghost 5 2 (by decide) rfl rfl (fun v => ?_)
      refine W.seq ?_
      refine W.reg ?_
      refine XOps.s rfl rfl rfl (Q.move_d rfl) ?_
      refine XOps.s rfl rfl rfl (Q.move_d rfl) ?_
      refine XOps.s rfl rfl rfl (Q.len_sl isl67 rfl) ?_
      refine XOps.s rfl rfl rfl (Q.sub rfl rfl (wi64 (by first | omega | (dsimp only; omega) | (simp only [List.length_map]; omega)) (by first | omega | (dsimp only; omega) | (simp only [List.length_map]; omega)))) ?_
      refine XOps.s rfl rfl rfl (Q.cut_slm sl67 rfl rfl rfl (by first | omega | (simp only [List.length_map]; omega)) (by first | omega | (simp only [List.length_map]; omega)) (by first | omega | (simp only [List.length_map]; omega))) ?_
      refine XOps.s rfl rfl rfl (Q.len_sl isl67 rfl) ?_
      refine XOps.s rfl rfl rfl (Q.move_d rfl) ?_
      refine XOps.nil ?_
      refine W.block ?_
      refine W.loop (ι := Nat × Nat × List SR) (fun q => [(4, .d (.sl 1 ((splS 10 s).map sE))), (34, .d (.sl 1 ((midS s).map sE))), (35, .d (.int .i64 (midS s).length)), (36, .d (.int .i64 (q.1 : Nat))), (5, .vs q.2.1 0 q.2.2.length 2)]) (fun q => (q.2.1, .lst 2 (q.2.2.map SR.enc)) :: (gd, dbG) :: hs) (fun q => q.1 ≤ (midS s).length ∧ rowsR (midS s) = (rowsR ((midS s).drop q.1)).map (q.2.2 ++ ·) ∧ q.2.2.length = q.1 ∧ szR q.2.2) (fun q => (midS s).length - q.1) (0, v, []) ?_ ?_ ?_ ?_
      · exact ⟨Nat.zero_le _, by show _ = (rowsR (midS s)).map _; cases rowsR (midS s) <;> rfl, rfl, fun x hx => by cases hx⟩
      · exact ⟨by first | rfl | exact int_eq (by omega) | exact len_eq (by simp) | exact int_eq (by simp; done), by exact congrArg (fun z => AV.d (.sl 1 (List.map sE z))) (by unfold midS; congr 2; simp <;> omega), by exact int_eq (by unfold midS; simp <;> omega), by first | rfl | exact int_eq (by omega) | exact len_eq (by simp) | exact int_eq (by simp; done), by first | rfl | exact int_eq (by omega) | exact len_eq (by simp) | exact int_eq (by simp; done), trivial⟩
      · repeat (first | exact HLe.refl _ | refine HLe.cons' (by first | rfl | (simp; done)) ?_ | refine HLe.pick 1 rfl (by first | rfl | (simp; done)) ?_ | refine HLe.pick 2 rfl (by first | rfl | (simp; done)) ?_ | refine HLe.pick 3 rfl (by first | rfl | (simp; done)) ?_ | refine HLe.pick 4 rfl (by first | rfl | (simp; done)) ?_ | refine HLe.pick 5 rfl (by first | rfl | (simp; done)) ?_ | refine HLe.skip _ ?_)
      · rintro ⟨k, v, out⟩ ⟨hk, hI, hIl, hIz⟩
        dsimp only at hk hI hIl hIz ⊢
        refine W.reg ?_
        refine XOps.s rfl rfl rfl (Q.lss rfl rfl) ?_
        refine XOps.nil ?_
        refine W.seq ?_
        refine W.cond rfl (fun hc37 => ?_) (fun hc37 => ?_)
        · try simp only [Bool.or_eq_true, Bool.or_eq_false_iff, Bool.and_eq_true, Bool.and_eq_false_iff, decide_eq_true_eq, decide_eq_false_iff_not, Bool.not_eq_true', Bool.not_eq_false', Int.not_lt, Int.not_le, List.length_map] at hc37
          obtain ⟨p, hp⟩ : ∃ p, (midS s)[k]? = some p := ⟨_, List.getElem?_eq_getElem (by omega)⟩
          have hps := mid_sub (List.mem_of_getElem? hp)
          have hst := rows_step hp
          obtain ⟨hsz1, hsz2⟩ := cut_sub 61 p
          refine W.skip ?_
          refine W.seq ?_
          refine W.block ?_
          refine W.reg ?_
          refine XOps.s rfl rfl rfl (Q.idx_sl sl67 (by decide) rfl rfl (by first | omega | (simp only [List.length_map]; omega)) (by exact map_at hp)) ?_
          refine XOps.s rfl rfl rfl (Q.ld_dp ag9 rfl rfl) ?_
          refine XOps.s rfl rfl rfl (Q.assign_d rfl) ?_
          refine XOps.nil ?_
          refine W.reg ?_
          refine XOps.s rfl rfl rfl (Q.move_d rfl) ?_
          refine XOps.s rfl rfl rfl (Q.call rfl Tryd.func35 go35 rfl (cut_c1 p 61 _ (by omega))) ?_
          refine XOps.s rfl rfl rfl (Q.move_tup rfl) ?_
          refine XOps.s rfl rfl rfl (Q.extract rfl rfl) ?_
          refine XOps.s rfl rfl rfl (Q.extract rfl rfl) ?_
          refine XOps.s rfl rfl rfl (Q.extract rfl rfl) ?_
          refine XOps.s rfl rfl rfl (Q.assign_d rfl) ?_
          refine XOps.s rfl rfl rfl (Q.assign_d rfl) ?_
          refine XOps.s rfl rfl rfl (Q.assign_d rfl) ?_
          refine XOps.nil ?_
          refine W.seq ?_
          refine W.reg ?_
          refine XOps.s rfl rfl rfl (Q.move_d rfl) ?_
          refine XOps.s rfl rfl rfl (Q.not rfl) ?_
          refine XOps.nil ?_
          refine W.cond rfl (fun hc47 => ?_) (fun hc47 => ?_)
          · try simp only [Bool.or_eq_true, Bool.or_eq_false_iff, Bool.and_eq_true, Bool.and_eq_false_iff, decide_eq_true_eq, decide_eq_false_iff_not, Bool.not_eq_true', Bool.not_eq_false', Int.not_lt, Int.not_le, List.length_map] at hc47
            have h47 : cutB 61 p = false := by simpa using hc47
            rw [h47, if_neg (by simp)] at hst
            rw [hst] at hI
            have hE : readE s = 5 := readE_none h15 h29 hI
            have hV : readL s = [] := if_pos (by omega)
            rw [hE, hV]
            refine W.reg ?_
            refine XOps.s rfl rfl rfl (Q.assign_nilsl rfl) ?_
            refine XOps.s rfl rfl rfl (Q.assign_d rfl) ?_
            refine XOps.nil ?_
            refine W.nild 2 2 rfl ?_
            refine W.ret ?_
            refine ⟨_, (gd, dbG) :: hs, rfl, by repeat (first | exact HLe.refl _ | refine HLe.skip _ ?_), ?_, rfl⟩
            rfl
          · try simp only [Bool.or_eq_true, Bool.or_eq_false_iff, Bool.and_eq_true, Bool.and_eq_false_iff, decide_eq_true_eq, decide_eq_false_iff_not, Bool.not_eq_true', Bool.not_eq_false', Int.not_lt, Int.not_le, List.length_map] at hc47
            have h47 : cutB 61 p = true := by simpa using hc47
            rw [if_pos h47] at hst
            refine W.skip ?_
            refine W.region ?_
            refine XOps.s rfl rfl rfl (Q.move_vs rfl) ?_
            refine XOps.s rfl rfl rfl (Q.move_d rfl) ?_
            refine XOps.s rfl rfl rfl (Q.move_d rfl) ?_
            refine XOps.s rfl rfl rfl (Q.build pl48 tz48 tzd48 rfl) ?_
            refine XOps.s rfl rfl rfl (Q.bsl1n sl22 (by decide) zr22 rfl zrd22 rfl rfl (by decide)) ?_
            refine XOps.loud rfl (L.app (k := 0) ap22 rfl rfl (by first | rfl | (simp; done)) rfl (by simp; omega) rfl) ?_
            rintro _ _ ⟨v53, rfl, rfl⟩
            refine XOps.s rfl rfl rfl (Q.assign_vs rfl) ?_
            refine XOps.nil ?_
            refine W.region ?_
            refine XOps.s rfl rfl rfl (Q.add rfl rfl (wi64 (by first | omega | (dsimp only; omega) | (simp only [List.length_map]; omega)) (by first | omega | (dsimp only; omega) | (simp only [List.length_map]; omega)))) ?_
            refine XOps.s rfl rfl rfl (Q.move_d rfl) ?_
            refine XOps.nil ?_
            refine ⟨(k + 1, v53, out ++ [⟨cutL 61 p, cutR 61 p⟩]), ?_, ?_, ?_, ?_⟩
            · refine ⟨by dsimp only; omega, by dsimp only; rw [hI, hst, Option.map_map]; congr 1; funext z; simp, by simp; omega, fun x hx => ?_⟩
              rcases List.mem_append.1 hx with hx | hx
              · exact hIz x hx
              · obtain rfl := List.mem_singleton.1 hx
                exact ⟨by dsimp only; omega, by dsimp only; omega⟩
            · show _ - (k + 1) < _ - k; omega
            · exact ⟨by first | rfl | exact int_eq (by omega) | exact len_eq (by simp) | exact int_eq (by simp; done), by first | rfl | exact int_eq (by omega) | exact len_eq (by simp) | exact int_eq (by simp; done), by first | rfl | exact int_eq (by omega) | exact len_eq (by simp) | exact int_eq (by simp; done), by first | rfl | exact int_eq (by omega) | exact len_eq (by simp) | exact int_eq (by simp; done), by exact congrArg (fun z => AV.vs _ 0 z 2) (by simp), trivial⟩
            · exact HLe.cons' (congrArg (HO.lst 2) (by rw [List.map_append]; rfl)) (HLe.refl _)
        · try simp only [Bool.or_eq_true, Bool.or_eq_false_iff, Bool.and_eq_true, Bool.and_eq_false_iff, decide_eq_true_eq, decide_eq_false_iff_not, Bool.not_eq_true', Bool.not_eq_false', Int.not_lt, Int.not_le, List.length_map] at hc37
          have hkl : k = (midS s).length := by omega
          rw [hkl, List.drop_length] at hI
          have hro : rowsR (midS s) = some out := by rw [hI]; show some (out ++ []) = _; rw [List.append_nil]
          have hEE := readE_some h15 h29 hro
          refine W.exit ?_
          refine W.freeze 5 0 rfl rfl (by simp) ?_
          refine W.reg ?_
          refine XOps.s rfl rfl rfl (Q.move_d rfl) ?_
          refine XOps.s rfl rfl rfl (Q.call rfl Tryd.func31 go31 rfl (digest_c out _ (by omega) hIz)) ?_
          refine XOps.s rfl rfl rfl (Q.move_tup rfl) ?_
          refine XOps.s rfl rfl rfl (Q.extract rfl rfl) ?_
          refine XOps.s rfl rfl rfl (Q.extract rfl rfl) ?_
          refine XOps.s rfl rfl rfl (Q.assign_d rfl) ?_
          refine XOps.s rfl rfl rfl (Q.assign_d rfl) ?_
          refine XOps.nil ?_
          refine W.seq ?_
          refine W.block ?_
          refine W.reg ?_
          refine XOps.s rfl rfl rfl (Q.move_d rfl) ?_
          refine XOps.s rfl rfl rfl (Q.neq rfl rfl) ?_
          refine XOps.s rfl rfl rfl (Q.assign_d rfl) ?_
          refine XOps.nil ?_
          refine W.cond rfl (fun hc60 => ?_) (fun hc60 => ?_)
          · try simp only [Bool.or_eq_true, Bool.or_eq_false_iff, Bool.and_eq_true, Bool.and_eq_false_iff, decide_eq_true_eq, decide_eq_false_iff_not, Bool.not_eq_true', Bool.not_eq_false', Int.not_lt, Int.not_le, List.length_map] at hc60
            have h60 : checkL out ≠ 0 := by first | exact hc60 | (simpa using hc60)
            have hE : readE s = checkL out := by rw [hEE]; exact if_pos h60
            have hV : readL s = [] := if_pos (by omega)
            rw [hE, hV]
            refine W.reg ?_
            refine XOps.s rfl rfl rfl (Q.move_d rfl) ?_
            refine XOps.s rfl rfl rfl (Q.assign_nilsl rfl) ?_
            refine XOps.s rfl rfl rfl (Q.assign_d rfl) ?_
            refine XOps.nil ?_
            refine W.nild 2 2 rfl ?_
            refine W.ret ?_
            refine ⟨_, (gd, dbG) :: hs, rfl, by repeat (first | exact HLe.refl _ | refine HLe.skip _ ?_), ?_, rfl⟩
            rfl
          · try simp only [Bool.or_eq_true, Bool.or_eq_false_iff, Bool.and_eq_true, Bool.and_eq_false_iff, decide_eq_true_eq, decide_eq_false_iff_not, Bool.not_eq_true', Bool.not_eq_false', Int.not_lt, Int.not_le, List.length_map] at hc60
            have h60 : checkL out = 0 := by first | exact hc60 | (simpa using hc60)
            refine W.drawreg 7 follows (by kernel_rfl) ?_
            refine Chain.cons _ (GQ.q rfl (Q.move_d rfl)) rfl ?_
            refine Chain.cons _ (GQ.q rfl (Q.call rfl Tryd.func32 go32 rfl (fu16_c (digV out) gd hs (digV_lt out)))) rfl ?_
            refine Chain.cons _ (GQ.q rfl (Q.move_d rfl)) rfl ?_
            refine Chain.cons _ (GQ.q rfl (Q.idx_sl (r := sE (headS s)) sl67 (by decide) rfl rfl (by omega) hhead)) rfl ?_
            refine Chain.cons _ (GQ.q rfl (Q.ld_dp ag9 rfl rfl)) rfl ?_
            refine Chain.cons _ (GQ.q rfl (Q.neq_str rfl rfl)) rfl ?_
            refine Chain.cons _ (GQ.q rfl (Q.assign_d rfl)) rfl ?_
            refine Chain.nil ?_
            refine XOps.nil ?_
            refine W.cond rfl (fun hc64 => ?_) (fun hc64 => ?_)
            · try simp only [Bool.or_eq_true, Bool.or_eq_false_iff, Bool.and_eq_true, Bool.and_eq_false_iff, decide_eq_true_eq, decide_eq_false_iff_not, Bool.not_eq_true', Bool.not_eq_false', Int.not_lt, Int.not_le, List.length_map] at hc64
              have h64 : hexS (digV out) ≠ headS s := fun e => by rw [e] at hc64; simp at hc64
              have hE : readE s = 13 := by rw [hEE]; unfold sumE; rw [if_neg (by omega), if_pos h64]
              have hV : readL s = [] := if_pos (by omega)
              rw [hE, hV]
              refine W.reg ?_
              refine XOps.s rfl rfl rfl (Q.assign_nilsl rfl) ?_
              refine XOps.s rfl rfl rfl (Q.assign_d rfl) ?_
              refine XOps.nil ?_
              refine W.nild 2 2 rfl ?_
              refine W.ret ?_
              refine ⟨_, (gd, dbG) :: hs, rfl, by repeat (first | exact HLe.refl _ | refine HLe.skip _ ?_), ?_, rfl⟩
              rfl
            · try simp only [Bool.or_eq_true, Bool.or_eq_false_iff, Bool.and_eq_true, Bool.and_eq_false_iff, decide_eq_true_eq, decide_eq_false_iff_not, Bool.not_eq_true', Bool.not_eq_false', Int.not_lt, Int.not_le, List.length_map] at hc64
              have h64 : hexS (digV out) = headS s := by first | exact (seq_iff _ _).1 hc64 | exact (seq_iff _ _).1 (by simpa [seq] using hc64)
              have hE : readE s = 0 := by rw [hEE]; unfold sumE; rw [if_neg (by omega), if_neg (by simp [h64])]
              have hV : readL s = out := by unfold readL; rw [if_neg (by omega), hro]; rfl
              rw [hE, hV]
              refine W.skip ?_
              refine W.reg ?_
              refine XOps.s rfl rfl rfl (Q.move_d rfl) ?_
              refine XOps.s rfl rfl rfl (Q.assign_d rfl) ?_
              refine XOps.s rfl rfl rfl (Q.assign_d rfl) ?_
              refine XOps.nil ?_
              refine W.ret ?_
              refine ⟨_, (gd, dbG) :: hs, rfl, by repeat (first | exact HLe.refl _ | refine HLe.skip _ ?_), ?_, rfl⟩
              rfl
end Go.Proofs.YtohckiiadkibkaaDoorA
