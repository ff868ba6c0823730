/- slices.Backward, Picture without polygons, the fact of the laws of package screen. -/
import Derived.Test.YtijgdgkfimnkbaaBase
import Derived.Test.YtijgdgkfimnkbaaWalkB
import Derived.Test.YtijgdgkfimnkbaaAbs28
set_option linter.unusedVariables false
set_option linter.unusedSimpArgs false
set_option linter.unnecessarySimpa false
namespace Go.Proofs.YtijgdgkfimnkbaaA.FWalkC
open Go
theorem ag23 : tAgg P 23 = some ((true, 2)) := by kernel_rfl
theorem ag25 : tAgg P 25 = some ((true, 5)) := by kernel_rfl
theorem ag3 : tAgg P 3 = some ((false, 1)) := by kernel_rfl
theorem ag37 : tAgg P 37 = some ((false, 1)) := by kernel_rfl
theorem ag60 : tAgg P 60 = some ((false, 1)) := by kernel_rfl
theorem ag63 : tAgg P 63 = some ((false, 1)) := by kernel_rfl
theorem ap37 : tApp P 37 = some ((1, 16)) := by kernel_rfl
theorem ap60 : tApp P 60 = some ((1, 24)) := by kernel_rfl
theorem fl25_2 : tFld P 25 2 = some (3) := by kernel_rfl
theorem fl25_3 : tFld P 25 3 = some (4) := by kernel_rfl
theorem fl62_1 : tFld P 62 1 = some (5) := by kernel_rfl
theorem go21 : callGo Go.Proofs.Try.f21 = true := by kernel_rfl
theorem go22 : callGo Go.Proofs.Try.f22 = true := by kernel_rfl
theorem go23 : callGo Go.Proofs.Try.f23 = true := by kernel_rfl
theorem go27 : callGo Go.Proofs.Try.f27 = true := by kernel_rfl
theorem go28 : callGo Go.Proofs.Try.f28 = true := by kernel_rfl
theorem go29 : callGo Go.Proofs.Try.f29 = true := by kernel_rfl
theorem go31 : callGo Go.Proofs.Try.f31 = true := by kernel_rfl
theorem go32 : callGo Go.Proofs.Try.f32 = true := by kernel_rfl
theorem go43 : callGo Go.Proofs.Try.f43 = true := by kernel_rfl
theorem go46 : callGo Go.Proofs.Try.f46 = true := by kernel_rfl
theorem ibs63 : isBytes P 63 = true := by kernel_rfl
theorem isl33 : isSl P 33 = true := by kernel_rfl
theorem isl34 : isSl P 34 = true := by kernel_rfl
theorem isl60 : isSl P 60 = true := by kernel_rfl
theorem ist9 : isStr P 9 = true := by kernel_rfl
theorem pl62 : tPl P 62 = some ([(0, 5), (5, 1)]) := by kernel_rfl
theorem sl34 : tSl P 34 = some (2) := by kernel_rfl
theorem sl37 : tSl P 37 = some (1) := by kernel_rfl
theorem sl60 : tSl P 60 = some (1) := by kernel_rfl
theorem sl63 : tSl P 63 = some (1) := by kernel_rfl
theorem tz23 : tZero P 23 = some ([.int .i64 0, .int .i64 0]) := by kernel_rfl
theorem tz37 : tZero P 37 = some ([.slice none 0 0]) := by kernel_rfl
theorem tz62 : tZero P 62 = some ([.int .i64 0, .int .i64 0, .int .i64 0, .int .i64 0, .int .i64 0, .slice none 0 0]) := by kernel_rfl
theorem zr37 : tZrow P 37 = some ([.string ⟨#[]⟩]) := by kernel_rfl
theorem zr60 : tZrow P 60 = some ([.slice none 0 0]) := by kernel_rfl
theorem zr63 : tZrow P 63 = some ([.int .u8 0]) := by kernel_rfl
theorem zrd37 : cellsD [.string ⟨#[]⟩] = some ([.str ⟨#[]⟩]) := rfl
theorem zrd63 : cellsD [.int .u8 0] = some ([.int .u8 0]) := rfl
end Go.Proofs.YtijgdgkfimnkbaaA.FWalkC
namespace Go.Proofs.YtijgdgkfimnkbaaA
open Go FWalkC
set_option maxHeartbeats 1000000 in
set_option maxRecDepth 100000 in
theorem back_c (iv m : Nat) (hs : Hp) : AC P 32 [.vs iv 0 m 1] hs (fun r h => ∃ bb, r = .fn 46 [.ptr bb 0] ∧ h = (bb, .cells [.vs iv 0 m 1]) :: hs) := by
  refine AC.of 4 Try.func32 rfl rfl rfl ?_
  refine W.reg ?_
  refine XOps.loud rfl (L.box rfl rfl rfl) ?_
  rintro _ _ ⟨b1, rfl, rfl⟩
  refine XOps.s rfl rfl rfl (Q.assign rfl) ?_
  refine XOps.nil ?_
  refine W.reg ?_
  refine XOps.s rfl rfl rfl (Q.mkfn rfl) ?_
  refine XOps.s rfl rfl rfl (Q.assign_fn rfl) ?_
  refine XOps.nil ?_
  refine W.ret ?_
  exact ⟨_, (b1, .cells [.vs iv 0 m 1]) :: hs, rfl, HLe.refl _, b1, rfl, rfl⟩

set_option maxHeartbeats 1000000 in
set_option maxRecDepth 100000 in
theorem iter_c (bb id iv m : Nat) (ids : Nat → Nat) (v : Vw) (o : HO) (J : Nat → Hp → Prop) (H : Hp) (hm : m ≤ 60) (h0 : J 0 H) (hy : ∀ (k : Nat) (H priv : Hp), J k H → k < m → YC P id [.d (.int .i64 ((m : Int) - 1 - (k : Nat))), .vs (ids (m - 1 - k)) 0 v.w.toNat 1] ((id, o) :: (H ++ priv)) (fun r h => r = .d (.bool true) ∧ ∃ H2, J (k + 1) H2 ∧ h = (id, o) :: (H2 ++ priv))) :
    AC P 46 [.yl id, .ptr bb 0] ((id, o) :: (bb, .cells [.vs iv 0 m 1]) :: (iv, .lsv (lsK ids v m)) :: H) (fun r h => r = .tup [] ∧ ∃ H2, J m H2 ∧ h = (id, o) :: (bb, .cells [.vs iv 0 m 1]) :: (iv, .lsv (lsK ids v m)) :: H2) := by
  refine AC.of 19 Try.func46 rfl rfl rfl ?_
  refine W.reg ?_
  refine XOps.s rfl rfl rfl (Q.ld_ptr (k := 1) ag60 rfl rfl rfl) ?_
  refine XOps.s rfl rfl rfl (Q.len_vs isl60 rfl) ?_
  refine XOps.s rfl rfl rfl (Q.sub rfl rfl (wi64 (by first | omega | (dsimp only; omega) | (simp only [List.length_map]; omega)) (by first | omega | (dsimp only; omega) | (simp only [List.length_map]; omega)))) ?_
  refine XOps.s rfl rfl rfl (Q.assign_d rfl) ?_
  refine XOps.nil ?_
  refine W.block ?_
  refine W.loop (ι := Nat × Hp) (fun z => [(0, .yl id), (1, .ptr bb 0), (3, .d (.int .i64 ((m : Int) - 1 - (z.1 : Nat))))]) (fun z => (id, o) :: (bb, .cells [.vs iv 0 m 1]) :: (iv, .lsv (lsK ids v m)) :: z.2) (fun z => J z.1 z.2 ∧ z.1 ≤ m) (fun z => m - z.1) (0, H) ?_ ?_ ?_ ?_
  · exact ⟨h0, Nat.zero_le _⟩
  · exact ⟨by first | rfl | exact int_eq (by omega) | exact len_eq (by simp) | exact int_eq (by simp; done), by first | rfl | exact int_eq (by omega) | exact len_eq (by simp) | exact int_eq (by simp; done), by first | rfl | exact int_eq (by omega) | exact len_eq (by simp) | exact int_eq (by simp; done), trivial⟩
  · exact HLe.refl _
  · rintro ⟨k, H1⟩ ⟨hJ, hk⟩
    dsimp only at hJ hk
    try dsimp only
    refine W.seq ?_
    refine W.reg ?_
    refine XOps.s rfl rfl rfl (Q.move_d rfl) ?_
    refine XOps.s rfl rfl rfl (Q.geq rfl rfl) ?_
    refine XOps.nil ?_
    refine W.cond rfl (fun hc8 => ?_) (fun hc8 => ?_)
    · try simp only [Bool.or_eq_true, Bool.or_eq_false_iff, Bool.and_eq_true, Bool.and_eq_false_iff, decide_eq_true_eq, decide_eq_false_iff_not, Bool.not_eq_true', Bool.not_eq_false', Int.not_lt, Int.not_le, List.length_map] at hc8
      refine W.skip ?_
      refine W.seq ?_
      refine W.block ?_
      refine W.reg ?_
      refine XOps.s rfl rfl rfl (Q.move rfl) ?_
      refine XOps.s rfl rfl rfl (Q.move_d rfl) ?_
      refine XOps.s rfl rfl rfl (Q.ld_ptr (k := 1) ag60 rfl rfl rfl) ?_
      refine XOps.s rfl rfl rfl (Q.move_d rfl) ?_
      refine XOps.s rfl rfl rfl (Q.idx_lsv (kk := 2) sl60 rfl rfl rfl (by omega) (by omega)) ?_
      refine XOps.s rfl rfl rfl (Q.ld_lsv (k := 2) ag63 rfl rfl (by rw [show ((m : Int) - 1 - (k : Nat)).toNat = m - 1 - k by omega]; exact lsK_at ids v (by omega))) ?_
      (refine XOps.loud rfl (L.ycall rfl rfl (YC.le (hy k H1 [(bb, .cells [.vs iv 0 m 1]), (iv, .lsv (lsK ids v m))] hJ (by omega)) (HLe.perm (List.perm_append_comm.cons _))) rfl) ?_; rintro _ _ ⟨_, rfl, rfl, H3, hJ3, rfl⟩)
      refine XOps.s rfl rfl rfl (Q.not rfl) ?_
      refine XOps.nil ?_
      refine W.heap ((id, o) :: (bb, .cells [.vs iv 0 m 1]) :: (iv, .lsv (lsK ids v m)) :: H3) (HLe.perm ((List.perm_append_comm (l₁ := [(bb, .cells [.vs iv 0 m 1]), (iv, .lsv (lsK ids v m))]) (l₂ := H3)).cons _)) ?_
      refine W.cond_f rfl ?_
      refine W.skip ?_
      refine W.region ?_
      refine XOps.s rfl rfl rfl (Q.move_d rfl) ?_
      refine XOps.s rfl rfl rfl (Q.sub rfl rfl (wi64 (by first | omega | (dsimp only; omega) | (simp only [List.length_map]; omega)) (by first | omega | (dsimp only; omega) | (simp only [List.length_map]; omega)))) ?_
      refine XOps.s rfl rfl rfl (Q.assign_d rfl) ?_
      refine XOps.nil ?_
      refine ⟨(k + 1, H3), ?_, ?_, ?_, ?_⟩
      · exact ⟨hJ3, by dsimp only; omega⟩
      · dsimp only; omega
      · exact ⟨by first | rfl | exact int_eq (by omega) | exact len_eq (by simp) | exact int_eq (by simp; done), by first | rfl | exact int_eq (by omega) | exact len_eq (by simp) | exact int_eq (by simp; done), by exact int_eq (by dsimp only; omega), trivial⟩
      · exact HLe.refl _
    · try simp only [Bool.or_eq_true, Bool.or_eq_false_iff, Bool.and_eq_true, Bool.and_eq_false_iff, decide_eq_true_eq, decide_eq_false_iff_not, Bool.not_eq_true', Bool.not_eq_false', Int.not_lt, Int.not_le, List.length_map] at hc8
      obtain rfl : k = m := by omega
      refine W.exit ?_
      exact ⟨_, (id, o) :: (bb, .cells [.vs iv 0 k 1]) :: (iv, .lsv (lsK ids v k)) :: H1, rfl, HLe.refl _, rfl, H1, hJ, rfl⟩

set_option maxHeartbeats 1000000 in
set_option maxRecDepth 100000 in
theorem indexP_c {fn : Func} (f : Nat) (caps : List AV) (p : Ce → Bool) (l : List Ce) (hs : Hp) (hL : l.length ≤ 4611686018427387904) (hf : P.funcs[f]? = some fn) (hg : callGo fn = true) (hp : ∀ x ∈ l, AC P f ([AV.d (.agg (ceE x))] ++ caps) hs (fun r h => r = .d (.bool (p x)) ∧ h = hs)) : AC P 43 [.d (.sl 2 (l.map ceE)), .fn f caps] hs (fun r h => r = .d (.int .i64 (idxP p l)) ∧ h = hs) := by
  refine AC.of 19 Try.func43 rfl rfl rfl ?_
  refine W.reg ?_
  refine XOps.s rfl rfl rfl (Q.assign_d rfl) ?_
  refine XOps.nil ?_
  refine W.seq ?_
  refine W.reg ?_
  refine XOps.s rfl rfl rfl (Q.move_d rfl) ?_
  refine XOps.s rfl rfl rfl (Q.len_sl isl34 rfl) ?_
  refine XOps.s rfl rfl rfl (Q.move_d rfl) ?_
  refine XOps.nil ?_
  refine W.block ?_
  refine W.loop (ι := Nat) (fun k => [(0, .d (.sl 2 (l.map ceE))), (1, .fn f caps), (7, .d (.int .i64 l.length)), (8, .d (.int .i64 k))]) (fun k => hs) (fun k => k ≤ l.length ∧ ∀ i x, i < k → l[i]? = some x → p x = false) (fun k => l.length - k) 0 ?_ ?_ ?_ ?_
  · exact ⟨Nat.zero_le _, fun i x h => absurd h (Nat.not_lt_zero _)⟩
  · exact ⟨by first | rfl | exact int_eq (by omega) | exact len_eq (by simp) | exact int_eq (by simp; done), by first | rfl | exact int_eq (by omega) | exact len_eq (by simp) | exact int_eq (by simp; done), by first | rfl | exact int_eq (by omega) | exact len_eq (by simp) | exact int_eq (by simp; done), by first | rfl | exact int_eq (by omega) | exact len_eq (by simp) | exact int_eq (by simp; done), trivial⟩
  · repeat (first | exact HLe.refl _ | refine HLe.cons' (by first | rfl | (simp [ceE, Vw.enc]; done)) ?_ | refine HLe.pick 1 rfl (by first | rfl | (simp [ceE, Vw.enc]; done)) ?_ | refine HLe.pick 2 rfl (by first | rfl | (simp [ceE, Vw.enc]; done)) ?_ | refine HLe.pick 3 rfl (by first | rfl | (simp [ceE, Vw.enc]; done)) ?_ | refine HLe.pick 4 rfl (by first | rfl | (simp [ceE, Vw.enc]; done)) ?_ | refine HLe.pick 5 rfl (by first | rfl | (simp [ceE, Vw.enc]; done)) ?_ | refine HLe.skip _ ?_)
  · rintro k ⟨hk, hI⟩
    try dsimp only
    refine W.reg ?_
    refine XOps.s rfl rfl rfl (Q.lss rfl rfl) ?_
    refine XOps.nil ?_
    refine W.seq ?_
    refine W.cond rfl (fun hc9 => ?_) (fun hc9 => ?_)
    · try simp only [Bool.or_eq_true, Bool.or_eq_false_iff, Bool.and_eq_true, Bool.and_eq_false_iff, decide_eq_true_eq, decide_eq_false_iff_not, Bool.not_eq_true', Bool.not_eq_false', Int.not_lt, Int.not_le, List.length_map] at hc9
      obtain ⟨x, hx⟩ : ∃ x, l[k]? = some x := ⟨_, List.getElem?_eq_getElem (by omega)⟩
      refine W.skip ?_
      refine W.seq ?_
      refine W.block ?_
      refine W.reg ?_
      refine XOps.s rfl rfl rfl (Q.move_d rfl) ?_
      refine XOps.s rfl rfl rfl (Q.assign_d rfl) ?_
      refine XOps.nil ?_
      refine W.reg ?_
      refine XOps.s rfl rfl rfl (Q.move_fn rfl) ?_
      refine XOps.s rfl rfl rfl (Q.move_d rfl) ?_
      refine XOps.s rfl rfl rfl (Q.move_d rfl) ?_
      refine XOps.s rfl rfl rfl (Q.idx_sl sl34 (by decide) rfl rfl (by first | omega | (simp only [List.length_map]; omega)) (by first | exact map_at (by assumption) | exact map_at0 (by assumption) | assumption)) ?_
      refine XOps.s rfl rfl rfl (Q.ld_dpn ag23 rfl rfl) ?_
      refine XOps.s rfl rfl rfl (Q.call rfl hf hg rfl (hp x (List.mem_of_getElem? hx))) ?_
      refine XOps.nil ?_
      refine W.cond rfl (fun hc16 => ?_) (fun hc16 => ?_)
      · try simp only [Bool.or_eq_true, Bool.or_eq_false_iff, Bool.and_eq_true, Bool.and_eq_false_iff, decide_eq_true_eq, decide_eq_false_iff_not, Bool.not_eq_true', Bool.not_eq_false', Int.not_lt, Int.not_le, List.length_map] at hc16
        have hr := idxP_some hx hc16 hI
        refine W.reg ?_
        refine XOps.s rfl rfl rfl (Q.move_d rfl) ?_
        refine XOps.s rfl rfl rfl (Q.assign_d rfl) ?_
        refine XOps.nil ?_
        refine W.ret ?_
        refine ⟨_, hs, rfl, by repeat (first | exact HLe.refl _ | refine HLe.cons' (by first | rfl | (simp [ceE, Vw.enc]; done)) ?_ | refine HLe.pick 1 rfl (by first | rfl | (simp [ceE, Vw.enc]; done)) ?_ | refine HLe.pick 2 rfl (by first | rfl | (simp [ceE, Vw.enc]; done)) ?_ | refine HLe.pick 3 rfl (by first | rfl | (simp [ceE, Vw.enc]; done)) ?_ | refine HLe.pick 4 rfl (by first | rfl | (simp [ceE, Vw.enc]; done)) ?_ | refine HLe.pick 5 rfl (by first | rfl | (simp [ceE, Vw.enc]; done)) ?_ | refine HLe.skip _ ?_), ?_, rfl⟩
        rw [hr]; rfl
      · try simp only [Bool.or_eq_true, Bool.or_eq_false_iff, Bool.and_eq_true, Bool.and_eq_false_iff, decide_eq_true_eq, decide_eq_false_iff_not, Bool.not_eq_true', Bool.not_eq_false', Int.not_lt, Int.not_le, List.length_map] at hc16
        refine W.skip ?_
        refine W.region ?_
        refine XOps.s rfl rfl rfl (Q.add rfl rfl (wi64 (by first | omega | (dsimp only; omega) | (simp only [List.length_map]; omega)) (by first | omega | (dsimp only; omega) | (simp only [List.length_map]; omega)))) ?_
        refine XOps.s rfl rfl rfl (Q.move_d rfl) ?_
        refine XOps.nil ?_
        refine ⟨k + 1, ?_, ?_, ?_, ?_⟩
        · refine ⟨by omega, fun i y h hy => ?_⟩
          rcases Nat.lt_or_ge i k with h2 | h2
          · exact hI i y h2 hy
          · obtain rfl : i = k := by omega
            rw [hx] at hy; obtain rfl := Option.some.inj hy; exact (by simpa using hc16)
        · omega
        · exact ⟨by first | rfl | exact int_eq (by omega) | exact len_eq (by simp) | exact int_eq (by simp; done), by first | rfl | exact int_eq (by omega) | exact len_eq (by simp) | exact int_eq (by simp; done), by first | rfl | exact int_eq (by omega) | exact len_eq (by simp) | exact int_eq (by simp; done), by first | rfl | exact int_eq (by omega) | exact len_eq (by simp) | exact int_eq (by simp; done), trivial⟩
        · repeat (first | exact HLe.refl _ | refine HLe.cons' (by first | rfl | (simp [ceE, Vw.enc]; done)) ?_ | refine HLe.pick 1 rfl (by first | rfl | (simp [ceE, Vw.enc]; done)) ?_ | refine HLe.pick 2 rfl (by first | rfl | (simp [ceE, Vw.enc]; done)) ?_ | refine HLe.pick 3 rfl (by first | rfl | (simp [ceE, Vw.enc]; done)) ?_ | refine HLe.pick 4 rfl (by first | rfl | (simp [ceE, Vw.enc]; done)) ?_ | refine HLe.pick 5 rfl (by first | rfl | (simp [ceE, Vw.enc]; done)) ?_ | refine HLe.skip _ ?_)
    · try simp only [Bool.or_eq_true, Bool.or_eq_false_iff, Bool.and_eq_true, Bool.and_eq_false_iff, decide_eq_true_eq, decide_eq_false_iff_not, Bool.not_eq_true', Bool.not_eq_false', Int.not_lt, Int.not_le, List.length_map] at hc9
      have hr := idxP_none (p := p) (l := l) fun i x h => hI i x (by have := (List.getElem?_eq_some_iff.1 h).1; omega) h
      refine W.exit ?_
      refine W.reg ?_
      refine XOps.s rfl rfl rfl (Q.assign_d rfl) ?_
      refine XOps.nil ?_
      refine W.ret ?_
      refine ⟨_, hs, rfl, by repeat (first | exact HLe.refl _ | refine HLe.cons' (by first | rfl | (simp [ceE, Vw.enc]; done)) ?_ | refine HLe.pick 1 rfl (by first | rfl | (simp [ceE, Vw.enc]; done)) ?_ | refine HLe.pick 2 rfl (by first | rfl | (simp [ceE, Vw.enc]; done)) ?_ | refine HLe.pick 3 rfl (by first | rfl | (simp [ceE, Vw.enc]; done)) ?_ | refine HLe.pick 4 rfl (by first | rfl | (simp [ceE, Vw.enc]; done)) ?_ | refine HLe.pick 5 rfl (by first | rfl | (simp [ceE, Vw.enc]; done)) ?_ | refine HLe.skip _ ?_), ?_, rfl⟩
      rw [hr]; rfl

set_option maxHeartbeats 1000000 in
set_option maxRecDepth 100000 in
theorem containsP_c {fn : Func} (f : Nat) (caps : List AV) (p : Ce → Bool) (l : List Ce) (hs : Hp) (hL : l.length ≤ 4611686018427387904) (hf : P.funcs[f]? = some fn) (hg : callGo fn = true) (hp : ∀ x ∈ l, AC P f ([AV.d (.agg (ceE x))] ++ caps) hs (fun r h => r = .d (.bool (p x)) ∧ h = hs)) : AC P 27 [.d (.sl 2 (l.map ceE)), .fn f caps] hs (fun r h => r = .d (.bool (l.any p)) ∧ h = hs) := by
  refine AC.of 9 Try.func27 rfl rfl rfl ?_
  refine W.reg ?_
  refine XOps.s rfl rfl rfl (Q.assign_d rfl) ?_
  refine XOps.nil ?_
  refine W.reg ?_
  refine XOps.s rfl rfl rfl (Q.move_d rfl) ?_
  refine XOps.s rfl rfl rfl (Q.move_fn rfl) ?_
  refine XOps.s rfl rfl rfl (Q.call rfl Try.func43 go43 rfl (indexP_c f caps p l hs hL hf hg hp)) ?_
  refine XOps.s rfl rfl rfl (Q.geq rfl rfl) ?_
  refine XOps.s rfl rfl rfl (Q.assign_d rfl) ?_
  refine XOps.nil ?_
  refine W.ret ?_
  refine ⟨_, hs, rfl, by repeat (first | exact HLe.refl _ | refine HLe.cons' (by first | rfl | (simp [ceE, Vw.enc]; done)) ?_ | refine HLe.pick 1 rfl (by first | rfl | (simp [ceE, Vw.enc]; done)) ?_ | refine HLe.pick 2 rfl (by first | rfl | (simp [ceE, Vw.enc]; done)) ?_ | refine HLe.pick 3 rfl (by first | rfl | (simp [ceE, Vw.enc]; done)) ?_ | refine HLe.pick 4 rfl (by first | rfl | (simp [ceE, Vw.enc]; done)) ?_ | refine HLe.pick 5 rfl (by first | rfl | (simp [ceE, Vw.enc]; done)) ?_ | refine HLe.skip _ ?_), ?_, rfl⟩
  rw [idxP_any]; rfl

set_option maxHeartbeats 1000000 in
set_option maxRecDepth 100000 in
theorem pic2_c (p : Ce) (hs : Hp) : AC P 28 [.d (.agg (ceE p))] hs (fun r h => r = .d (.bool (!pointS p)) ∧ h = hs) := by
  refine AC.of 6 Try.func28 rfl rfl rfl ?_
  refine W.reg ?_
  refine XOps.loud rfl (L.boxn rfl rfl) ?_
  rintro _ _ ⟨b1, rfl, rfl⟩
  refine XOps.s rfl rfl rfl (Q.assign_d rfl) ?_
  refine XOps.nil ?_
  refine W.reg ?_
  refine XOps.s rfl rfl rfl (Q.ld_ptrn (k := 0) ag23 rfl rfl rfl) ?_
  refine XOps.s rfl rfl rfl (Q.call rfl Try.func22 go22 rfl (point_c p _)) ?_
  refine XOps.s rfl rfl rfl (Q.not rfl) ?_
  refine XOps.s rfl rfl rfl (Q.assign_d rfl) ?_
  refine XOps.nil ?_
  refine W.ret ?_
  refine ⟨_, hs, rfl, by repeat (first | exact HLe.refl _ | refine HLe.cons' (by first | rfl | (simp [ceE, Vw.enc]; done)) ?_ | refine HLe.pick 1 rfl (by first | rfl | (simp [ceE, Vw.enc]; done)) ?_ | refine HLe.pick 2 rfl (by first | rfl | (simp [ceE, Vw.enc]; done)) ?_ | refine HLe.pick 3 rfl (by first | rfl | (simp [ceE, Vw.enc]; done)) ?_ | refine HLe.pick 4 rfl (by first | rfl | (simp [ceE, Vw.enc]; done)) ?_ | refine HLe.pick 5 rfl (by first | rfl | (simp [ceE, Vw.enc]; done)) ?_ | refine HLe.skip _ ?_), ?_, rfl⟩
  rfl

theorem repeatW_c (z : Int) (hs : Hp) (h0 : 1 ≤ z) (h1 : z ≤ 60) : AC P 29 [.d (.sl 1 [[.int .u8 32]]), .d (.int .i64 z)] hs (fun r h => ∃ v, r = .vs v 0 z.toNat 1 ∧ h = (v, .lst 1 ((List.replicate z.toNat 32).map bE)) :: hs) := by
  obtain ⟨m, rfl⟩ : ∃ m : Nat, z = m := ⟨z.toNat, by omega⟩
  exact repeat_c m hs (by omega) (by omega)
theorem hle_app : ∀ (l hs : Hp), HLe hs (l ++ hs)
  | [], hs => HLe.refl _
  | x :: l, hs => HLe.skip x (hle_app l hs)
theorem rwK_end (ids : Nat → Nat) (rows : Rows) (n : Nat) (x : Nat × HO) (hs : Hp) : (rwK ids rows n ++ x :: hs)[n]? = some x := by
  rw [List.getElem?_append_right (by rw [rwK_len]; exact Nat.le_refl _), rwK_len, Nat.sub_self]; rfl
theorem any_pts {l : List Ce} (h : ∀ p ∈ l, pointS p = true) : (l.any fun p => !pointS p) = false := by
  rw [List.any_eq_false]
  intro p hp
  simp [h p hp]

set_option maxHeartbeats 1000000 in
set_option maxRecDepth 100000 in
theorem pic_own (v : Vw) (l : List Ce) (hs : Hp) (hl : l.length ≤ 32) (hv : v.ok) (hp : ∀ p ∈ l, pointS p = true) : AC P 13 [.d (.agg v.enc), .nilsl, .d (.sl 2 (l.map ceE))] hs (fun r h => ∃ o, r = .tup [.vs o 0 v.h.toNat 1, .d (.int .i64 0)] ∧ h = (o, .lst 1 ((outK (marksS v (blankS v) l l.length) v.h.toNat v.h.toNat).map sE)) :: hs) := by
  have hck := hv.check
  have hvv := hv
  obtain ⟨v1, v2, v3, v4, v5⟩ := hvv
  refine AC.of 102 Try.func13 rfl rfl rfl ?_
  refine W.reg ?_
  refine XOps.loud rfl (L.boxn rfl rfl) ?_
  rintro _ _ ⟨b3, rfl, rfl⟩
  refine XOps.s rfl rfl rfl (Q.assign_nilsl rfl) ?_
  refine XOps.s rfl rfl rfl (Q.assign_d rfl) ?_
  refine XOps.nil ?_
  refine W.seq ?_
  refine W.reg ?_
  refine XOps.s rfl rfl rfl (Q.ld_ptrn (k := 0) ag25 rfl rfl rfl) ?_
  refine XOps.s rfl rfl rfl (Q.call rfl Try.func21 go21 rfl (check_c v _)) ?_
  refine XOps.s rfl rfl rfl (Q.assign_d rfl) ?_
  refine XOps.nil ?_
  rw [hck]
  refine W.reg ?_
  refine XOps.s rfl rfl rfl (Q.move_d rfl) ?_
  refine XOps.s rfl rfl rfl (Q.neq rfl rfl) ?_
  refine XOps.nil ?_
  refine W.cond rfl (fun hc22 => ?_) (fun hc22 => ?_)
  · try simp only [Bool.or_eq_true, Bool.or_eq_false_iff, Bool.and_eq_true, Bool.and_eq_false_iff, decide_eq_true_eq, decide_eq_false_iff_not, Bool.not_eq_true', Bool.not_eq_false', Int.not_lt, Int.not_le, List.length_map] at hc22
    exact absurd trivial hc22
  · try simp only [Bool.or_eq_true, Bool.or_eq_false_iff, Bool.and_eq_true, Bool.and_eq_false_iff, decide_eq_true_eq, decide_eq_false_iff_not, Bool.not_eq_true', Bool.not_eq_false', Int.not_lt, Int.not_le, List.length_map] at hc22
    refine W.skip ?_
    refine W.seq ?_
    refine W.reg ?_
    refine XOps.s rfl rfl rfl (Q.move_nilsl rfl) ?_
    refine XOps.s rfl rfl rfl (Q.len_nil isl33 rfl) ?_
    refine XOps.s rfl rfl rfl (Q.gtr rfl rfl) ?_
    refine XOps.s rfl rfl rfl (Q.move_d rfl) ?_
    refine XOps.gs rfl rfl rfl rfl rfl rfl rfl (fun hg => Q.move_d rfl) ?_
    refine XOps.gs rfl rfl rfl rfl rfl rfl rfl (fun hg => Quiet.open 28 hg rfl (Q.len_sl isl34 rfl)) ?_
    refine XOps.gs rfl rfl rfl rfl rfl rfl rfl (fun hg => Quiet.open 29 hg rfl (Q.gtr rfl rfl)) ?_
    refine XOps.s rfl rfl rfl (Q.pick_or rfl rfl rfl (fun h => by first | (rw [h]; rfl) | (rw [hg, h]; rfl) | (simp [h, hg]; done))) ?_
    refine XOps.nil ?_
    refine W.cond rfl (fun hc31 => ?_) (fun hc31 => ?_)
    · try simp only [Bool.or_eq_true, Bool.or_eq_false_iff, Bool.and_eq_true, Bool.and_eq_false_iff, decide_eq_true_eq, decide_eq_false_iff_not, Bool.not_eq_true', Bool.not_eq_false', Int.not_lt, Int.not_le, List.length_map] at hc31
      exfalso
      first | omega | (simp at hc31; omega) --done
    · try simp only [Bool.or_eq_true, Bool.or_eq_false_iff, Bool.and_eq_true, Bool.and_eq_false_iff, decide_eq_true_eq, decide_eq_false_iff_not, Bool.not_eq_true', Bool.not_eq_false', Int.not_lt, Int.not_le, List.length_map] at hc31
      refine W.skip ?_
      refine W.seq ?_
      refine W.reg ?_
      refine XOps.s rfl rfl rfl (Q.move_nilsl rfl) ?_
      refine XOps.s rfl rfl rfl (Q.len_nil isl33 rfl) ?_
      refine XOps.s rfl rfl rfl (Q.move_d rfl) ?_
      refine XOps.nil ?_
      refine W.block ?_
      refine W.loop (ι := Nat) (fun z => [(3, .ptr b3 0), (7, .d (.int .i64 0)), (1, .nilsl), (2, .d (.sl 2 (l.map ceE))), (32, .nilsl), (33, .d (.int .i64 0)), (34, .d (.int .i64 0))]) (fun z => (b3, .cells (v.enc.map .d)) :: hs) (fun z => True) (fun z => 0) 0 ?_ ?_ ?_ ?_
      · trivial
      · exact ⟨by first | rfl | exact int_eq (by omega) | exact len_eq (by simp) | exact int_eq (by simp; done), by first | rfl | exact int_eq (by omega) | exact len_eq (by simp) | exact int_eq (by simp; done), by first | rfl | exact int_eq (by omega) | exact len_eq (by simp) | exact int_eq (by simp; done), by first | rfl | exact int_eq (by omega) | exact len_eq (by simp) | exact int_eq (by simp; done), by first | rfl | exact int_eq (by omega) | exact len_eq (by simp) | exact int_eq (by simp; done), by first | rfl | exact int_eq (by omega) | exact len_eq (by simp) | exact int_eq (by simp; done), by first | rfl | exact int_eq (by omega) | exact len_eq (by simp) | exact int_eq (by simp; done), trivial⟩
      · repeat (first | exact HLe.refl _ | refine HLe.cons' (by first | rfl | (simp [ceE, Vw.enc]; done)) ?_ | refine HLe.pick 1 rfl (by first | rfl | (simp [ceE, Vw.enc]; done)) ?_ | refine HLe.pick 2 rfl (by first | rfl | (simp [ceE, Vw.enc]; done)) ?_ | refine HLe.pick 3 rfl (by first | rfl | (simp [ceE, Vw.enc]; done)) ?_ | refine HLe.pick 4 rfl (by first | rfl | (simp [ceE, Vw.enc]; done)) ?_ | refine HLe.pick 5 rfl (by first | rfl | (simp [ceE, Vw.enc]; done)) ?_ | refine HLe.skip _ ?_)
      · rintro z _
        try dsimp only
        refine W.reg ?_
        refine XOps.s rfl rfl rfl (Q.lss rfl rfl) ?_
        refine XOps.nil ?_
        refine W.seq ?_
        refine W.cond rfl (fun hc35 => ?_) (fun hc35 => ?_)
        · try simp only [Bool.or_eq_true, Bool.or_eq_false_iff, Bool.and_eq_true, Bool.and_eq_false_iff, decide_eq_true_eq, decide_eq_false_iff_not, Bool.not_eq_true', Bool.not_eq_false', Int.not_lt, Int.not_le, List.length_map] at hc35
          exact absurd hc35 (by omega)
        · try simp only [Bool.or_eq_true, Bool.or_eq_false_iff, Bool.and_eq_true, Bool.and_eq_false_iff, decide_eq_true_eq, decide_eq_false_iff_not, Bool.not_eq_true', Bool.not_eq_false', Int.not_lt, Int.not_le, List.length_map] at hc35
          refine W.exit ?_
          refine W.seq ?_
          refine W.reg ?_
          refine XOps.s rfl rfl rfl (Q.move_d rfl) ?_
          refine XOps.s rfl rfl rfl (Q.call rfl Try.func27 go27 rfl (containsP_c 28 [] (fun p => !pointS p) l _ (by omega) Try.func28 go28 (fun p _ => pic2_c p _))) ?_
          refine XOps.nil ?_
          rw [any_pts hp]
          refine W.cond rfl (fun hc45 => ?_) (fun hc45 => ?_)
          · try simp only [Bool.or_eq_true, Bool.or_eq_false_iff, Bool.and_eq_true, Bool.and_eq_false_iff, decide_eq_true_eq, decide_eq_false_iff_not, Bool.not_eq_true', Bool.not_eq_false', Int.not_lt, Int.not_le, List.length_map] at hc45
            all_goals (exact absurd hc45 (by decide)) --done
          · try simp only [Bool.or_eq_true, Bool.or_eq_false_iff, Bool.and_eq_true, Bool.and_eq_false_iff, decide_eq_true_eq, decide_eq_false_iff_not, Bool.not_eq_true', Bool.not_eq_false', Int.not_lt, Int.not_le, List.length_map] at hc45
            refine W.skip ?_
            refine W.reg ?_
            refine XOps.s rfl rfl rfl (Q.ld_ptrn (k := 0) ag25 rfl rfl rfl) ?_
            refine XOps.s rfl rfl rfl (Q.buildS pl62 tz62 rfl rfl) ?_
            (refine XOps.loud rfl (L.boxv rfl rfl) ?_; rintro _ _ ⟨b48, rfl, rfl⟩)
            refine XOps.s rfl rfl rfl (Q.assign_ptr rfl) ?_
            refine XOps.nil ?_
            refine W.ghostcv 0 5 rfl rfl (fun iv0 => ?_)
            have hbl : ∀ i, (blankS v i).length = v.w.toNat := fun i => by simp [blankS]
            refine W.seq ?_
            refine W.reg ?_
            refine XOps.s rfl rfl rfl (Q.fld_ptr fl25_3 rfl) ?_
            refine XOps.s rfl rfl rfl (Q.ld_ptr (k := 2) ag3 rfl rfl rfl) ?_
            refine XOps.s rfl rfl rfl (Q.move_d rfl) ?_
            refine XOps.nil ?_
            refine W.block ?_
            refine W.loop (ι := Nat × Nat × (Nat → Nat)) (fun z => [(3, .ptr b3 0), (7, .d (.int .i64 0)), (1, .nilsl), (2, .d (.sl 2 (l.map ceE))), (11, .ptr b48 0), (50, .d (.int .i64 v.h)), (51, .d (.int .i64 (z.1 : Nat)))]) (fun z => cvH b48 z.2.1 z.2.2 v (blankS v) z.1 ((b3, .cells (v.enc.map .d)) :: hs)) (fun z => z.1 ≤ v.h.toNat) (fun z => v.h.toNat - z.1) (0, iv0, fun _ => 0) ?_ ?_ ?_ ?_
            · exact Nat.zero_le _
            · exact ⟨by first | rfl | exact int_eq (by omega) | exact len_eq (by simp) | exact int_eq (by simp; done), by first | rfl | exact int_eq (by omega) | exact len_eq (by simp) | exact int_eq (by simp; done), by first | rfl | exact int_eq (by omega) | exact len_eq (by simp) | exact int_eq (by simp; done), by first | rfl | exact int_eq (by omega) | exact len_eq (by simp) | exact int_eq (by simp; done), by first | rfl | exact int_eq (by omega) | exact len_eq (by simp) | exact int_eq (by simp; done), by first | rfl | exact int_eq (by omega) | exact len_eq (by simp) | exact int_eq (by simp; done), by first | rfl | exact int_eq (by omega) | exact len_eq (by simp) | exact int_eq (by simp; done), trivial⟩
            · exact HLe.pick 1 rfl rfl (HLe.pick 0 rfl rfl (HLe.refl _))
            · rintro ⟨j, iv, ids⟩ hj
              try dsimp only at hj ⊢
              refine W.reg ?_
              refine XOps.s rfl rfl rfl (Q.lss rfl rfl) ?_
              refine XOps.nil ?_
              refine W.seq ?_
              refine W.cond rfl (fun hc52 => ?_) (fun hc52 => ?_)
              · try simp only [Bool.or_eq_true, Bool.or_eq_false_iff, Bool.and_eq_true, Bool.and_eq_false_iff, decide_eq_true_eq, decide_eq_false_iff_not, Bool.not_eq_true', Bool.not_eq_false', Int.not_lt, Int.not_le, List.length_map] at hc52
                refine W.skip ?_
                refine W.seq ?_
                refine W.block ?_
                refine W.drawT 14 [8, 9, 10, 13] follows (by kernel_rfl) (by decide) ?_
                apply DT.moreC [.new, .new, .new, .new, .new, .new, .new, .new, .now, .later, .later, .later, .later, .later] (by kernel_rfl)
                refine PC.new _ rfl (GQ.q rfl (Q.move_ptr rfl)) rfl ?_
                refine PC.new _ rfl (GQ.q rfl (Q.move_ptr rfl)) rfl ?_
                refine PC.new _ rfl (GQ.q rfl (Q.nil_ptr rfl)) rfl ?_
                refine PC.new _ rfl (GQ.q rfl (Q.fld_ptr fl62_1 rfl)) rfl ?_
                refine PC.new _ rfl (GQ.q rfl (Q.ld_ptr (k := 0) ag60 rfl rfl rfl)) rfl ?_
                refine PC.new _ rfl (GQ.q rfl (Q.bsl1 sl63 zr63 rfl zrd63 rfl rfl)) rfl ?_
                refine PC.new _ rfl (GQ.q rfl (Q.fld_ptr fl25_2 rfl)) rfl ?_
                refine PC.new _ rfl (GQ.q rfl (Q.ld_ptr (k := j + 2) ag3 rfl (rwK_end ids (blankS v) j _ hs) rfl)) rfl ?_
                refine PC.now rfl rfl (fun τ => Loud.to (L.call rfl Try.func29 go29 rfl (repeatW_c v.w _ v4.1 v4.2) rfl) (fun _ _ ⟨r, h1, h2⟩ => ⟨r, h1, _, h2, rfl⟩)) ?_
                refine PC.later rfl ?_
                refine PC.later rfl ?_
                refine PC.later rfl ?_
                refine PC.later rfl ?_
                refine PC.later rfl ?_
                refine PC.nil ?_
                rintro _ _ ⟨_, ⟨v61, rfl, rfl⟩, rfl⟩
                apply DT.moreE [.old, .old, .old, .old, .old, .did, .did, .did, .did, .now, .later, .later, .later, .later] (by kernel_rfl)
                refine PC.old rfl (GQ.q rfl (Q.move_ptr rfl)) rfl ?_
                refine PC.old rfl (GQ.q rfl (Q.move_ptr rfl)) rfl ?_
                refine PC.old rfl (GQ.q rfl (Q.nil_ptr rfl)) rfl ?_
                refine PC.old rfl (GQ.q rfl (Q.fld_ptr fl62_1 rfl)) rfl ?_
                refine PC.old rfl (GQ.q rfl (Q.ld_ptr (k := 1) ag60 rfl rfl rfl)) rfl ?_
                refine PC.did rfl ?_
                refine PC.did rfl ?_
                refine PC.did rfl ?_
                refine PC.did rfl ?_
                refine PC.now rfl rfl (fun τ => Loud.to (L.bslv (l := [.vs v61 0 v.w.toNat 1]) sl60 zr60 rfl rfl rfl rfl rfl) (fun _ _ ⟨v, h1, h2⟩ => ⟨_, h1, v, rfl, h2⟩)) ?_
                refine PC.later rfl ?_
                refine PC.later rfl ?_
                refine PC.later rfl ?_
                refine PC.later rfl ?_
                refine PC.nil ?_
                rintro _ _ ⟨v62, rfl, rfl⟩
                apply DT.moreE [.old, .old, .old, .old, .old, .did, .did, .did, .did, .did, .now, .later, .later, .later] (by kernel_rfl)
                refine PC.old rfl (GQ.q rfl (Q.move_ptr rfl)) rfl ?_
                refine PC.old rfl (GQ.q rfl (Q.move_ptr rfl)) rfl ?_
                refine PC.old rfl (GQ.q rfl (Q.nil_ptr rfl)) rfl ?_
                refine PC.old rfl (GQ.q rfl (Q.fld_ptr fl62_1 rfl)) rfl ?_
                refine PC.old rfl (GQ.q rfl (Q.ld_ptr (k := 2) ag60 rfl rfl rfl)) rfl ?_
                refine PC.did rfl ?_
                refine PC.did rfl ?_
                refine PC.did rfl ?_
                refine PC.did rfl ?_
                refine PC.did rfl ?_
                refine PC.now rfl rfl (fun τ => Loud.to (L.appv (k := 3) (k2 := 0) ap60 rfl rfl (lsK_len ids v j).symm rfl rfl rfl (by decide) (by omega) rfl) (fun _ _ ⟨v, h1, h2⟩ => ⟨_, h1, v, rfl, h2⟩)) ?_
                refine PC.later rfl ?_
                refine PC.later rfl ?_
                refine PC.later rfl ?_
                refine PC.nil ?_
                rintro _ _ ⟨v63, rfl, rfl⟩
                apply DT.moreS [.old, .did, .did, .did, .did, .did, .did, .did, .did, .did, .did, .new, .new, .now] (by kernel_rfl)
                refine PC.old rfl (GQ.q rfl (Q.move_ptr rfl)) rfl ?_
                refine PC.did rfl ?_
                refine PC.did rfl ?_
                refine PC.did rfl ?_
                refine PC.did rfl ?_
                refine PC.did rfl ?_
                refine PC.did rfl ?_
                refine PC.did rfl ?_
                refine PC.did rfl ?_
                refine PC.did rfl ?_
                refine PC.did rfl ?_
                refine PC.new _ rfl (GQ.q rfl (Q.nil_ptr rfl)) rfl ?_
                refine PC.new _ rfl (GQ.q rfl (Q.fld_ptr fl62_1 rfl)) rfl ?_
                refine PC.now rfl rfl (fun τ => Loud.to (L.store (k := 3) ag60 ((oev_app rfl).trans rfl) rfl rfl ((oev_app rfl).trans rfl) rfl) (fun _ _ h => ⟨.any, h.1, h.2⟩)) ?_
                refine PC.nil ?_
                rintro _ _ rfl
                refine DT.last [.did, .did, .did, .did, .did, .did, .did, .did, .did, .did, .did, .did, .did, .did] (by kernel_rfl) ?_
                refine PC.did rfl ?_
                refine PC.did rfl ?_
                refine PC.did rfl ?_
                refine PC.did rfl ?_
                refine PC.did rfl ?_
                refine PC.did rfl ?_
                refine PC.did rfl ?_
                refine PC.did rfl ?_
                refine PC.did rfl ?_
                refine PC.did rfl ?_
                refine PC.did rfl ?_
                refine PC.did rfl ?_
                refine PC.did rfl ?_
                refine PC.did rfl ?_
                refine PC.nil ?_
                refine XOps.nil ?_
                refine W.region ?_
                refine XOps.s rfl rfl rfl (Q.add rfl rfl (wi64 (by first | omega | (dsimp only; omega) | (simp only [List.length_map]; omega)) (by first | omega | (dsimp only; omega) | (simp only [List.length_map]; omega)))) ?_
                refine XOps.s rfl rfl rfl (Q.move_d rfl) ?_
                refine XOps.nil ?_
                refine ⟨(j + 1, v63, updF ids j v61), ?_, ?_, ?_, ?_⟩
                · dsimp only; omega
                · dsimp only; omega
                · exact ⟨by first | rfl | exact int_eq (by omega) | exact len_eq (by simp) | exact int_eq (by simp; done), by first | rfl | exact int_eq (by omega) | exact len_eq (by simp) | exact int_eq (by simp; done), by first | rfl | exact int_eq (by omega) | exact len_eq (by simp) | exact int_eq (by simp; done), by first | rfl | exact int_eq (by omega) | exact len_eq (by simp) | exact int_eq (by simp; done), by first | rfl | exact int_eq (by omega) | exact len_eq (by simp) | exact int_eq (by simp; done), by first | rfl | exact int_eq (by omega) | exact len_eq (by simp) | exact int_eq (by simp; done), by exact int_eq (by dsimp only; omega), trivial⟩
                · exact HLe.trans (cvH_succ b48 v63 ids v (blankS v) j v61 _) (HLe.cons _ (HLe.skip _ (HLe.cons _ (HLe.cons' rfl (HLe.refl _)))))
              · try simp only [Bool.or_eq_true, Bool.or_eq_false_iff, Bool.and_eq_true, Bool.and_eq_false_iff, decide_eq_true_eq, decide_eq_false_iff_not, Bool.not_eq_true', Bool.not_eq_false', Int.not_lt, Int.not_le, List.length_map] at hc52
                obtain rfl : j = v.h.toNat := by omega
                refine W.exit ?_
                refine W.seq ?_
                refine W.reg ?_
                refine XOps.s rfl rfl rfl (Q.move_nilsl rfl) ?_
                refine XOps.s rfl rfl rfl (Q.len_nil isl33 rfl) ?_
                refine XOps.s rfl rfl rfl (Q.move_d rfl) ?_
                refine XOps.nil ?_
                refine W.block ?_
                refine W.loop (ι := Nat) (fun z => [(3, .ptr b3 0), (7, .d (.int .i64 0)), (2, .d (.sl 2 (l.map ceE))), (11, .ptr b48 0), (67, .nilsl), (68, .d (.int .i64 0)), (69, .d (.int .i64 0))]) (fun z => cvH b48 iv ids v (blankS v) v.h.toNat ((b3, .cells (v.enc.map .d)) :: hs)) (fun z => True) (fun z => 0) 0 ?_ ?_ ?_ ?_
                · trivial
                · exact ⟨by first | rfl | exact int_eq (by omega) | exact len_eq (by simp) | exact int_eq (by simp; done), by first | rfl | exact int_eq (by omega) | exact len_eq (by simp) | exact int_eq (by simp; done), by first | rfl | exact int_eq (by omega) | exact len_eq (by simp) | exact int_eq (by simp; done), by first | rfl | exact int_eq (by omega) | exact len_eq (by simp) | exact int_eq (by simp; done), by first | rfl | exact int_eq (by omega) | exact len_eq (by simp) | exact int_eq (by simp; done), by first | rfl | exact int_eq (by omega) | exact len_eq (by simp) | exact int_eq (by simp; done), by first | rfl | exact int_eq (by omega) | exact len_eq (by simp) | exact int_eq (by simp; done), trivial⟩
                · exact HLe.refl _
                · rintro z _
                  try dsimp only
                  refine W.reg ?_
                  refine XOps.s rfl rfl rfl (Q.lss rfl rfl) ?_
                  refine XOps.nil ?_
                  refine W.seq ?_
                  refine W.cond rfl (fun hc70 => ?_) (fun hc70 => ?_)
                  · try simp only [Bool.or_eq_true, Bool.or_eq_false_iff, Bool.and_eq_true, Bool.and_eq_false_iff, decide_eq_true_eq, decide_eq_false_iff_not, Bool.not_eq_true', Bool.not_eq_false', Int.not_lt, Int.not_le, List.length_map] at hc70
                    exact absurd hc70 (by omega)
                  · try simp only [Bool.or_eq_true, Bool.or_eq_false_iff, Bool.and_eq_true, Bool.and_eq_false_iff, decide_eq_true_eq, decide_eq_false_iff_not, Bool.not_eq_true', Bool.not_eq_false', Int.not_lt, Int.not_le, List.length_map] at hc70
                    refine W.exit ?_
                    refine W.seq ?_
                    refine W.reg ?_
                    refine XOps.s rfl rfl rfl (Q.move_d rfl) ?_
                    refine XOps.s rfl rfl rfl (Q.len_sl isl34 rfl) ?_
                    refine XOps.s rfl rfl rfl (Q.move_d rfl) ?_
                    refine XOps.nil ?_
                    refine W.block ?_
                    refine W.loop (ι := Nat) (fun k => [(3, .ptr b3 0), (7, .d (.int .i64 0)), (11, .ptr b48 0), (77, .d (.sl 2 (l.map ceE))), (78, .d (.int .i64 l.length)), (79, .d (.int .i64 k))]) (fun k => cvH b48 iv ids v (marksS v (blankS v) l k) v.h.toNat ((b3, .cells (v.enc.map .d)) :: hs)) (fun k => k ≤ l.length) (fun k => l.length - k) 0 ?_ ?_ ?_ ?_
                    · exact Nat.zero_le _
                    · exact ⟨by first | rfl | exact int_eq (by omega) | exact len_eq (by simp) | exact int_eq (by simp; done), by first | rfl | exact int_eq (by omega) | exact len_eq (by simp) | exact int_eq (by simp; done), by first | rfl | exact int_eq (by omega) | exact len_eq (by simp) | exact int_eq (by simp; done), by first | rfl | exact int_eq (by omega) | exact len_eq (by simp) | exact int_eq (by simp; done), by first | rfl | exact int_eq (by omega) | exact len_eq (by simp) | exact int_eq (by simp; done), by first | rfl | exact int_eq (by omega) | exact len_eq (by simp) | exact int_eq (by simp; done), trivial⟩
                    · exact HLe.refl _
                    · rintro k hk
                      try dsimp only
                      refine W.reg ?_
                      refine XOps.s rfl rfl rfl (Q.lss rfl rfl) ?_
                      refine XOps.nil ?_
                      refine W.seq ?_
                      refine W.cond rfl (fun hc80 => ?_) (fun hc80 => ?_)
                      · try simp only [Bool.or_eq_true, Bool.or_eq_false_iff, Bool.and_eq_true, Bool.and_eq_false_iff, decide_eq_true_eq, decide_eq_false_iff_not, Bool.not_eq_true', Bool.not_eq_false', Int.not_lt, Int.not_le, List.length_map] at hc80
                        obtain ⟨p, hx⟩ : ∃ p, l[k]? = some p := ⟨_, List.getElem?_eq_getElem (by omega)⟩
                        have hst := marksS_succ (v := v) (r0 := blankS v) hx
                        refine W.skip ?_
                        refine W.seq ?_
                        refine W.block ?_
                        refine W.reg ?_
                        refine XOps.s rfl rfl rfl (Q.idx_sl sl34 (by decide) rfl rfl (by first | omega | (simp only [List.length_map]; omega)) (by exact map_at hx)) ?_
                        refine XOps.s rfl rfl rfl (Q.ld_dpn ag23 rfl rfl) ?_
                        (refine XOps.loud rfl (L.alloc tz23 rfl rfl) ?_; rintro _ _ ⟨b15, rfl, rfl⟩)
                        refine XOps.loud rfl (L.storen (k := 0) ag23 rfl rfl rfl rfl rfl) ?_
                        rintro _ _ ⟨rfl, rfl⟩
                        refine XOps.nil ?_
                        refine W.region ?_
                        refine XOps.s rfl rfl rfl (Q.move_ptr rfl) ?_
                        refine XOps.s rfl rfl rfl (Q.ld_ptrn (k := v.h.toNat + 3) ag25 rfl (rwK_end ids (marksS v (blankS v) l k) v.h.toNat _ hs) rfl) ?_
                        refine XOps.s rfl rfl rfl (Q.ld_ptrn (k := 0) ag23 rfl rfl rfl) ?_
                        refine XOps.s rfl rfl rfl (Q.call rfl Try.func23 go23 rfl (cell_c v p _ hv (hp p (List.mem_of_getElem? hx)))) ?_
                        (refine XOps.loud rfl (L.call rfl Try.func31 go31 rfl (AC.le (put_c b48 iv ids v (marksS v (blankS v) l k) (cellS v p) 111 ((b3, .cells (v.enc.map .d)) :: hs) hv (marksS_len v _ l hbl k)) (HLe.skip _ (HLe.refl _))) rfl) ?_; rintro _ _ ⟨_, rfl, rfl, rfl⟩)
                        refine XOps.nil ?_
                        refine W.region ?_
                        refine XOps.s rfl rfl rfl (Q.add rfl rfl (wi64 (by first | omega | (dsimp only; omega) | (simp only [List.length_map]; omega)) (by first | omega | (dsimp only; omega) | (simp only [List.length_map]; omega)))) ?_
                        refine XOps.s rfl rfl rfl (Q.move_d rfl) ?_
                        refine XOps.nil ?_
                        refine ⟨k + 1, ?_, ?_, ?_, ?_⟩
                        · omega
                        · omega
                        · exact ⟨by first | rfl | exact int_eq (by omega) | exact len_eq (by simp) | exact int_eq (by simp; done), by first | rfl | exact int_eq (by omega) | exact len_eq (by simp) | exact int_eq (by simp; done), by first | rfl | exact int_eq (by omega) | exact len_eq (by simp) | exact int_eq (by simp; done), by first | rfl | exact int_eq (by omega) | exact len_eq (by simp) | exact int_eq (by simp; done), by first | rfl | exact int_eq (by omega) | exact len_eq (by simp) | exact int_eq (by simp; done), by first | rfl | exact int_eq (by omega) | exact len_eq (by simp) | exact int_eq (by simp; done), trivial⟩
                        · rw [hst]
                          exact HLe.refl _
                      · try simp only [Bool.or_eq_true, Bool.or_eq_false_iff, Bool.and_eq_true, Bool.and_eq_false_iff, decide_eq_true_eq, decide_eq_false_iff_not, Bool.not_eq_true', Bool.not_eq_false', Int.not_lt, Int.not_le, List.length_map] at hc80
                        obtain rfl : k = l.length := by omega
                        have hml := marksS_len v _ l hbl l.length
                        refine W.exit ?_
                        refine W.reg ?_
                        (refine XOps.loud rfl (L.alloc tz37 rfl rfl) ?_; rintro _ _ ⟨b16, rfl, rfl⟩)
                        refine XOps.nil ?_
                        refine W.ghostc 0 0 1 (by decide) rfl rfl (fun o0 => ?_)
                        refine W.seq ?_
                        refine W.reg ?_
                        refine XOps.s rfl rfl rfl (Q.move_ptr rfl) ?_
                        refine XOps.s rfl rfl rfl (Q.nil_ptr rfl) ?_
                        refine XOps.s rfl rfl rfl (Q.fld_ptr fl62_1 rfl) ?_
                        refine XOps.s rfl rfl rfl (Q.ld_ptr (k := 2) ag60 rfl rfl rfl) ?_
                        (refine XOps.loud rfl (L.call rfl Try.func32 go32 rfl (back_c iv v.h.toNat _) rfl) ?_; rintro _ _ ⟨_, rfl, bb, rfl, rfl⟩)
                        refine XOps.nil ?_
                        refine W.block ?_
                        refine W.range rfl Try.func46 go46 (fun id0 => ?_)
                        refine ((iter_c bb id0 iv v.h.toNat ids v _ (fun k H => ∃ o, H = (b16, .cells [.vs o 0 k 1]) :: (o, .lst 1 ((outK (marksS v (blankS v) l l.length) v.h.toNat k).map sE)) :: (b48, .cells (cvC v iv v.h.toNat)) :: (rwK ids (marksS v (blankS v) l l.length) v.h.toNat ++ ((b3, .cells (v.enc.map .d)) :: hs))) ((b16, .cells [.vs o0 0 0 1]) :: (o0, .lst 1 []) :: (b48, .cells (cvC v iv v.h.toNat)) :: (rwK ids (marksS v (blankS v) l l.length) v.h.toNat ++ ((b3, .cells (v.enc.map .d)) :: hs))) (by omega) ⟨o0, rfl⟩ (fun k H priv hJ hk => ?_)).le (HLe.cons _ (HLe.cons _ (HLe.pick 3 rfl rfl (HLe.pick 1 rfl rfl (HLe.refl _)))))).mono ?_
                        ·
                          obtain ⟨o, rfl⟩ := hJ
                          refine YC.of rfl rfl (fun B l0 => ?_)
                          have hrow0 : ((rwK ids (marksS v (blankS v) l l.length) v.h.toNat ++ ((b3, .cells (v.enc.map .d)) :: hs)) ++ priv)[v.h.toNat - 1 - k]? = some (ids (v.h.toNat - 1 - k), .lst 1 (((marksS v (blankS v) l l.length) (v.h.toNat - 1 - k)).map bE)) := by
                            rw [List.append_assoc]
                            exact rwK_at ids _ _ (by omega)
                          refine W.region ?_
                          refine XOps.s rfl rfl rfl (Q.assign_vs rfl) ?_
                          refine XOps.nil ?_
                          refine ⟨_, HLe.refl _, ?_⟩
                          refine W.block ?_
                          refine W.region ?_
                          refine XOps.s rfl rfl rfl (Q.ld_ptr (k := 1) ag37 rfl rfl rfl) ?_
                          refine XOps.s rfl rfl rfl (Q.move_vs rfl) ?_
                          refine XOps.s rfl rfl rfl (Q.conv_vs (k := (v.h.toNat - 1 - k) + 4) ibs63 ist9 rfl hrow0 (hml _).symm) ?_
                          refine XOps.s rfl rfl rfl (Q.bsl1 sl37 zr37 rfl zrd37 rfl rfl) ?_
                          (refine XOps.loud rfl (L.app (k := 2) ap37 rfl rfl (by simp [outK_len]) rfl (by simp [outK_len]; omega) rfl) ?_; rintro _ _ ⟨v100, rfl, rfl⟩)
                          refine XOps.loud rfl (L.store (k := 2) ag37 rfl rfl rfl rfl rfl) ?_
                          rintro _ _ ⟨rfl, rfl⟩
                          refine XOps.nil ?_
                          refine Post.block_n ?_
                          refine roundQ.go ((b16, .cells [.vs v100 0 (k + 1) 1]) :: (v100, .lst 1 ((outK (marksS v (blankS v) l l.length) v.h.toNat (k + 1)).map sE)) :: (((b48, .cells (cvC v iv v.h.toNat)) :: (rwK ids (marksS v (blankS v) l l.length) v.h.toNat ++ ((b3, .cells (v.enc.map .d)) :: hs))) ++ priv)) ?_ ?_
                          · exact HLe.pick 1 rfl rfl (HLe.pick 1 rfl (congrArg (fun z => HO.cells [AV.vs v100 0 z 1]) (by simp [outK_len])) (HLe.pick 0 rfl (by rw [outK, List.map_append]; rfl) (HLe.refl _)))
                          · exact ⟨rfl, _, ⟨v100, rfl⟩, rfl⟩
                        · rintro _ _ ⟨rfl, H2, ⟨o, rfl⟩, rfl⟩
                          refine rangeQ.go ((b16, .cells [.vs o 0 v.h.toNat 1]) :: (o, .lst 1 ((outK (marksS v (blankS v) l l.length) v.h.toNat v.h.toNat).map sE)) :: (b48, .cells (cvC v iv v.h.toNat)) :: (rwK ids (marksS v (blankS v) l l.length) v.h.toNat ++ ((b3, .cells (v.enc.map .d)) :: hs))) (HLe.cons _ (HLe.skip _ (HLe.skip _ (HLe.refl _)))) ?_
                          refine W.reg ?_
                          refine XOps.s rfl rfl rfl (Q.ld_ptr (k := 0) ag37 rfl rfl rfl) ?_
                          refine XOps.s rfl rfl rfl (Q.assign_vs rfl) ?_
                          refine XOps.s rfl rfl rfl (Q.assign_d rfl) ?_
                          refine XOps.nil ?_
                          refine W.ret ?_
                          exact ⟨_, (o, .lst 1 ((outK (marksS v (blankS v) l l.length) v.h.toNat v.h.toNat).map sE)) :: hs, rfl, HLe.skip _ (HLe.cons _ (HLe.skip _ (HLe.trans (HLe.skip _ (HLe.refl _)) (hle_app _ _)))), o, rfl, rfl⟩
end Go.Proofs.YtijgdgkfimnkbaaA
