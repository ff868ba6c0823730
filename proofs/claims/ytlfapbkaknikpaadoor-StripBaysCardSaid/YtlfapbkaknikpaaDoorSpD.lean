/- Texts of boards. -/
import Derived.Test.YtlfapbkaknikpaaDoorFrB
import Derived.Test.YtlfapbkaknikpaaDoorSpB
import Derived.Test.YtlfapbkaknikpaaDoorSpC
import Derived.Test.YtlfapbkaknikpaaDoorSt0
import Derived.Test.YtlfapbkaknikpaaDoorStrBu
import Derived.Test.YtlfapbkaknikpaaDoorFrD
set_option linter.unusedVariables false
set_option linter.unusedSimpArgs false
set_option linter.unnecessarySimpa false
namespace Go.Proofs.YtlfapbkaknikpaaDoorA.FSpD
open Go
theorem ag24 : tAgg P 24 = some ((true, 5)) := by kernel_rfl
theorem ag3 : tAgg P 3 = some ((false, 1)) := by kernel_rfl
theorem ag9 : tAgg P 9 = some ((false, 1)) := by kernel_rfl
theorem fl24_0 : tFld P 24 0 = some (0) := by kernel_rfl
theorem fl24_1 : tFld P 24 1 = some (1) := by kernel_rfl
theorem fl24_2 : tFld P 24 2 = some (2) := by kernel_rfl
theorem fl24_3 : tFld P 24 3 = some (3) := by kernel_rfl
theorem go12 : callGo Go.Proofs.Tryd.f12 = true := by kernel_rfl
theorem go31 : callGo Go.Proofs.Tryd.f31 = true := by kernel_rfl
theorem go32 : callGo Go.Proofs.Tryd.f32 = true := by kernel_rfl
theorem go33 : callGo Go.Proofs.Tryd.f33 = true := by kernel_rfl
theorem go53 : callGo Go.Proofs.Tryd.f53 = true := by kernel_rfl
theorem go74 : callGo Go.Proofs.Tryd.f74 = true := by kernel_rfl
theorem isl22 : isSl P 22 = true := by kernel_rfl
theorem sl22 : tSl P 22 = some (5) := by kernel_rfl
theorem tz24 : tZero P 24 = some ([.string ⟨#[]⟩, .string ⟨#[]⟩, .int .i64 0, .int .i64 0, .int .i64 0]) := by kernel_rfl
theorem tz59 : tZero P 59 = some ([.pointer none, .slice none 0 0]) := by kernel_rfl
end Go.Proofs.YtlfapbkaknikpaaDoorA.FSpD
namespace Go.Proofs.YtlfapbkaknikpaaDoorA
open Go FSpD
attribute [local irreducible] XOps Quiet Loud W AC GQ DT
abbrev p10G : HO := .glob 1 p10T
theorem itoa_int (n : Int) (h : 0 ≤ n) : bs (Lib.itoa n) = bs (decL n.toNat) := by
  rw [show n = (n.toNat : Nat) by omega, itoa_nat, Int.toNat_natCast]

set_option maxHeartbeats 1000000 in
set_option maxRecDepth 100000 in
theorem itoai_c (m : Int) (gd : Nat) (hs : Hp) (h0 : -9223372036854775808 ≤ m) (h1 : m ≤ 9223372036854775807) : AC P 53 [.d (.int .i64 m)] ((gd, p10G) :: hs) (fun r h => r = .d (.str (bs (Lib.itoa m))) ∧ h = (gd, p10G) :: hs) := by
  refine AC.of 5 Tryd.func53 rfl rfl rfl ?_
  refine W.reg ?_
  refine XOps.s rfl rfl rfl (Q.assign_d rfl) ?_
  refine XOps.nil ?_
  refine W.reg ?_
  refine XOps.s rfl rfl rfl (Q.move_d rfl) ?_
  refine XOps.s rfl rfl rfl (Q.call rfl Tryd.func74 go74 rfl (fmt_c (f := 74) (g := 1) rfl (by kernel_rfl) m h0 h1 gd hs)) ?_
  refine XOps.s rfl rfl rfl (Q.assign_d rfl) ?_
  refine XOps.nil ?_
  refine W.ret ?_
  exact ⟨_, _, rfl, HLe.refl _, rfl, rfl⟩

set_option maxHeartbeats 1000000 in
set_option maxRecDepth 100000 in
theorem itoas_c (m : Int) (gd : Nat) (hs : Hp) (h0 : -9223372036854775808 ≤ m) (h1 : m ≤ 9223372036854775807) : AC P 32 [.d (.int .i64 m)] ((gd, p10G) :: hs) (fun r h => r = .d (.str (bs (Lib.itoa m))) ∧ h = (gd, p10G) :: hs) := by
  refine AC.of 5 Tryd.func32 rfl rfl rfl ?_
  refine W.reg ?_
  refine XOps.s rfl rfl rfl (Q.assign_d rfl) ?_
  refine XOps.nil ?_
  refine W.reg ?_
  refine XOps.s rfl rfl rfl (Q.move_d rfl) ?_
  refine XOps.s rfl rfl rfl (Q.call rfl Tryd.func53 go53 rfl (itoai_c m gd hs h0 h1)) ?_
  refine XOps.s rfl rfl rfl (Q.assign_d rfl) ?_
  refine XOps.nil ?_
  refine W.ret ?_
  exact ⟨_, _, rfl, HLe.refl _, rfl, rfl⟩

theorem itoa_c (m : Int) (gd : Nat) (hs : Hp) (h0 : 0 ≤ m) (h1 : m ≤ 9223372036854775807) : AC P 32 [.d (.int .i64 m)] ((gd, p10G) :: hs) (fun r h => r = .d (.str (bs (decL m.toNat))) ∧ h = (gd, p10G) :: hs) :=
  (itoas_c m gd hs (by omega) h1).mono fun r h hr => by rw [← itoa_int m h0]; exact hr

def bldO (b fb v fv : Nat) (l : List UInt8) (hs : Hp) : Hp := match l with
  | [] => (b, .cells [.d .nilp, .nilsl]) :: (fb, .typ b 59) :: hs
  | c :: t => bldr b fb v fv (c :: t) hs
theorem bldO_ne {b fb v fv : Nat} {l : List UInt8} {hs : Hp} (h : l ≠ []) : bldO b fb v fv l hs = bldr b fb v fv l hs := by
  cases l with
  | nil => exact absurd rfl h
  | cons c t => rfl
theorem wsO_c (b fb v fv : Nat) (l : List UInt8) (s : ByteArray) (hs : Hp) (h0 : s.size ≠ 0) (hL : l.length + s.size ≤ 140737488355328) : AC P 31 [.ptr b 0, .d (.str s)] (bldO b fb v fv l hs) (fun r h => ∃ v fv, r = .tup [.d (.int .i64 (s.size : Nat)), .d .nilif] ∧ h = bldO b fb v fv (l ++ bl s) hs) := by
  have hs0 : bl s ≠ [] := fun h => h0 (by rw [← bl_len, h]; rfl)
  cases l with
  | nil => exact (ws0_c b fb s hs h0 (by simp at hL; omega)).mono fun r h ⟨v, fv, e1, e2⟩ => ⟨v, fv, e1, by rw [e2, List.nil_append, bldO_ne hs0]⟩
  | cons c t => exact (ws1_c b fb v fv (c :: t) s hs hL).mono fun r h ⟨v, fv, e1, e2⟩ => ⟨v, fv, e1, by rw [e2]; rfl⟩
theorem bstrO_c (b fb v fv : Nat) (l : List UInt8) (hs : Hp) : AC P 33 [.ptr b 0] (bldO b fb v fv l hs) (fun r h => r = .d (.str (bs l)) ∧ h = hs) := by
  cases l with
  | nil => exact AC.le (bstr0_c b (.d .nilp) hs) (HLe.cons _ (HLe.skip _ (HLe.refl _)))
  | cons c t => exact bstr1_c b fb v fv (c :: t) hs (by simp)
theorem line_str (q : Nat) (x : ST) (h1 : 0 ≤ x.tm) (h2 : 0 ≤ x.ht) : bl (bs (decL q) ++ ⟨#[32]⟩ ++ bs (decL x.tm.toNat) ++ ⟨#[32]⟩ ++ x.call ++ ⟨#[32]⟩ ++ x.fix ++ ⟨#[32]⟩ ++ bs (decL x.ht.toNat) ++ ⟨#[10]⟩) = lineQ q x := by
  have e1 : bl ⟨#[32]⟩ = [32] := rfl
  have e2 : bl ⟨#[10]⟩ = [10] := rfl
  simp [bl_app, bl_bs, lineQ, e1, e2]

theorem bldO_app (b fb v fv : Nat) (T : List UInt8) (hs : Hp) : bldO b fb v fv T hs = bldO b fb v fv T [] ++ hs := by cases T <;> rfl
theorem bldO_in (A : Hp) {b fb v fv : Nat} {T : List UInt8} {hs : Hp} : HLe (bldO b fb v fv T (A ++ hs)) (A ++ bldO b fb v fv T hs) := by
  rw [bldO_app b fb v fv T (A ++ hs), bldO_app b fb v fv T hs]
  exact HLe.perm (List.perm_append_comm_assoc _ _ _)
theorem bldO_out (A : Hp) {b fb v fv : Nat} {T : List UInt8} {hs : Hp} : HLe (A ++ bldO b fb v fv T hs) (bldO b fb v fv T (A ++ hs)) := by
  rw [bldO_app b fb v fv T (A ++ hs), bldO_app b fb v fv T hs]
  exact HLe.perm (List.perm_append_comm_assoc _ _ _)

set_option maxHeartbeats 8000000 in
set_option maxRecDepth 100000 in
theorem text_c (b : Nat) (l : List ST) (f : Nat) (gd : Nat) (hs : Hp) (hl : l.length ≤ 900) (hc : ∀ x ∈ l, checkS x = 0) : AC P 16 [.ptr b 0] ((gd, p10G) :: stH b l f hs) (fun r h => ∃ T, IsText l 4 T ∧ r = .d (.str (bs T)) ∧ h = (gd, p10G) :: stH b l f hs) := by
  refine AC.of 43 Tryd.func16 rfl rfl rfl ?_
  refine W.reg ?_
  refine XOps.s rfl rfl rfl (Q.assign_d rfl) ?_
  refine XOps.nil ?_
  refine W.reg ?_
  (refine XOps.loud rfl (L.allocT tz59 rfl rfl) ?_; rintro _ _ ⟨b3, fb, rfl, rfl⟩)
  refine XOps.nil ?_
  refine W.seq ?_
  refine W.reg ?_
  refine XOps.s rfl rfl rfl (Q.move_d rfl) ?_
  refine XOps.nil ?_
  refine W.block ?_
  refine W.loop (ι := Nat × List UInt8 × Nat × Nat) (fun p => [(0, .ptr b 0), (3, .ptr b3 0), (7, .d (.int .i64 (p.1 : Nat)))]) (fun p => (gd, p10G) :: stH b l f (bldO b3 fb p.2.2.1 p.2.2.2 p.2.1 hs)) (fun p => p.1 ≤ 4 ∧ IsText l p.1 p.2.1) (fun p => 4 - p.1) (0, [], 0, 0) ?_ ?_ ?_ ?_
  · exact ⟨Nat.zero_le _, rfl⟩
  · exact ⟨by first | rfl | exact int_eq (by omega) | exact len_eq (by simp) | exact int_eq (by simp; done), by first | rfl | exact int_eq (by omega) | exact len_eq (by simp) | exact int_eq (by simp; done), by first | rfl | exact int_eq (by omega) | exact len_eq (by simp) | exact int_eq (by simp; done), trivial⟩
  · exact HLe.pick 2 rfl rfl (HLe.pick 2 rfl rfl (HLe.pick 2 rfl rfl (HLe.pick 1 rfl rfl (HLe.refl _))))
  · rintro ⟨q, T, v, fv⟩ ⟨hq, hI⟩
    dsimp only at hq hI ⊢
    refine W.reg ?_
    refine XOps.s rfl rfl rfl (Q.lss rfl rfl) ?_
    refine XOps.nil ?_
    refine W.seq ?_
    refine W.cond rfl (fun hc8 => ?_) (fun hc8 => ?_)
    · try simp only [Bool.or_eq_true, Bool.or_eq_false_iff, Bool.and_eq_true, Bool.and_eq_false_iff, decide_eq_true_eq, decide_eq_false_iff_not, Bool.not_eq_true', Bool.not_eq_false', Int.not_lt, Int.not_le, List.length_map] at hc8
      have hq4 : q < 4 := by omega
      refine W.skip ?_
      refine W.seq ?_
      refine W.block ?_
      refine W.reg ?_
      refine XOps.s rfl rfl rfl (Q.move_d rfl) ?_
      refine XOps.s rfl rfl rfl (Q.assign_d rfl) ?_
      refine XOps.nil ?_
      refine W.reg ?_
      refine XOps.s rfl rfl rfl (Q.move_ptr rfl) ?_
      refine XOps.s rfl rfl rfl (Q.move_d rfl) ?_
      (refine XOps.loud rfl (L.call rfl Tryd.func12 go12 rfl (AC.le (bay_own b l f q ((gd, p10G) :: bldO b3 fb v fv T hs) (by omega)) (HLe.pick 1 rfl rfl (HLe.pick 1 rfl rfl (HLe.refl _)))) rfl) ?_; rintro _ _ ⟨_, rfl, v12, out, hb, rfl, rfl⟩)
      refine XOps.s rfl rfl rfl (Q.len_vs isl22 rfl) ?_
      refine XOps.s rfl rfl rfl (Q.move_d rfl) ?_
      refine XOps.nil ?_
      refine W.freeze 12 0 rfl rfl (by simp) ?_
      refine W.heap ((gd, p10G) :: stH b l f (bldO b3 fb v fv T hs)) (HLe.pick 2 rfl rfl (HLe.refl _)) ?_
      have htl := text_len q hI hc (by omega)
      have hbl := bay_len hb
      have hql : 50 * l.length * q ≤ 50 * l.length * 4 := Nat.mul_le_mul_left _ (by omega)
      refine W.block ?_
      refine W.loop (ι := Nat × Nat × Nat) (fun p => [(0, .ptr b 0), (3, .ptr b3 0), (4, .d (.int .i64 (q : Nat))), (7, .d (.int .i64 (q : Nat))), (12, .d (.sl 5 (out.map ST.enc))), (13, .d (.int .i64 out.length)), (14, .d (.int .i64 (p.1 : Nat)))]) (fun p => (gd, p10G) :: stH b l f (bldO b3 fb p.2.1 p.2.2 (T ++ linesQ q (out.take p.1)) hs)) (fun p => p.1 ≤ out.length) (fun p => out.length - p.1) (0, v, fv) ?_ ?_ ?_ ?_
      · exact Nat.zero_le _
      · exact ⟨by first | rfl | exact int_eq (by omega) | exact len_eq (by simp) | exact int_eq (by simp; done), by first | rfl | exact int_eq (by omega) | exact len_eq (by simp) | exact int_eq (by simp; done), by first | rfl | exact int_eq (by omega) | exact len_eq (by simp) | exact int_eq (by simp; done), by first | rfl | exact int_eq (by omega) | exact len_eq (by simp) | exact int_eq (by simp; done), by first | rfl | exact int_eq (by omega) | exact len_eq (by simp) | exact int_eq (by simp; done), by first | rfl | exact int_eq (by omega) | exact len_eq (by simp) | exact int_eq (by simp; done), by first | rfl | exact int_eq (by omega) | exact len_eq (by simp) | exact int_eq (by simp; done), trivial⟩
      · (show HLe ((gd, p10G) :: stH b l f (bldO b3 fb v fv (T ++ linesQ q (out.take 0)) hs)) _; rw [List.take_zero, show linesQ q [] = [] from rfl, List.append_nil]; exact HLe.refl _)
      · rintro ⟨k, v, fv⟩ hk
        dsimp only at hk ⊢
        refine W.reg ?_
        refine XOps.s rfl rfl rfl (Q.lss rfl rfl) ?_
        refine XOps.nil ?_
        refine W.seq ?_
        refine W.cond rfl (fun hc15 => ?_) (fun hc15 => ?_)
        · try simp only [Bool.or_eq_true, Bool.or_eq_false_iff, Bool.and_eq_true, Bool.and_eq_false_iff, decide_eq_true_eq, decide_eq_false_iff_not, Bool.not_eq_true', Bool.not_eq_false', Int.not_lt, Int.not_le, List.length_map] at hc15
          obtain ⟨x, hx⟩ : ∃ x, out[k]? = some x := ⟨_, List.getElem?_eq_getElem (by omega)⟩
          have hxc := hc x (bay_mem hb (List.mem_of_getElem? hx)).1
          have cz := checkS_zero hxc
          have hlk := lines_len (q := q) (by omega) (out.take k) fun y hy => hc y (bay_mem hb (List.mem_of_mem_take hy)).1
          rw [List.length_take] at hlk
          have z1 : (bs (decL ((q : Nat) : Int).toNat)).size ≤ 1 := by rw [bs_size, Int.toNat_natCast]; exact decL_len _ 0 (by omega)
          have z2 : (bs (decL x.tm.toNat)).size ≤ 6 := by rw [bs_size]; exact decL_len _ 5 (by omega)
          have z3 : (bs (decL x.ht.toNat)).size ≤ 5 := by rw [bs_size]; exact decL_len _ 4 (by omega)
          have z4 : (⟨#[32]⟩ : ByteArray).size = 1 := rfl
          have z5 : (⟨#[10]⟩ : ByteArray).size = 1 := rfl
          have hsu := linesQ_succ (q := q) hx
          have hls := line_str q x (by omega) (by omega)
          refine W.skip ?_
          refine W.seq ?_
          refine W.block ?_
          refine W.reg ?_
          refine XOps.s rfl rfl rfl (Q.idx_sl sl22 (by decide) rfl rfl (by first | omega | (simp only [List.length_map]; omega)) (by exact map_at hx)) ?_
          refine XOps.s rfl rfl rfl (Q.ld_dpn ag24 rfl rfl) ?_
          (refine XOps.loud rfl (L.alloc tz24 rfl rfl) ?_; rintro _ _ ⟨b6, rfl, rfl⟩)
          refine XOps.loud rfl (L.storen (k := 0) ag24 rfl rfl rfl rfl rfl) ?_
          rintro _ _ ⟨rfl, rfl⟩
          refine XOps.nil ?_
          refine W.drawT 22 [1, 5, 18, 21] follows (by kernel_rfl) (by decide) ?_
          apply DT.moreC [.new, .now, .later, .new, .new, .later, .later, .later, .new, .new, .later, .later, .new, .new, .later, .later, .new, .new, .later, .later, .later, .later] (by kernel_rfl)
          refine PC.new _ rfl (GQ.q rfl (Q.move_d rfl)) rfl ?_
          refine PC.now rfl rfl (fun τ => Loud.to (L.call rfl Tryd.func32 go32 rfl (AC.le (itoa_c (q : Nat) gd ((b6, .cells (x.enc.map .d)) :: stH b l f (bldO b3 fb v fv (T ++ linesQ q (out.take k)) hs)) (by omega) (by omega)) (HLe.pick 1 rfl rfl (HLe.refl _))) rfl) (fun _ _ ⟨r, h1, h2⟩ => ⟨r, h1, _, h2, rfl⟩)) ?_
          refine PC.later rfl ?_
          refine PC.new _ rfl (GQ.q rfl (Q.fld_ptr fl24_2 rfl)) rfl ?_
          refine PC.new _ rfl (GQ.q rfl (Q.ld_ptr (k := 0) ag3 rfl rfl rfl)) rfl ?_
          refine PC.later rfl ?_
          refine PC.later rfl ?_
          refine PC.later rfl ?_
          refine PC.new _ rfl (GQ.q rfl (Q.fld_ptr fl24_0 rfl)) rfl ?_
          refine PC.new _ rfl (GQ.q rfl (Q.ld_ptr (k := 0) ag9 rfl rfl rfl)) rfl ?_
          refine PC.later rfl ?_
          refine PC.later rfl ?_
          refine PC.new _ rfl (GQ.q rfl (Q.fld_ptr fl24_1 rfl)) rfl ?_
          refine PC.new _ rfl (GQ.q rfl (Q.ld_ptr (k := 0) ag9 rfl rfl rfl)) rfl ?_
          refine PC.later rfl ?_
          refine PC.later rfl ?_
          refine PC.new _ rfl (GQ.q rfl (Q.fld_ptr fl24_3 rfl)) rfl ?_
          refine PC.new _ rfl (GQ.q rfl (Q.ld_ptr (k := 0) ag3 rfl rfl rfl)) rfl ?_
          refine PC.later rfl ?_
          refine PC.later rfl ?_
          refine PC.later rfl ?_
          refine PC.later rfl ?_
          refine PC.nil ?_
          rintro _ _ ⟨_, ⟨rfl, rfl⟩, rfl⟩
          apply DT.moreC [.did, .did, .new, .old, .old, .now, .later, .later, .old, .old, .later, .later, .old, .old, .later, .later, .old, .old, .later, .later, .later, .later] (by kernel_rfl)
          refine PC.did rfl ?_
          refine PC.did rfl ?_
          refine PC.new _ rfl (GQ.q rfl (Q.adds rfl rfl (by first | omega | (simp only [ByteArray.size_append]; omega)))) rfl ?_
          refine PC.old rfl (GQ.q rfl (Q.fld_ptr fl24_2 rfl)) rfl ?_
          refine PC.old rfl (GQ.q rfl (Q.ld_ptr (k := 1) ag3 rfl rfl rfl)) rfl ?_
          refine PC.now rfl rfl (fun τ => Loud.to (L.call rfl Tryd.func32 go32 rfl (itoa_c x.tm gd ((b6, .cells (x.enc.map .d)) :: stH b l f (bldO b3 fb v fv (T ++ linesQ q (out.take k)) hs)) (by omega) (by omega)) rfl) (fun _ _ ⟨r, h1, h2⟩ => ⟨r, h1, _, h2, rfl⟩)) ?_
          refine PC.later rfl ?_
          refine PC.later rfl ?_
          refine PC.old rfl (GQ.q rfl (Q.fld_ptr fl24_0 rfl)) rfl ?_
          refine PC.old rfl (GQ.q rfl (Q.ld_ptr (k := 1) ag9 rfl rfl rfl)) rfl ?_
          refine PC.later rfl ?_
          refine PC.later rfl ?_
          refine PC.old rfl (GQ.q rfl (Q.fld_ptr fl24_1 rfl)) rfl ?_
          refine PC.old rfl (GQ.q rfl (Q.ld_ptr (k := 1) ag9 rfl rfl rfl)) rfl ?_
          refine PC.later rfl ?_
          refine PC.later rfl ?_
          refine PC.old rfl (GQ.q rfl (Q.fld_ptr fl24_3 rfl)) rfl ?_
          refine PC.old rfl (GQ.q rfl (Q.ld_ptr (k := 1) ag3 rfl rfl rfl)) rfl ?_
          refine PC.later rfl ?_
          refine PC.later rfl ?_
          refine PC.later rfl ?_
          refine PC.later rfl ?_
          refine PC.nil ?_
          rintro _ _ ⟨_, ⟨rfl, rfl⟩, rfl⟩
          apply DT.moreC [.did, .did, .old, .did, .did, .did, .new, .new, .old, .old, .new, .new, .old, .old, .new, .new, .old, .old, .now, .later, .later, .later] (by kernel_rfl)
          refine PC.did rfl ?_
          refine PC.did rfl ?_
          refine PC.old rfl (GQ.q rfl (Q.adds rfl rfl (by first | omega | (simp only [ByteArray.size_append]; omega)))) rfl ?_
          refine PC.did rfl ?_
          refine PC.did rfl ?_
          refine PC.did rfl ?_
          refine PC.new _ rfl (GQ.q rfl (Q.adds rfl rfl (by first | omega | (simp only [ByteArray.size_append]; omega)))) rfl ?_
          refine PC.new _ rfl (GQ.q rfl (Q.adds rfl rfl (by first | omega | (simp only [ByteArray.size_append]; omega)))) rfl ?_
          refine PC.old rfl (GQ.q rfl (Q.fld_ptr fl24_0 rfl)) rfl ?_
          refine PC.old rfl (GQ.q rfl (Q.ld_ptr (k := 1) ag9 rfl rfl rfl)) rfl ?_
          refine PC.new _ rfl (GQ.q rfl (Q.adds rfl rfl (by first | omega | (simp only [ByteArray.size_append]; omega)))) rfl ?_
          refine PC.new _ rfl (GQ.q rfl (Q.adds rfl rfl (by first | omega | (simp only [ByteArray.size_append]; omega)))) rfl ?_
          refine PC.old rfl (GQ.q rfl (Q.fld_ptr fl24_1 rfl)) rfl ?_
          refine PC.old rfl (GQ.q rfl (Q.ld_ptr (k := 1) ag9 rfl rfl rfl)) rfl ?_
          refine PC.new _ rfl (GQ.q rfl (Q.adds rfl rfl (by first | omega | (simp only [ByteArray.size_append]; omega)))) rfl ?_
          refine PC.new _ rfl (GQ.q rfl (Q.adds rfl rfl (by first | omega | (simp only [ByteArray.size_append]; omega)))) rfl ?_
          refine PC.old rfl (GQ.q rfl (Q.fld_ptr fl24_3 rfl)) rfl ?_
          refine PC.old rfl (GQ.q rfl (Q.ld_ptr (k := 1) ag3 rfl rfl rfl)) rfl ?_
          refine PC.now rfl rfl (fun τ => Loud.to (L.call rfl Tryd.func32 go32 rfl (itoa_c x.ht gd ((b6, .cells (x.enc.map .d)) :: stH b l f (bldO b3 fb v fv (T ++ linesQ q (out.take k)) hs)) (by omega) (by omega)) rfl) (fun _ _ ⟨r, h1, h2⟩ => ⟨r, h1, _, h2, rfl⟩)) ?_
          refine PC.later rfl ?_
          refine PC.later rfl ?_
          refine PC.later rfl ?_
          refine PC.nil ?_
          rintro _ _ ⟨_, ⟨rfl, rfl⟩, rfl⟩
          apply DT.moreC [.did, .did, .old, .did, .did, .did, .old, .old, .old, .old, .old, .old, .old, .old, .old, .old, .did, .did, .did, .new, .new, .now] (by kernel_rfl)
          refine PC.did rfl ?_
          refine PC.did rfl ?_
          refine PC.old rfl (GQ.q rfl (Q.adds rfl rfl (by first | omega | (simp only [ByteArray.size_append]; omega)))) rfl ?_
          refine PC.did rfl ?_
          refine PC.did rfl ?_
          refine PC.did rfl ?_
          refine PC.old rfl (GQ.q rfl (Q.adds rfl rfl (by first | omega | (simp only [ByteArray.size_append]; omega)))) rfl ?_
          refine PC.old rfl (GQ.q rfl (Q.adds rfl rfl (by first | omega | (simp only [ByteArray.size_append]; omega)))) rfl ?_
          refine PC.old rfl (GQ.q rfl (Q.fld_ptr fl24_0 rfl)) rfl ?_
          refine PC.old rfl (GQ.q rfl (Q.ld_ptr (k := 1) ag9 rfl rfl rfl)) rfl ?_
          refine PC.old rfl (GQ.q rfl (Q.adds rfl rfl (by first | omega | (simp only [ByteArray.size_append]; omega)))) rfl ?_
          refine PC.old rfl (GQ.q rfl (Q.adds rfl rfl (by first | omega | (simp only [ByteArray.size_append]; omega)))) rfl ?_
          refine PC.old rfl (GQ.q rfl (Q.fld_ptr fl24_1 rfl)) rfl ?_
          refine PC.old rfl (GQ.q rfl (Q.ld_ptr (k := 1) ag9 rfl rfl rfl)) rfl ?_
          refine PC.old rfl (GQ.q rfl (Q.adds rfl rfl (by first | omega | (simp only [ByteArray.size_append]; omega)))) rfl ?_
          refine PC.old rfl (GQ.q rfl (Q.adds rfl rfl (by first | omega | (simp only [ByteArray.size_append]; omega)))) rfl ?_
          refine PC.did rfl ?_
          refine PC.did rfl ?_
          refine PC.did rfl ?_
          refine PC.new _ rfl (GQ.q rfl (Q.adds rfl rfl (by first | omega | (simp only [ByteArray.size_append]; omega)))) rfl ?_
          refine PC.new _ rfl (GQ.q rfl (Q.adds rfl rfl (by first | omega | (simp only [ByteArray.size_append]; omega)))) rfl ?_
          refine PC.now rfl rfl (fun τ => Loud.to (L.call rfl Tryd.func31 go31 rfl (AC.le (wsO_c b3 fb v fv (T ++ linesQ q (out.take k)) (bs (decL ((q : Nat) : Int).toNat) ++ (⟨#[32]⟩ : ByteArray) ++ bs (decL x.tm.toNat) ++ (⟨#[32]⟩ : ByteArray) ++ x.call ++ (⟨#[32]⟩ : ByteArray) ++ x.fix ++ (⟨#[32]⟩ : ByteArray) ++ bs (decL x.ht.toNat) ++ (⟨#[10]⟩ : ByteArray)) ([(gd, p10G), (b, .cells [.vs f 0 l.length 5]), (f, .lst 5 (l.map ST.enc))] ++ hs) (by simp only [ByteArray.size_append]; omega) (by rw [List.length_append]; simp only [ByteArray.size_append]; omega)) (HLe.trans (bldO_in [(gd, p10G), (b, .cells [.vs f 0 l.length 5]), (f, .lst 5 (l.map ST.enc))]) (HLe.cons _ (HLe.skip _ (HLe.refl _))))) rfl) (fun _ _ ⟨r, h1, h2⟩ => ⟨r, h1, _, h2, rfl⟩)) ?_
          refine PC.nil ?_
          rintro _ _ ⟨_, ⟨v2, fv2, rfl, rfl⟩, rfl⟩
          refine DT.last [.did, .did, .did, .did, .did, .did, .did, .did, .did, .did, .did, .did, .did, .did, .did, .did, .did, .did, .did, .did, .did, .did] (by kernel_rfl) ?_
          refine PC.did rfl ?_
          refine PC.did rfl ?_
          refine PC.did rfl ?_
          refine PC.did rfl ?_
          refine PC.did rfl ?_
          refine PC.did rfl ?_
          refine PC.did rfl ?_
          refine PC.did rfl ?_
          refine PC.did rfl ?_
          refine PC.did rfl ?_
          refine PC.did rfl ?_
          refine PC.did rfl ?_
          refine PC.did rfl ?_
          refine PC.did rfl ?_
          refine PC.did rfl ?_
          refine PC.did rfl ?_
          refine PC.did rfl ?_
          refine PC.did rfl ?_
          refine PC.did rfl ?_
          refine PC.did rfl ?_
          refine PC.did rfl ?_
          refine PC.did rfl ?_
          refine PC.nil ?_
          refine XOps.nil ?_
          refine W.region ?_
          refine XOps.s rfl rfl rfl (Q.add rfl rfl (wi64 (by first | omega | (dsimp only; omega) | (simp only [List.length_map]; omega)) (by first | omega | (dsimp only; omega) | (simp only [List.length_map]; omega)))) ?_
          refine XOps.s rfl rfl rfl (Q.move_d rfl) ?_
          refine XOps.nil ?_
          refine ⟨(k + 1, v2, fv2), ?_, ?_, ?_, ?_⟩
          · exact (show k + 1 ≤ _ by omega)
          · dsimp only; omega
          · exact ⟨by first | rfl | exact int_eq (by omega) | exact len_eq (by simp) | exact int_eq (by simp; done), by first | rfl | exact int_eq (by omega) | exact len_eq (by simp) | exact int_eq (by simp; done), by first | rfl | exact int_eq (by omega) | exact len_eq (by simp) | exact int_eq (by simp; done), by first | rfl | exact int_eq (by omega) | exact len_eq (by simp) | exact int_eq (by simp; done), by first | rfl | exact int_eq (by omega) | exact len_eq (by simp) | exact int_eq (by simp; done), by first | rfl | exact int_eq (by omega) | exact len_eq (by simp) | exact int_eq (by simp; done), by first | rfl | exact int_eq (by omega) | exact len_eq (by simp) | exact int_eq (by simp; done), trivial⟩
          · (dsimp only; rw [hsu, ← hls, ← List.append_assoc]; exact bldO_out [(gd, p10G), (b, .cells [.vs f 0 l.length 5]), (f, .lst 5 (l.map ST.enc))])
        · try simp only [Bool.or_eq_true, Bool.or_eq_false_iff, Bool.and_eq_true, Bool.and_eq_false_iff, decide_eq_true_eq, decide_eq_false_iff_not, Bool.not_eq_true', Bool.not_eq_false', Int.not_lt, Int.not_le, List.length_map] at hc15
          obtain rfl : k = out.length := by omega
          refine W.exit ?_
          refine W.region ?_
          refine XOps.s rfl rfl rfl (Q.add rfl rfl (wi64 (by first | omega | (dsimp only; omega) | (simp only [List.length_map]; omega)) (by first | omega | (dsimp only; omega) | (simp only [List.length_map]; omega)))) ?_
          refine XOps.s rfl rfl rfl (Q.move_d rfl) ?_
          refine XOps.nil ?_
          refine ⟨(q + 1, T ++ linesQ q out, v, fv), ?_, ?_, ?_, ?_⟩
          · exact ⟨by dsimp only; omega, T, out, hI, hb, rfl⟩
          · dsimp only; omega
          · exact ⟨by first | rfl | exact int_eq (by omega) | exact len_eq (by simp) | exact int_eq (by simp; done), by first | rfl | exact int_eq (by omega) | exact len_eq (by simp) | exact int_eq (by simp; done), by first | rfl | exact int_eq (by omega) | exact len_eq (by simp) | exact int_eq (by simp; done), trivial⟩
          · (dsimp only; rw [List.take_length]; exact HLe.refl _)
    · try simp only [Bool.or_eq_true, Bool.or_eq_false_iff, Bool.and_eq_true, Bool.and_eq_false_iff, decide_eq_true_eq, decide_eq_false_iff_not, Bool.not_eq_true', Bool.not_eq_false', Int.not_lt, Int.not_le, List.length_map] at hc8
      obtain rfl : q = 4 := by omega
      refine W.exit ?_
      refine W.reg ?_
      (refine XOps.loud rfl (L.call rfl Tryd.func33 go33 rfl (AC.le (bstrO_c b3 fb v fv T ([(gd, p10G), (b, .cells [.vs f 0 l.length 5]), (f, .lst 5 (l.map ST.enc))] ++ hs)) (bldO_in [(gd, p10G), (b, .cells [.vs f 0 l.length 5]), (f, .lst 5 (l.map ST.enc))])) rfl) ?_; rintro _ _ ⟨_, rfl, rfl, rfl⟩)
      refine XOps.s rfl rfl rfl (Q.assign_d rfl) ?_
      refine XOps.nil ?_
      refine W.ret ?_
      refine ⟨_, (gd, p10G) :: stH b l f hs, rfl, HLe.refl _, T, hI, rfl, rfl⟩
end Go.Proofs.YtlfapbkaknikpaaDoorA
