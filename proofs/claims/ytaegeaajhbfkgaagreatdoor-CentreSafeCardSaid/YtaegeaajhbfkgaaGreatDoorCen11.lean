/- Any two flights stay separated. -/
import Derived.Test.YtaegeaajhbfkgaaGreatDoorCen10
namespace Go.Proofs.YtaegeaajhbfkgaaGreatDoorA
open Go
set_option linter.unusedVariables false
set_option linter.unusedSimpArgs false
set_option linter.unnecessarySimpa false
theorem sepdB_symm (a b : Nd) (lat ver : Int) : sepdB a b lat ver = sepdB b a lat ver := by
  have e1 : sqI a.x a.y b.x b.y = sqI b.x b.y a.x a.y := by
    unfold sqI
    have h : ∀ u v : Int, (u - v) * (u - v) = (v - u) * (v - u) := fun u v => by
      rw [show u - v = -(v - u) by omega, Int.neg_mul_neg]
    rw [h a.x b.x, h a.y b.y]
  unfold sepdB
  rw [e1, show max (a.h - b.h) (b.h - a.h) - a.b - b.b = max (b.h - a.h) (a.h - b.h) - b.b - a.b by omega, show rootI (sqI b.x b.y a.x a.y) - a.r - b.r = rootI (sqI b.x b.y a.x a.y) - b.r - a.r by omega]
theorem SepB_sepd {a b : Nd} {lat ver : Int} (h : SepB a b lat ver = true) : sepdB a b lat ver = true := by
  unfold SepB at h
  split at h
  · cases h
  · exact h
theorem sep_good {a b : Nd} {lat ver t : Int} (hc : sepC lat ver = 0) (ha : NdOk a ∧ a.t = t) (hb : NdOk b ∧ b.t = t) (h : sepdB a b lat ver = true) : SepE a b lat ver = 0 ∧ SepB a b lat ver = true := by
  have e : SepE a b lat ver = 0 := by
    have hp : pcC lat ver [[a], [b]] = 0 := by
      unfold pcC
      rw [if_neg (by rw [hc]; simp)]
      unfold pcF
      rw [if_neg (by rw [ok_one ha.1]; simp)]
      unfold pcF
      rw [if_neg (by rw [ok_one hb.1]; simp)]
      rfl
    unfold SepE
    rw [if_neg (by rw [hp]; simp), if_neg (by rw [ha.2, hb.2]; simp)]
  refine ⟨e, ?_⟩
  unfold SepB
  rw [if_neg (by rw [e]; simp), h]
theorem cov_at {l : List Nd} {t : Int} (h : covT l t = true) : hdT l ≤ t ∧ t ≤ laT l := by
  unfold covT at h
  simp only [Bool.and_eq_true, decide_eq_true_eq] at h
  exact ⟨h.1.2, h.2⟩
theorem cov_nil (t : Int) : covT [] t = false := by unfold covT; simp
theorem At_ok {l : List Nd} {t : Int} (ok : TuOk l) (h : covT l t = true) : NdOk (AtN l t) ∧ (AtN l t).t = t := by
  rw [(AtN_eq ok t).1]; exact atN_ok ok (atE_zero.2 (cov_at h))
theorem legF_cov (legs : List (List Nd)) (t : Int) : ∀ n, 0 ≤ legF legs t n → covT (legs.getD (legF legs t n).toNat []) t = true
  | 0, h => by unfold legF at h; omega
  | n + 1, h => by
    unfold legF at h ⊢
    split
    · rename_i h1
      rw [if_pos h1] at h
      split
      · rename_i h2; rw [Int.toNat_natCast]; exact h2
      · rename_i h2; rw [if_neg h2] at h; omega
    · rename_i h1
      rw [if_neg h1] at h
      exact legF_cov legs t n h
theorem legK_mem {legs : List (List Nd)} {t : Int} (h : 0 ≤ legK legs t) : legs.getD (legK legs t).toNat [] ∈ legs ∧ covT (legs.getD (legK legs t).toNat []) t = true := by
  refine ⟨?_, legF_cov legs t _ h⟩
  rcases legF_bd legs t legs.length with h1 | h1
  · unfold legK at h; omega
  · have h2 : (legK legs t).toNat < legs.length := by unfold legK; omega
    exact List.mem_of_getElem? (legs_getD h2)
theorem nodes_mem {legs : List (List Nd)} {next : List Nd} {t : Int} {n : Nd} (h : n ∈ nodesF legs next t) : (0 ≤ legK legs t ∧ n = AtN (legs.getD (legK legs t).toNat []) t) ∨ (covT next t = true ∧ n = AtN next t) := by
  unfold nodesF at h
  rcases List.mem_append.1 h with h | h
  · split at h
    · rename_i h1; exact .inl ⟨h1, by simpa using h⟩
    · cases h
  · split at h
    · rename_i h1; exact .inr ⟨h1, by simpa using h⟩
    · cases h
theorem mem_left {legs : List (List Nd)} {next : List Nd} {t : Int} (h : 0 ≤ legK legs t) : AtN (legs.getD (legK legs t).toNat []) t ∈ nodesF legs next t := by
  unfold nodesF; rw [if_pos h]; simp
theorem mem_right {legs : List (List Nd)} {next : List Nd} {t : Int} (h : covT next t = true) : AtN next t ∈ nodesF legs next t := by
  unfold nodesF; rw [if_pos h]; simp
theorem nodes_ok {f : Fl} (o : FlOk f) {t : Int} {n : Nd} (h : n ∈ nodesF f.legs f.next t) : NdOk n ∧ n.t = t := by
  rcases nodes_mem h with ⟨h1, rfl⟩ | ⟨h1, rfl⟩
  · obtain ⟨h2, h3⟩ := legK_mem h1
    exact At_ok (o.legs _ h2) h3
  · rcases o.next with h2 | h2
    · rw [h2, cov_nil] at h1; cases h1
    · exact At_ok h2 h1
def saR (su : Su) (f g : Fl) : Prop := ∀ t, ∀ n ∈ nodesF f.legs f.next t, ∀ m ∈ nodesF g.legs g.next t, sepdB n m su.lat su.ver = true
theorem saR_symm {su : Su} {f g : Fl} (h : saR su f g) : saR su g f := fun t n hn m hm => by rw [sepdB_symm]; exact h t m hm n hn
theorem tube_sep {su : Su} {fl : List Fl} {c : ByteArray} {l : List Nd} (ok : TuOk l) (h : ¬ clashesB su fl c l = true) {g : Fl} (hg : g ∈ fl) (hc : g.call ≠ c) {t : Int} (ht : covT l t = true) {m : Nd} (hm : m ∈ nodesF g.legs g.next t) : sepdB (AtN l t) m su.lat su.ver = true := by
  have h0 : clashesB su fl c l = false := by simpa using h
  have h1 := List.any_eq_false.1 h0 g hg
  have h2 : (g.call.toList == c.toList) = false := by
    cases e : seq g.call c with
    | false => exact e
    | true => exact absurd ((seq_iff _ _).1 e) hc
  rw [h2] at h1
  have h3 : claB su l g = false := by simpa using h1
  obtain ⟨a1, a2⟩ := cov_at ht
  have hk : (t - hdT l).toNat < cntT l := by unfold cntT; omega
  have h4 := List.any_eq_false.1 h3 (t - hdT l).toNat (by simpa using hk)
  have e1 : hdT l + (((t - hdT l).toNat : Nat) : Int) = t := by omega
  unfold clashK at h4
  rw [e1, (atN_ok ok (atE_zero.2 (cov_at ht))).2] at h4
  have h5 : ((nodesF g.legs g.next t).any fun m => !SepB (atN l t) m su.lat su.ver) = false := by simpa using h4
  have h6 := List.any_eq_false.1 h5 m hm
  rw [(AtN_eq ok t).1]
  exact SepB_sepd (by simpa using h6)
theorem new_saR {su : Su} {fl : List Fl} {ow : List OE} {x : CI} (k : FileOk su fl ow x) {g : Fl} (hg : g ∈ fl) (hc : g.call ≠ x.call) : saR su (newL su fl x) g := by
  intro t n hn m hm
  rcases nodes_mem hn with ⟨h1, rfl⟩ | ⟨h1, rfl⟩
  · obtain ⟨h2, h3⟩ := legK_mem h1
    have h4 : (newL su fl x).legs = [x.tube] := rfl
    rw [h4] at h2 h3 ⊢
    have h5 := List.mem_singleton.1 h2
    rw [h5] at h3 ⊢
    exact tube_sep k.ok k.cla hg hc h3 hm
  · rw [show (newL su fl x).next = [] from rfl, cov_nil] at h1; cases h1
theorem clr_saR {su : Su} {fl : List Fl} {x : CI} {b : ByteArray} (k : ClrOk su fl (atF fl x.call) x b) {g : Fl} (hg : g ∈ fl) (hc : g.call ≠ x.call) (h : saR su (atF fl x.call) g) : saR su (clrL su fl x) g := by
  intro t n hn m hm
  rcases nodes_mem hn with ⟨h1, rfl⟩ | ⟨h1, rfl⟩
  · exact h t _ (mem_left h1) m hm
  · exact tube_sep k.ok k.cla hg hc h1 hm
theorem legF_app (legs : List (List Nd)) (x : List Nd) (t : Int) : ∀ n, n ≤ legs.length → legF (legs ++ [x]) t n = legF legs t n
  | 0, _ => rfl
  | n + 1, h => by
    unfold legF
    rw [getD_left (by omega), legF_app legs x t n (by omega)]
theorem legK_app (legs : List (List Nd)) (x : List Nd) (t : Int) : legK (legs ++ [x]) t = if hdT x ≤ t then (if covT x t = true then (legs.length : Int) else -1) else legK legs t := by
  unfold legK
  rw [show (legs ++ [x]).length = legs.length + 1 by simp]
  rw [legF, getD_end, legF_app legs x t _ (Nat.le_refl _)]
theorem red_nodes {f : Fl} {x : CI} {t : Int} {n : Nd} (h : n ∈ nodesF (redL f x).legs (redL f x).next t) : n ∈ nodesF f.legs f.next t := by
  unfold redL at h
  split at h
  · rcases nodes_mem h with ⟨h1, rfl⟩ | ⟨h1, rfl⟩
    · dsimp only at h1 ⊢
      rw [legK_app] at h1 ⊢
      split
      · rename_i h2
        rw [if_pos h2] at h1
        split
        · rename_i h3
          rw [Int.toNat_natCast, getD_end]
          exact mem_right h3
        · rename_i h3
          rw [if_neg h3] at h1; omega
      · rename_i h2
        rw [if_neg h2] at h1
        rw [getD_left (by
          rcases legF_bd f.legs t f.legs.length with h3 | h3
          · unfold legK at h1; omega
          · unfold legK; omega)]
        exact mem_left h1
    · rw [cov_nil] at h1; cases h1
  · rcases nodes_mem h with ⟨h1, rfl⟩ | ⟨h1, rfl⟩
    · exact mem_left h1
    · rw [cov_nil] at h1; cases h1
theorem sa_step {su : Su} {s : Stt} {x : CI} (o : StOk su s) (h : s.fl.Pairwise (saR su)) : (stepS su s x).fl.Pairwise (saR su) := by
  by_cases he : stepE su s x = 0
  · rw [stepS_yes o he]
    exact op_pair saR_symm o.fw (stepE_zero he).2 h (fun k g hg hc => new_saR k hg hc) (fun b k of _ g hg hc hr => clr_saR k hg hc hr) (fun f _ _ g hr t n hn m hm => hr t n (red_nodes hn) m hm)
  · rw [stepS_no he]; exact h
theorem atS_sa {su : Su} (h : suC su = 0) (xs : List CI) : ∀ k, (atS su xs k).fl.Pairwise (saR su)
  | 0 => by rw [atS_zero]; exact List.Pairwise.nil
  | k + 1 => by
    rcases Nat.lt_or_ge k xs.length with h1 | h1
    · rw [atS_succ su (List.getElem?_eq_getElem h1)]; exact sa_step (atS_ok h xs k) (atS_sa h xs k)
    · have : atS su xs (k + 1) = atS su xs k := by unfold atS; rw [List.take_of_length_le (by omega), List.take_of_length_le h1]
      rw [this]; exact atS_sa h xs k
def befN (fl : List Fl) (t : Int) (i : Nat) : List Nd := ((fl.take i).map fun f => nodesF f.legs f.next t).flatten
theorem befN_succ {fl : List Fl} {t : Int} {i : Nat} {f : Fl} (h : fl[i]? = some f) : befN fl t (i + 1) = befN fl t i ++ nodesF f.legs f.next t := by
  obtain ⟨h1, rfl⟩ := List.getElem?_eq_some_iff.1 h
  unfold befN
  rw [List.take_succ_eq_append_getElem h1, List.map_append, List.flatten_append, List.map_cons, List.map_nil, List.flatten_cons, List.flatten_nil, List.append_nil]
theorem befN_len (fl : List Fl) (t : Int) : ∀ i, (befN fl t i).length ≤ 2 * i
  | 0 => by simp [befN]
  | i + 1 => by
    have ih := befN_len fl t i
    rcases Nat.lt_or_ge i fl.length with h | h
    · have := nodesF_len (fl[i]).legs (fl[i]).next t
      rw [befN_succ (List.getElem?_eq_getElem h), List.length_append]; omega
    · have : befN fl t (i + 1) = befN fl t i := by unfold befN; rw [List.take_of_length_le (by omega), List.take_of_length_le h]
      rw [this]; omega
theorem befN_mem {fl : List Fl} {t : Int} {i : Nat} {m : Nd} (h : m ∈ befN fl t i) : ∃ (j : Nat) (g : Fl), j < i ∧ fl[j]? = some g ∧ m ∈ nodesF g.legs g.next t := by
  unfold befN at h
  obtain ⟨l, hl, hm⟩ := List.mem_flatten.1 h
  obtain ⟨g, hg, rfl⟩ := List.mem_map.1 hl
  obtain ⟨j, hj⟩ := List.getElem?_of_mem hg
  have hlt := (List.getElem?_eq_some_iff.1 hj).1
  rw [List.length_take] at hlt
  refine ⟨j, g, by omega, ?_, hm⟩
  rw [List.getElem?_take, if_pos (by omega)] at hj; exact hj
theorem sa_law {su : Su} {s : Stt} (hc : sepC su.lat su.ver = 0) (o : StOk su s) (h : s.fl.Pairwise (saR su)) {t : Int} {i : Nat} {f : Fl} (hf : s.fl[i]? = some f) {n m : Nd} (hn : n ∈ nodesF f.legs f.next t) (hm : m ∈ befN s.fl t i) :
    SepE n m su.lat su.ver = 0 ∧ SepB n m su.lat su.ver = true := by
  obtain ⟨j, g, hj, hg, hm⟩ := befN_mem hm
  obtain ⟨j1, j2⟩ := List.getElem?_eq_some_iff.1 hg
  obtain ⟨i1, i2⟩ := List.getElem?_eq_some_iff.1 hf
  have hr := List.pairwise_iff_getElem.1 h j i j1 i1 hj
  rw [j2, i2] at hr
  exact sep_good hc (nodes_ok (o.fw.all f (List.mem_of_getElem? hf)) hn) (nodes_ok (o.fw.all g (List.mem_of_getElem? hg)) hm) (saR_symm hr t n hn m hm)
end Go.Proofs.YtaegeaajhbfkgaaGreatDoorA

