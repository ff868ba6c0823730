/- StripChanged, in plain words. -/
import Derived.Test.YtlfapbkaknikpaaDoorSt2
namespace Go.Proofs.YtlfapbkaknikpaaDoorA
open Go
set_option linter.unusedVariables false
set_option linter.unusedSimpArgs false
set_option linter.unnecessarySimpa false

theorem put_zero {l : List ST} {s : ST} (h : pBE l s = 0) : checkS s = 0 ∧ findS l s.call < 0 ∧ pBL l s = l ++ [s] := by
  have h0 := h
  unfold pBE at h
  split at h
  · exact absurd h ‹_›
  · split at h
    · omega
    · exact ⟨by omega, by omega, if_neg (by omega)⟩
theorem uni_nil : Uni [] := fun i j x y h => by simp at h
theorem uni_put {l : List ST} {s : ST} (u : Uni l) (h : findS l s.call < 0) : Uni (l ++ [s]) := fun i j x y hx hy e => by
  have hn := find_no h
  rw [List.getElem?_append] at hx hy
  split at hx <;> split at hy
  · exact u i j x y hx hy e
  · rename_i q1 q2
    have : y = s := by
      cases hj : j - l.length with
      | zero => rw [hj] at hy; exact (Option.some.inj hy).symm
      | succ m => rw [hj] at hy; simp at hy
    subst this
    exact absurd e (hn x (List.mem_of_getElem? hx))
  · rename_i q1 q2
    have : x = s := by
      cases hj : i - l.length with
      | zero => rw [hj] at hx; exact (Option.some.inj hx).symm
      | succ m => rw [hj] at hx; simp at hx
    subst this
    exact absurd e.symm (hn y (List.mem_of_getElem? hy))
  · rename_i q1 q2
    have a : i - l.length = 0 := by
      cases hj : i - l.length with
      | zero => rfl
      | succ m => rw [hj] at hx; simp at hx
    have b : j - l.length = 0 := by
      cases hj : j - l.length with
      | zero => rfl
      | succ m => rw [hj] at hy; simp at hy
    omega
theorem get_at {l : List ST} (u : Uni l) {i : Nat} {x : ST} (h : l[i]? = some x) : getE l x.call = 0 ∧ getV l x.call = x := by
  have hf := find_at u h
  unfold getE getV
  rw [hf, if_neg (by omega), if_neg (by omega), Int.toNat_natCast, List.getD_eq_getElem?_getD, h]
  exact ⟨rfl, rfl⟩
theorem changed {l : List ST} (u : Uni l) {s : ST} {k : Nat} {x : ST} (hx : l[k]? = some x) :
    getE (chgL l s) x.call = 0 ∧ getV (chgL l s) x.call = if seq x.call s.call = true ∧ chgE l s = 0 then s else x := by
  by_cases h : chgE l s = 0
  · have h0 := h
    unfold chgE at h
    split at h
    · exact absurd h ‹_›
    · split at h
      · omega
      · rename_i q1 q2
        obtain ⟨j, hj⟩ : ∃ j : Nat, findS l s.call = j := ⟨(findS l s.call).toNat, by omega⟩
        obtain ⟨y, hy, hp, _⟩ := idxP_at hj
        have hyc : y.call = s.call := (seq_iff _ _).1 hp
        have hjl := (List.getElem?_eq_some_iff.1 hy).1
        have e : chgL l s = l.set j s := by unfold chgL; rw [if_neg (by omega), hj, Int.toNat_natCast]
        have hset : ∀ (i : Nat) (z : ST), (l.set j s)[i]? = some z → ∃ z0 : ST, l[i]? = some z0 ∧ z0.call = z.call := fun i z hz => by
          rw [List.getElem?_set] at hz
          split at hz
          · rename_i hij
            subst hij
            have hzs : z = s := by
              first
                | exact (Option.some.inj hz).symm
                | (rw [if_pos hjl] at hz; exact (Option.some.inj hz).symm)
            subst hzs
            exact ⟨y, hy, hyc⟩
          · exact ⟨z, hz, rfl⟩
        have u2 : Uni (l.set j s) := fun a b z w hz hw hc => by
          obtain ⟨z0, e1, e2⟩ := hset a z hz
          obtain ⟨w0, e3, e4⟩ := hset b w hw
          exact u a b z0 w0 e1 e3 (by rw [e2, e4, hc])
        rw [e]
        by_cases hc : x.call = s.call
        · obtain rfl : k = j := u k j x y hx hy (by rw [hc, hyc])
          have hs : (l.set k s)[k]? = some s := by rw [List.getElem?_set_self hjl]
          rw [if_pos ⟨(seq_iff _ _).2 hc, h0⟩, hc]
          exact get_at u2 hs
        · have hkj : j ≠ k := fun e => by subst e; rw [hx] at hy; obtain rfl := Option.some.inj hy; exact hc hyc
          have hs : (l.set j s)[k]? = some x := by rw [List.getElem?_set_ne hkj]; exact hx
          rw [if_neg (fun q => hc ((seq_iff _ _).1 q.1))]
          exact get_at u2 hs
  · have e : chgL l s = l := if_pos h
    rw [e, if_neg (fun q => h q.2)]
    exact get_at u hx
theorem chg_len (l : List ST) (s : ST) : (chgL l s).length = l.length := by unfold chgL; split <;> simp
theorem take8 {xs : List ST} : (xs.take (min (((xs.map ST.enc).length : Nat) : Int) 8).toNat).drop (0 : Int).toNat = xs.take 8 := by
  rw [List.length_map, show (0 : Int).toNat = 0 from rfl, List.drop_zero]
  rcases Nat.le_total xs.length 8 with h | h
  · rw [show (min ((xs.length : Nat) : Int) 8).toNat = xs.length by omega, List.take_length, List.take_of_length_le h]
  · rw [show (min ((xs.length : Nat) : Int) 8).toNat = 8 by omega]
end Go.Proofs.YtlfapbkaknikpaaDoorA
