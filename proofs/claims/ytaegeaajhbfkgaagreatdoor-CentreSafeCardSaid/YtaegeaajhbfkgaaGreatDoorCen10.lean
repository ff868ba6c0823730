/- What every step keeps of each flight, and of every two. -/
import Derived.Test.YtaegeaajhbfkgaaGreatDoorCen8
namespace Go.Proofs.YtaegeaajhbfkgaaGreatDoorA
open Go
set_option linter.unusedVariables false
set_option linter.unusedSimpArgs false
set_option linter.unnecessarySimpa false
theorem fw_new {su : Su} {fl : List Fl} {ow : List OE} {x : CI} (o : FwOk fl ow) (k : FileOk su fl ow x) : ∀ g ∈ fl, g.call ≠ x.call := fun g hg e => by
  have h1 := (o.srt.has_iff x.call).2 (List.mem_map.2 ⟨g, hg, e⟩)
  rw [o.has, (beg_ok o.owk k.beg).2.2] at h1
  cases h1
theorem op_all {su : Su} {s : Stt} {x : CI} {p : Fl → Prop} (o : FwOk s.fl s.ow) (h : opE su s x = 0) (hp : ∀ f ∈ s.fl, p f)
    (hfile : FileOk su s.fl s.ow x → p (newL su s.fl x)) (hclr : ∀ b, ClrOk su s.fl (atF s.fl x.call) x b → FlOk (atF s.fl x.call) → p (atF s.fl x.call) → p (clrL su s.fl x))
    (hred : ∀ f, FlOk f → f.next ≠ [] → p f → p (redL f x)) : ∀ f ∈ opF su s x, p f := by
  intro f hf
  unfold opE at h
  unfold opF at hf
  split at h
  · rename_i h1
    rw [if_pos h1, (file_yes h).1] at hf
    rcases mem_ins.1 hf with rfl | hf
    · exact hfile (file_zero h)
    · exact hp f hf
  · rename_i h1
    rw [if_neg h1] at hf
    split at h
    · rename_i h2
      rw [if_pos h2, clr_yes h] at hf
      obtain ⟨k1, k2⟩ := clr_zero h
      have hm := mem_at ((o.has x.call).trans k1)
      rcases mem_set hf with rfl | hf
      · exact hclr _ k2 (o.all _ hm) (hp _ hm)
      · exact hp f hf
    · rename_i h2
      rw [if_neg h2] at hf
      split at h
      · rename_i h3
        rw [if_pos h3, red_yes h] at hf
        obtain ⟨k1, k2, _⟩ := red_zero h
        have hm := mem_at k1
        rcases mem_set hf with rfl | hf
        · exact hred _ (o.all _ hm) k2 (hp _ hm)
        · exact hp f hf
      · rename_i h3
        rw [if_neg h3] at hf
        split at h
        · rename_i h4
          rw [if_pos h4, (fin_yes h).1] at hf
          exact hp f (mem_del hf)
        · rename_i h4
          rw [if_neg h4] at hf
          exact hp f hf
theorem ins_perm {α : Type} (l : List α) (k : Nat) (x : α) : (insX l k x).Perm (x :: l) := by
  unfold insX
  have := List.perm_middle (a := x) (l₁ := l.take k) (l₂ := l.drop k)
  rwa [List.take_append_drop] at this
theorem set_perm {α : Type} {l : List α} {k : Nat} (h : k < l.length) (x : α) : (l.set k x).Perm (x :: delX l k) := by
  rw [List.set_eq_take_append_cons_drop, if_pos h]
  exact List.perm_middle
theorem self_perm {α : Type} {l : List α} {k : Nat} {x : α} (h : l[k]? = some x) : l.Perm (x :: delX l k) := by
  obtain ⟨h1, h2⟩ := List.getElem?_eq_some_iff.1 h
  have h3 : l.set k x = l := by rw [← h2]; exact List.set_getElem_self h1
  have := set_perm h1 x
  rwa [h3] at this
theorem del_sub {α : Type} (l : List α) (k : Nat) : (delX l k).Sublist l := by
  unfold delX
  have h1 : (l.drop (k + 1)).Sublist (l.drop k) := by rw [show l.drop (k + 1) = (l.drop k).drop 1 by first | rw [List.drop_drop] | rw [List.drop_drop, Nat.add_comm]]; exact List.drop_sublist _ _
  have := (List.Sublist.refl (l.take k)).append h1
  rwa [List.take_append_drop] at this
theorem del_ne {fl : List Fl} (h : SrtK Fl.call fl) {k : Nat} {f : Fl} (hf : fl[k]? = some f) : ∀ g ∈ delX fl k, g.call ≠ f.call := by
  have h1 : fl.Pairwise (fun a b => a.call ≠ b.call) := h.imp fun {a b} hab e => by rw [e, cmpB_self] at hab; omega
  have h2 := ((self_perm hf).pairwise_iff (R := fun a b : Fl => a.call ≠ b.call) (fun h e => h e.symm)).1 h1
  exact fun g hg e => (List.pairwise_cons.1 h2).1 g hg e.symm
theorem op_pair {su : Su} {s : Stt} {x : CI} {R : Fl → Fl → Prop} (sym : ∀ {f g : Fl}, R f g → R g f) (o : FwOk s.fl s.ow) (h : opE su s x = 0) (hp : s.fl.Pairwise R)
    (hfile : FileOk su s.fl s.ow x → ∀ g ∈ s.fl, g.call ≠ x.call → R (newL su s.fl x) g)
    (hclr : ∀ b, ClrOk su s.fl (atF s.fl x.call) x b → FlOk (atF s.fl x.call) → (atF s.fl x.call).call = x.call → ∀ g ∈ s.fl, g.call ≠ x.call → R (atF s.fl x.call) g → R (clrL su s.fl x) g)
    (hred : ∀ f, FlOk f → f.next ≠ [] → ∀ g, R f g → R (redL f x) g) : (opF su s x).Pairwise R := by
  have hset : ∀ f', hasK Fl.call s.fl x.call = true → (∀ g ∈ s.fl, g.call ≠ x.call → R (atF s.fl x.call) g → R f' g) → (s.fl.set (posK Fl.call s.fl x.call) f').Pairwise R := by
    intro f' hh hr
    obtain ⟨h1, h2⟩ := atF_get hh
    have h3 := ((self_perm h1).pairwise_iff sym).1 hp
    obtain ⟨h4, h5⟩ := List.pairwise_cons.1 h3
    refine ((set_perm (List.getElem?_eq_some_iff.1 h1).1 f').pairwise_iff sym).2 (List.pairwise_cons.2 ⟨fun g hg => ?_, h5⟩)
    exact hr g ((del_sub _ _).subset hg) (fun e => del_ne o.srt h1 g hg (e.trans h2.symm)) (h4 g hg)
  unfold opE at h
  unfold opF
  split at h
  · rename_i h1
    rw [if_pos h1, (file_yes h).1]
    exact ((ins_perm _ _ _).pairwise_iff sym).2 (List.pairwise_cons.2 ⟨fun g hg => hfile (file_zero h) g hg (fw_new o (file_zero h) g hg), hp⟩)
  · rename_i h1
    rw [if_neg h1]
    split at h
    · rename_i h2
      rw [if_pos h2, clr_yes h]
      obtain ⟨k1, k2⟩ := clr_zero h
      have hh := (o.has x.call).trans k1
      exact hset _ hh (hclr _ k2 (o.all _ (mem_at hh)) (atF_get hh).2)
    · rename_i h2
      rw [if_neg h2]
      split at h
      · rename_i h3
        rw [if_pos h3, red_yes h]
        obtain ⟨k1, k2, _⟩ := red_zero h
        exact hset _ k1 fun g hg _ hr => hred _ (o.all _ (mem_at k1)) k2 g hr
      · rename_i h3
        rw [if_neg h3]
        split at h
        · rename_i h4
          rw [if_pos h4, (fin_yes h).1]
          exact hp.sublist (del_sub _ _)
        · rename_i h4
          rw [if_neg h4]; exact hp
structure LdF (f : Fl) : Prop where
  zero : f.lands = false → f.land = 0 ∧ f.nland = 0
  end_ : f.lands = true → laT (lastL f) ≤ f.land ∧ f.land ≤ f.slot ∧ f.nland ≤ f.slot
  nx : f.lands = true → f.next ≠ [] → laT f.next ≤ f.nland
def apR (su : Su) (f g : Fl) : Prop := ∀ t ∈ landL f, ∀ u ∈ landL g, ¬ (t - u < gapI su.gv g.wake f.wake ∧ u - t < gapI su.gv f.wake g.wake)
theorem apR_symm {su : Su} {f g : Fl} (h : apR su f g) : apR su g f := fun t ht u hu hc => h u hu t ht ⟨hc.2, hc.1⟩
theorem lands_no {f : Fl} (h : f.lands = false) : landL f = [] := if_pos h
theorem lands_two {f : Fl} (h : f.lands = true) (hn : f.next ≠ []) : landL f = [f.land, f.nland] := by
  have : 0 < f.next.length := List.length_pos_iff.2 hn
  unfold landL; rw [if_neg (by rw [h]; simp), if_pos (by omega)]
theorem lands_one {f : Fl} (h : f.lands = true) (hn : f.next = []) : landL f = [f.land] := by
  unfold landL; rw [if_neg (by rw [h]; simp), hn, if_neg (by simp)]
theorem land_mem {f : Fl} (h : f.lands = true) : f.land ∈ landL f := by
  by_cases hn : f.next = []
  · rw [lands_one h hn]; simp
  · rw [lands_two h hn]; simp
theorem free_all {su : Su} {fl : List Fl} {f g : Fl} {t : Int} (h : fryB su fl f t = true) (hg : g ∈ fl) (hc : g.call ≠ f.call) : ∀ u ∈ landL g, ¬ (t - u < gapI su.gv g.wake f.wake ∧ u - t < gapI su.gv f.wake g.wake) := by
  intro u hu ⟨h1, h2⟩
  unfold fryB at h
  have h3 : (fl.any fun g => (landL g).any (freeP su f t g)) = false := by simpa using h
  have h4 := List.any_eq_false.1 h3 g hg
  have h5 : (landL g).any (freeP su f t g) = false := by simpa using h4
  have h6 := List.any_eq_false.1 h5 u hu
  apply h6
  unfold freeP
  have h7 : (g.call.toList == f.call.toList) = false := by
    cases e : seq g.call f.call with
    | false => exact e
    | true => exact absurd ((seq_iff _ _).1 e) hc
  rw [h7]; simp [h1, h2]
theorem new_LdF {su : Su} {fl : List Fl} {ow : List OE} {x : CI} (k : FileOk su fl ow x) : LdF (newL su fl x) := by
  have hl : lastL (newL su fl x) = x.tube := rfl
  refine ⟨fun h => ⟨if_pos h, rfl⟩, fun h => ?_, fun _ h => absurd rfl h⟩
  have := land_good (f := newF x) h k.land
  have hr := k.rng
  unfold rngX at hr
  rw [hl]
  exact ⟨this.1, this.2.1, by show (0 : Int) ≤ x.slot; omega⟩
theorem clr_LdF {su : Su} {fl : List Fl} {x : CI} {b : ByteArray} (k : ClrOk su fl (atF fl x.call) x b) (h : LdF (atF fl x.call)) : LdF (clrL su fl x) := by
  refine ⟨fun e => ⟨(h.zero e).1, if_pos e⟩, fun e => ?_, fun e _ => (land_good e k.land).1⟩
  exact ⟨(h.end_ e).1, (h.end_ e).2.1, (land_good e k.land).2.1⟩
theorem red_LdF {f : Fl} {x : CI} (o : FlOk f) (hn : f.next ≠ []) (h : LdF f) : LdF (redL f x) := by
  unfold redL
  split
  · refine ⟨fun e => ⟨(h.zero e).2, rfl⟩, fun e => ?_, fun _ e => absurd rfl e⟩
    have hl : lastL ⟨f.call, f.wake, f.slot, f.lands, f.legs ++ [f.next], [], f.nland, 0⟩ = f.next := by
      unfold lastL
      simp only [List.length_append, List.length_cons, List.length_nil, Nat.zero_add, Nat.add_sub_cancel]
      exact getD_end
    rw [hl]
    have := o.slot
    exact ⟨h.nx e hn, (h.end_ e).2.2, by show (0 : Int) ≤ f.slot; omega⟩
  · have := o.slot
    exact ⟨fun e => ⟨(h.zero e).1, rfl⟩, fun e => ⟨(h.end_ e).1, (h.end_ e).2.1, by show (0 : Int) ≤ f.slot; omega⟩, fun _ e => absurd rfl e⟩
theorem new_apR {su : Su} {fl : List Fl} {ow : List OE} {x : CI} (k : FileOk su fl ow x) {g : Fl} (hg : g ∈ fl) (hc : g.call ≠ x.call) : apR su (newL su fl x) g := by
  intro t ht
  cases hl : x.lands with
  | false => rw [lands_no (show (newL su fl x).lands = false from hl)] at ht; cases ht
  | true =>
    rw [lands_one (show (newL su fl x).lands = true from hl) rfl] at ht
    simp only [List.mem_singleton] at ht
    subst ht
    exact free_all (land_good (f := newF x) hl k.land).2.2 hg hc
theorem clr_apR {su : Su} {fl : List Fl} {x : CI} {b : ByteArray} (k : ClrOk su fl (atF fl x.call) x b) (hcc : (atF fl x.call).call = x.call) {g : Fl} (hg : g ∈ fl) (hc : g.call ≠ x.call) (h : apR su (atF fl x.call) g) : apR su (clrL su fl x) g := by
  intro t ht
  cases hl : (atF fl x.call).lands with
  | false => rw [lands_no (show (clrL su fl x).lands = false from hl)] at ht; cases ht
  | true =>
    rw [lands_two (show (clrL su fl x).lands = true from hl) k.ok.ne] at ht
    rcases List.mem_cons.1 ht with rfl | ht
    · exact h _ (land_mem hl)
    · simp only [List.mem_singleton] at ht
      subst ht
      exact free_all (land_good hl k.land).2.2 hg (by show g.call ≠ (atF fl x.call).call; rw [hcc]; exact hc)
theorem red_shape (f : Fl) (x : CI) : (redL f x).lands = f.lands ∧ (redL f x).next = [] ∧ ((redL f x).land = f.nland ∨ (redL f x).land = f.land) := by unfold redL; split <;> simp
theorem red_land {f : Fl} {x : CI} (hn : f.next ≠ []) : ∀ t ∈ landL (redL f x), t ∈ landL f := by
  intro t ht
  obtain ⟨r1, r2, r3⟩ := red_shape f x
  cases hl : f.lands with
  | false => rw [lands_no (r1.trans hl)] at ht; cases ht
  | true =>
    rw [lands_two hl hn]
    rw [lands_one (r1.trans hl) r2] at ht
    simp only [List.mem_singleton] at ht
    rcases r3 with r3 | r3 <;> simp [ht, r3]
theorem red_wake (f : Fl) (x : CI) : (redL f x).wake = f.wake := by unfold redL; split <;> rfl
theorem red_apR {su : Su} {f g : Fl} {x : CI} (hn : f.next ≠ []) (h : apR su f g) : apR su (redL f x) g := by
  intro t ht u hu
  rw [red_wake]
  exact h t (red_land hn t ht) u hu
structure LdOk (su : Su) (s : Stt) : Prop where
  one : ∀ f ∈ s.fl, LdF f
  two : s.fl.Pairwise (apR su)
theorem LdOk.step {su : Su} {s : Stt} {x : CI} (o : StOk su s) (h : LdOk su s) : LdOk su (stepS su s x) := by
  by_cases he : stepE su s x = 0
  · rw [stepS_yes o he]
    have h2 := (stepE_zero he).2
    refine ⟨op_all o.fw h2 h.one new_LdF (fun b k _ hf => clr_LdF k hf) (fun f of hn hf => red_LdF of hn hf), op_pair apR_symm o.fw h2 h.two (fun k g hg hc => new_apR k hg hc) (fun b k of hcc g hg hc hr => clr_apR k hcc hg hc hr) (fun f _ hn g hr => red_apR hn hr)⟩
  · rw [stepS_no he]; exact h
theorem LdOk.zero (su : Su) : LdOk su Stt.zero := ⟨fun f h => (by cases h), List.Pairwise.nil⟩
def JoinOk (a b : List Nd) : Prop := CutE a (hdT b) (hdT b) = 0 ∧ InE (CutV a (hdT b) (hdT b)) b = 0 ∧ InB (CutV a (hdT b) (hdT b)) b = true
structure JoF (f : Fl) : Prop where
  legs : ∀ k, k + 1 < f.legs.length → JoinOk (f.legs.getD k []) (f.legs.getD (k + 1) [])
  nx : f.next ≠ [] → JoinOk (lastL f) f.next
end Go.Proofs.YtaegeaajhbfkgaaGreatDoorA

