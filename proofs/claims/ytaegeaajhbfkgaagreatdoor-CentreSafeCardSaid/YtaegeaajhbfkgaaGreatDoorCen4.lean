/- Names; lists that are sorted by a key; who is responsible. -/
import Derived.Test.YtaegeaajhbfkgaaGreatDoorFrC
import Derived.Test.YtaegeaajhbfkgaaGreatDoorStr2
namespace Go.Proofs.YtaegeaajhbfkgaaGreatDoorA
open Go
set_option linter.unusedVariables false
set_option linter.unusedSimpArgs false
set_option linter.unnecessarySimpa false
def okB (k : Nat) (c : UInt8) : Bool := (decide (65 ≤ c.toNat) && decide (c.toNat ≤ 90)) || (decide (0 < k) && decide (48 ≤ c.toNat) && decide (c.toNat ≤ 57))
def byteAt (s : ByteArray) (k : Nat) : UInt8 := s.data.toList.getD k 0
def nameS (s : ByteArray) : Bool := ((List.range s.size).all fun k => okB k (byteAt s k)) && (!decide (s.size = 0) && decide (s.size ≤ 8))
theorem okB_iff (k : Nat) (c : UInt8) : okB k c = true ↔ (65 ≤ c.toNat ∧ c.toNat ≤ 90) ∨ (0 < k ∧ 48 ≤ c.toNat ∧ c.toNat ≤ 57) := by
  unfold okB; simp only [Bool.or_eq_true, Bool.and_eq_true, decide_eq_true_eq]; omega
theorem name_bad {s : ByteArray} {k : Nat} (hk : k < s.size) (h : okB k (byteAt s k) = false) : nameS s = false := by
  unfold nameS
  have : ((List.range s.size).all fun k => okB k (byteAt s k)) = false := List.all_eq_false.2 ⟨k, by simpa using hk, by simp [h]⟩
  rw [this]; rfl
theorem name_no {s : ByteArray} (h : s.size = 0 ∨ 8 < s.size) : nameS s = false := by
  unfold nameS
  rcases h with h | h
  · rw [decide_eq_true h]; simp
  · rw [decide_eq_false (show ¬ s.size ≤ 8 by omega)]; simp
theorem name_ok {s : ByteArray} (h0 : s.size ≠ 0) (h1 : s.size ≤ 8) (h : ∀ k, k < s.size → okB k (byteAt s k) = true) : nameS s = true := by
  unfold nameS
  have : ((List.range s.size).all fun k => okB k (byteAt s k)) = true := List.all_eq_true.2 fun k hk => h k (by simpa using hk)
  rw [this, decide_eq_false h0, decide_eq_true h1]; rfl
theorem name_size {s : ByteArray} (h : nameS s = true) : s.size ≠ 0 ∧ s.size ≤ 8 := by
  unfold nameS at h
  simp only [Bool.and_eq_true, decide_eq_true_eq, Bool.not_eq_true', decide_eq_false_iff_not] at h
  exact h.2
def emB : ByteArray := ⟨#[]⟩
theorem name_em : nameS emB = false := name_no (.inl rfl)
section
variable {α : Type} (key : α → ByteArray)
def SrtK (l : List α) : Prop := l.Pairwise fun x y => cmpB (key x) (key y) < 0
def posK (l : List α) (c : ByteArray) : Nat := bsK (fun x => cmpB (key x) c) l
def hasK (l : List α) (c : ByteArray) : Bool := bsF (fun x => cmpB (key x) c) l
variable {key}
theorem SrtK.mono {l : List α} (h : SrtK key l) (c : ByteArray) : ∀ (i j : Nat) (x y : α), i ≤ j → l[i]? = some x → l[j]? = some y → cmpB (key y) c < 0 → cmpB (key x) c < 0 := by
  intro i j x y hij hx hy hc
  rcases Nat.lt_or_ge i j with h1 | h1
  · obtain ⟨hi, rfl⟩ := List.getElem?_eq_some_iff.1 hx
    obtain ⟨hj, rfl⟩ := List.getElem?_eq_some_iff.1 hy
    exact cmpB_trans (List.pairwise_iff_getElem.1 h i j hi hj h1) hc
  · obtain rfl : i = j := by omega
    rw [hx] at hy; obtain rfl := Option.some.inj hy; exact hc
theorem has_at {l : List α} {c : ByteArray} (h : hasK key l c = true) : ∃ x, l[posK key l c]? = some x ∧ key x = c := by
  unfold hasK bsF at h
  unfold posK
  split at h
  · rename_i x hx
    exact ⟨x, hx, (cmpB_zero _ _).1 (of_decide_eq_true h)⟩
  · cases h
theorem nhas_at {l : List α} {c : ByteArray} (h : hasK key l c = false) {x : α} (hx : l[posK key l c]? = some x) : 0 < cmpB (key x) c := by
  have h1 := bsK_at (c := fun x => cmpB (key x) c) hx
  unfold hasK bsF at h
  unfold posK at hx
  rw [hx] at h
  have h2 : ¬ cmpB (key x) c = 0 := of_decide_eq_false h
  have h3 : ¬ cmpB (key x) c < 0 := h1
  omega
theorem bef_at {l : List α} {c : ByteArray} {x : α} {i : Nat} (hi : i < posK key l c) (hx : l[i]? = some x) : cmpB (key x) c < 0 := bsK_lt (c := fun x => cmpB (key x) c) hi hx
theorem pos_le (l : List α) (c : ByteArray) : posK key l c ≤ l.length := bsK_le _ _
theorem pos_lt {l : List α} {c : ByteArray} (h : hasK key l c = true) : posK key l c < l.length := by
  obtain ⟨x, hx, _⟩ := has_at h
  exact (List.getElem?_eq_some_iff.1 hx).1
theorem SrtK.inj {l : List α} (h : SrtK key l) {i j : Nat} {x y : α} (hx : l[i]? = some x) (hy : l[j]? = some y) (he : key x = key y) : i = j := by
  obtain ⟨hi, rfl⟩ := List.getElem?_eq_some_iff.1 hx
  obtain ⟨hj, rfl⟩ := List.getElem?_eq_some_iff.1 hy
  have p := List.pairwise_iff_getElem.1 h
  rcases Nat.lt_trichotomy i j with h1 | h1 | h1
  · have := p i j hi hj h1; rw [he, cmpB_self] at this; omega
  · exact h1
  · have := p j i hj hi h1; rw [he, cmpB_self] at this; omega
theorem SrtK.has {l : List α} (h : SrtK key l) {x : α} (hx : x ∈ l) : hasK key l (key x) = true ∧ l[posK key l (key x)]? = some x := by
  obtain ⟨i, hi⟩ := List.getElem?_of_mem hx
  have hil := (List.getElem?_eq_some_iff.1 hi).1
  have h1 : ¬ i < posK key l (key x) := fun h1 => by have := bef_at h1 hi; rw [cmpB_self] at this; omega
  have h2 : ¬ posK key l (key x) < i := fun h2 => by
    have hp : posK key l (key x) < l.length := by omega
    have hg := List.getElem?_eq_getElem hp
    have h3 : ¬ cmpB (key (l[posK key l (key x)])) (key x) < 0 := bsK_at (c := fun y => cmpB (key y) (key x)) hg
    obtain ⟨hi', e⟩ := List.getElem?_eq_some_iff.1 hi
    have h4 := List.pairwise_iff_getElem.1 h _ i hp hi' h2
    rw [e] at h4
    exact h3 h4
  have he : posK key l (key x) = i := by omega
  refine ⟨?_, by rw [he]; exact hi⟩
  unfold hasK bsF
  unfold posK at he
  rw [he, hi]
  exact decide_eq_true (cmpB_self _)
theorem SrtK.has_iff {l : List α} (h : SrtK key l) (c : ByteArray) : hasK key l c = true ↔ c ∈ l.map key := by
  constructor
  · intro hh
    obtain ⟨x, hx, rfl⟩ := has_at hh
    exact List.mem_map_of_mem (List.mem_of_getElem? hx)
  · intro hh
    obtain ⟨x, hx, rfl⟩ := List.mem_map.1 hh
    exact (h.has hx).1
def insX (l : List α) (k : Nat) (x : α) : List α := l.take k ++ x :: l.drop k
def delX (l : List α) (k : Nat) : List α := l.take k ++ l.drop (k + 1)
theorem take_mem {l : List α} {k : Nat} {x : α} (h : x ∈ l.take k) : ∃ i, i < k ∧ l[i]? = some x := by
  obtain ⟨i, hi⟩ := List.getElem?_of_mem h
  have hl := (List.getElem?_eq_some_iff.1 hi).1
  rw [List.length_take] at hl
  rw [List.getElem?_take_of_lt (by omega)] at hi
  exact ⟨i, by omega, hi⟩
theorem drop_mem {l : List α} {k : Nat} {x : α} (h : x ∈ l.drop k) : ∃ i, k ≤ i ∧ l[i]? = some x := by
  obtain ⟨i, hi⟩ := List.getElem?_of_mem h
  rw [List.getElem?_drop] at hi
  exact ⟨k + i, by omega, hi⟩
theorem SrtK.ins {l : List α} (h : SrtK key l) {c : ByteArray} {x : α} (hx : key x = c) (hn : hasK key l c = false) : SrtK key (insX l (posK key l c) x) := by
  have h1 : ∀ y ∈ l.take (posK key l c), cmpB (key y) (key x) < 0 := fun y hy => by
    obtain ⟨i, hi, hy⟩ := take_mem hy
    rw [hx]; exact bef_at hi hy
  have h2 : ∀ y ∈ l.drop (posK key l c), cmpB (key x) (key y) < 0 := fun y hy => by
    obtain ⟨i, hi, hy⟩ := drop_mem hy
    have hil := (List.getElem?_eq_some_iff.1 hy).1
    have hp : posK key l c < l.length := by omega
    have h3 := nhas_at hn (List.getElem?_eq_getElem hp)
    have h3' : cmpB (key x) (key (l[posK key l c])) < 0 := by rw [hx, cmpB_anti]; omega
    rcases Nat.lt_or_ge (posK key l c) i with h4 | h4
    · obtain ⟨hi', rfl⟩ := List.getElem?_eq_some_iff.1 hy
      exact cmpB_trans h3' (List.pairwise_iff_getElem.1 h _ i hp hi' h4)
    · obtain rfl : i = posK key l c := by omega
      rw [List.getElem?_eq_getElem hp] at hy
      obtain rfl := Option.some.inj hy; exact h3'
  unfold SrtK insX
  rw [List.pairwise_append]
  refine ⟨h.sublist (List.take_sublist _ _), List.pairwise_cons.2 ⟨h2, h.sublist (List.drop_sublist _ _)⟩, fun a ha b hb => ?_⟩
  rcases List.mem_cons.1 hb with rfl | hb
  · exact h1 a ha
  · exact cmpB_trans (h1 a ha) (h2 b hb)
theorem SrtK.del {l : List α} (h : SrtK key l) (k : Nat) : SrtK key (delX l k) := by
  unfold SrtK delX
  refine h.sublist ?_
  calc l.take k ++ l.drop (k + 1) |>.Sublist (l.take k ++ l.drop k) := List.Sublist.append (List.Sublist.refl _) (by
        rw [← List.drop_drop]; exact List.drop_sublist _ _)
    _ = l := List.take_append_drop k l
theorem SrtK.set {l : List α} (h : SrtK key l) {k : Nat} {x y : α} (hx : l[k]? = some x) (he : key y = key x) : SrtK key (l.set k y) := by
  unfold SrtK at h ⊢
  rw [List.pairwise_iff_getElem] at h ⊢
  obtain ⟨hk, rfl⟩ := List.getElem?_eq_some_iff.1 hx
  intro i j hi hj hij
  simp only [List.length_set] at hi hj
  have key' : ∀ q (hq : q < l.length), key ((l.set k y)[q]'(by simpa using hq)) = key l[q] := fun q hq => by
    rw [List.getElem_set]
    split
    · rename_i e; subst e; exact he
    · rfl
  rw [key' i hi, key' j hj]
  exact h i j hi hj hij
theorem mem_ins {l : List α} {k : Nat} {x y : α} : y ∈ insX l k x ↔ y = x ∨ y ∈ l := by
  unfold insX
  rw [List.mem_append, List.mem_cons]
  constructor
  · rintro (h | h | h)
    · exact .inr (List.mem_of_mem_take h)
    · exact .inl h
    · exact .inr (List.mem_of_mem_drop h)
  · rintro (h | h)
    · exact .inr (.inl h)
    · rw [← List.take_append_drop k l, List.mem_append] at h
      exact h.elim .inl fun h => .inr (.inr h)
theorem mem_del {l : List α} {k : Nat} {y : α} (h : y ∈ delX l k) : y ∈ l := by
  unfold delX at h
  rcases List.mem_append.1 h with h | h
  · exact List.mem_of_mem_take h
  · exact List.mem_of_mem_drop h
theorem ins_len {l : List α} {k : Nat} (x : α) (h : k ≤ l.length) : (insX l k x).length = l.length + 1 := by unfold insX; simp; omega
theorem del_len {l : List α} {k : Nat} (h : k < l.length) : (delX l k).length = l.length - 1 := by unfold delX; simp; omega
theorem posK_map {β : Type} (l : List α) (c : ByteArray) : posK key l c = posK id (l.map key) c := by
  unfold posK bsK
  rw [List.takeWhile_map, List.length_map]; rfl
theorem hasK_map {β : Type} (l : List α) (c : ByteArray) : hasK key l c = hasK id (l.map key) c := by
  have h := posK_map (β := β) (key := key) l c
  unfold hasK bsF
  unfold posK at h
  rw [← h, List.getElem?_map]
  cases l[bsK (fun x => cmpB (key x) c) l]? <;> rfl
theorem ins_map {l : List α} {k : Nat} {x : α} : (insX l k x).map key = insX (l.map key) k (key x) := by unfold insX; simp
theorem del_map {l : List α} {k : Nat} : (delX l k).map key = delX (l.map key) k := by unfold delX; simp
end
structure OE where
  call : ByteArray
  own : ByteArray
  off : ByteArray
instance : Inhabited OE := ⟨⟨emB, emB, emB⟩⟩
def OE.zero : OE := ⟨⟨#[]⟩, ⟨#[]⟩, ⟨#[]⟩⟩
def OE.enc (x : OE) : List D := [.str x.call, .str x.own, .str x.off]
theorem OE.ext2 {x y : OE} (h1 : x.call = y.call) (h2 : x.own = y.own) (h3 : x.off = y.off) : x = y := by cases x; cases y; cases h1; cases h2; cases h3; rfl
instance : DecidableEq OE := fun x y => if h : x.call = y.call ∧ x.own = y.own ∧ x.off = y.off then .isTrue (OE.ext2 h.1 h.2.1 h.2.2) else .isFalse fun e => h (by subst e; exact ⟨rfl, rfl, rfl⟩)
structure OneO (x : OE) : Prop where
  call : nameS x.call = true
  own : nameS x.own = true
  off : x.off = emB ∨ nameS x.off = true
  ne : x.off ≠ x.own
structure OwOk (l : List OE) : Prop where
  srt : SrtK OE.call l
  one : ∀ x ∈ l, OneO x
  len : l.length ≤ 24
def posO (l : List OE) (c : ByteArray) : Nat := posK OE.call l c
def hasO (l : List OE) (c : ByteArray) : Bool := hasK OE.call l c
def atO (l : List OE) (c : ByteArray) : OE := l.getD (posO l c) OE.zero
theorem atO_get {l : List OE} {c : ByteArray} (h : hasO l c = true) : l[posO l c]? = some (atO l c) ∧ (atO l c).call = c := by
  obtain ⟨x, hx, hc⟩ := has_at (key := OE.call) h
  have : atO l c = x := by unfold atO posO; rw [List.getD_eq_getElem?_getD, hx]; rfl
  rw [this]; exact ⟨hx, hc⟩
def begE (l : List OE) (c b : ByteArray) : Int := if nameS c = false ∨ nameS b = false then 3 else if hasO l c = true then 7 else if l.length = 24 then 9 else 0
def begL (l : List OE) (c b : ByteArray) : List OE := if begE l c b ≠ 0 then [] else insX l (posO l c) ⟨c, b, emB⟩
def endE (l : List OE) (c b : ByteArray) : Int := if hasO l c = false then 8 else if (atO l c).own ≠ b then 16 else 0
def endL (l : List OE) (c b : ByteArray) : List OE := if endE l c b ≠ 0 then [] else delX l (posO l c)
def offE (l : List OE) (c b t : ByteArray) : Int :=
  if hasO l c = false then 8 else if (atO l c).own ≠ b then 16 else if (atO l c).off ≠ emB then 11 else if nameS t = false then 3 else if t = b then 1 else 0
def offL (l : List OE) (c b t : ByteArray) : List OE := if offE l c b t ≠ 0 then [] else l.set (posO l c) ⟨(atO l c).call, (atO l c).own, t⟩
def accE (l : List OE) (c b : ByteArray) : Int := if hasO l c = false then 8 else if (atO l c).off = emB then 11 else if (atO l c).off ≠ b then 16 else 0
def accL (l : List OE) (c b : ByteArray) : List OE := if accE l c b ≠ 0 then [] else l.set (posO l c) ⟨c, b, emB⟩
def ofE (l : List OE) (c : ByteArray) : Int := if hasO l c = false then 8 else 0
def ofV (l : List OE) (c : ByteArray) : ByteArray := if hasO l c = false then ⟨#[]⟩ else (atO l c).own
theorem set_map {α : Type} {key : α → ByteArray} {l : List α} {k : Nat} {x y : α} (hx : l[k]? = some x) (he : key y = key x) : (l.set k y).map key = l.map key := by
  obtain ⟨hk, rfl⟩ := List.getElem?_eq_some_iff.1 hx
  rw [List.map_set, he, ← List.getElem_map (f := key) (h := by simpa using hk), List.set_getElem_self]
theorem mem_set {α : Type} {l : List α} {k : Nat} {x y : α} (h : y ∈ l.set k x) : y = x ∨ y ∈ l := by
  rcases List.mem_or_eq_of_mem_set h with h | h
  · exact .inr h
  · exact .inl h
theorem beg_ok {l : List OE} {c b : ByteArray} (o : OwOk l) (h : begE l c b = 0) : OwOk (begL l c b) ∧ (begL l c b).map OE.call = insX (l.map OE.call) (posO l c) c ∧ hasO l c = false := by
  have hl : begL l c b = insX l (posO l c) ⟨c, b, emB⟩ := if_neg (by omega)
  unfold begE at h
  split at h
  · omega
  · rename_i h1
    split at h
    · omega
    · rename_i h2
      split at h
      · omega
      · rename_i h3
        have hh : hasO l c = false := by simpa using h2
        have n1 : nameS c = true := by cases e : nameS c with | true => rfl | false => exact absurd (.inl e) h1
        have n2 : nameS b = true := by cases e : nameS b with | true => rfl | false => exact absurd (.inr e) h1
        rw [hl]
        have := o.len
        refine ⟨⟨o.srt.ins (x := ⟨c, b, emB⟩) rfl hh, fun x hx => ?_, by rw [ins_len _ (show posO l c ≤ l.length from pos_le _ _)]; omega⟩, ins_map, hh⟩
        rcases mem_ins.1 hx with rfl | hx
        · exact ⟨n1, n2, .inl rfl, fun e => by have e2 : emB = b := e; rw [← e2, name_em] at n2; cases n2⟩
        · exact o.one x hx
theorem end_ok {l : List OE} {c b : ByteArray} (o : OwOk l) (h : endE l c b = 0) : OwOk (endL l c b) ∧ (endL l c b).map OE.call = delX (l.map OE.call) (posO l c) ∧ hasO l c = true := by
  have hl : endL l c b = delX l (posO l c) := if_neg (by omega)
  unfold endE at h
  split at h
  · omega
  · rename_i h1
    have hh : hasO l c = true := by simpa using h1
    rw [hl]
    have := o.len
    exact ⟨⟨o.srt.del _, fun x hx => o.one x (mem_del hx), by rw [del_len (show posO l c < l.length from pos_lt hh)]; omega⟩, del_map, hh⟩
theorem off_ok {l : List OE} {c b t : ByteArray} (o : OwOk l) (h : offE l c b t = 0) : OwOk (offL l c b t) ∧ (offL l c b t).map OE.call = l.map OE.call := by
  have hl : offL l c b t = l.set (posO l c) ⟨(atO l c).call, (atO l c).own, t⟩ := if_neg (by omega)
  unfold offE at h
  split at h
  · omega
  · rename_i h1
    split at h
    · omega
    · rename_i h2
      split at h
      · omega
      · split at h
        · omega
        · rename_i h4
          split at h
          · omega
          · rename_i h5
            have hh : hasO l c = true := by simpa using h1
            obtain ⟨g1, g2⟩ := atO_get hh
            have o1 := o.one _ (List.mem_of_getElem? g1)
            rw [hl]
            refine ⟨⟨o.srt.set g1 rfl, fun x hx => ?_, by rw [List.length_set]; exact o.len⟩, set_map g1 rfl⟩
            rcases mem_set hx with rfl | hx
            · exact ⟨o1.call, o1.own, .inr (by simpa using h4), fun e => h5 (e.trans (Classical.not_not.1 h2))⟩
            · exact o.one x hx
theorem acc_ok {l : List OE} {c b : ByteArray} (o : OwOk l) (h : accE l c b = 0) : OwOk (accL l c b) ∧ (accL l c b).map OE.call = l.map OE.call := by
  have hl : accL l c b = l.set (posO l c) ⟨c, b, emB⟩ := if_neg (by omega)
  unfold accE at h
  split at h
  · omega
  · rename_i h1
    split at h
    · omega
    · rename_i h2
      split at h
      · omega
      · rename_i h3
        have hh : hasO l c = true := by simpa using h1
        obtain ⟨g1, g2⟩ := atO_get hh
        have o1 := o.one _ (List.mem_of_getElem? g1)
        have e3 : (atO l c).off = b := Classical.not_not.1 h3
        have n2 : nameS b = true := by
          rcases o1.off with h | h
          · exact absurd h h2
          · rw [← e3]; exact h
        rw [hl]
        refine ⟨⟨o.srt.set g1 g2.symm, fun x hx => ?_, by rw [List.length_set]; exact o.len⟩, set_map g1 g2.symm⟩
        rcases mem_set hx with rfl | hx
        · exact ⟨by rw [← g2]; exact o1.call, n2, .inl rfl, fun e => by have e2 : emB = b := e; rw [← e2, name_em] at n2; cases n2⟩
        · exact o.one x hx
end Go.Proofs.YtaegeaajhbfkgaaGreatDoorA

