/- Radio contact, on plain lists. -/
import Derived.Test.YtaegecnjimbfbaaAbs19
import Derived.Test.YtaegecnjimbfbaaAbs32
import Derived.Test.YtaegecnjimbfbaaAbs9
namespace Go.Proofs.YtaegecnjimbfbaaA
open Go
set_option linter.unusedVariables false

structure Ct where
  call : ByteArray
  f : Int
  t : Int
def Ct.enc (x : Ct) : List D := [.str x.call, .int .i64 x.f, .int .i64 x.t]
def stC (b : Nat) (l : List Ct) (id : Nat) (hs : Hp) : Hp := (b, .cells [.vs id 0 l.length 3]) :: (id, .lst 3 (l.map Ct.enc)) :: hs

def okB (k : Nat) (c : UInt8) : Bool := (decide (65 ≤ c.toNat) && decide (c.toNat ≤ 90)) || (decide (0 < k) && decide (48 ≤ c.toNat) && decide (c.toNat ≤ 57))
def byteAt (s : ByteArray) (k : Nat) : UInt8 := s.data.toList.getD k 0
def namedS (s : ByteArray) : Bool := ((List.range s.size).all fun k => okB k (byteAt s k)) && (!seq s ⟨#[]⟩ && decide ((s.size : Int) ≤ 8))
theorem okB_iff (k : Nat) (c : UInt8) : okB k c = true ↔ (65 ≤ c.toNat ∧ c.toNat ≤ 90) ∨ (0 < k ∧ 48 ≤ c.toNat ∧ c.toNat ≤ 57) := by
  unfold okB; simp only [Bool.or_eq_true, Bool.and_eq_true, decide_eq_true_eq]; omega
theorem named_bad {s : ByteArray} {k : Nat} (hk : k < s.size) (h : okB k (byteAt s k) = false) : namedS s = false := by
  unfold namedS
  have : ((List.range s.size).all fun k => okB k (byteAt s k)) = false := List.all_eq_false.2 ⟨k, by simpa using hk, by simp [h]⟩
  rw [this]; rfl
theorem named_ok {s : ByteArray} (h : ∀ k, k < s.size → okB k (byteAt s k) = true) : namedS s = (!seq s ⟨#[]⟩ && decide ((s.size : Int) ≤ 8)) := by
  unfold namedS
  have : ((List.range s.size).all fun k => okB k (byteAt s k)) = true := List.all_eq_true.2 fun k hk => h k (by simpa using hk)
  rw [this]; rfl


def cC (c : ByteArray) (x : Ct) : Int := cmpB x.call c
def validF (f : Int) : Bool := decide (118000 ≤ f) && (decide (f ≤ 136975) && decide (f % 25 = 0))
def atK (l : List Ct) (c : ByteArray) : Nat := bsK (cC c) l
def isF (l : List Ct) (c : ByteArray) : Bool := bsF (cC c) l
def timeK (l : List Ct) (k : Nat) : Int := match l[k]? with | some x => x.t | none => 0
def tuneE (l : List Ct) (c : ByteArray) (f t : Int) : Int :=
  if namedS c = false then 6 else if validF f = false ∨ t < 0 ∨ 200000 < t then 4 else if isF l c = false ∧ l.length = 24 then 9 else if isF l c = true ∧ t < timeK l (atK l c) then 12 else 0
def tuneL (l : List Ct) (c : ByteArray) (f t : Int) : List Ct :=
  if tuneE l c f t ≠ 0 then l else if isF l c = true then l.set (atK l c) ⟨c, f, t⟩ else l.take (atK l c) ++ ⟨c, f, t⟩ :: l.drop (atK l c)
def ltC (x y : Ct) : Prop := cmpB x.call y.call < 0
structure okC (l : List Ct) : Prop where
  srt : l.Pairwise ltC
  val : ∀ x ∈ l, validF x.f = true ∧ 0 ≤ x.t ∧ x.t ≤ 200000
theorem okC.mono {l : List Ct} (h : okC l) (c : ByteArray) : ∀ (i j : Nat) (x y : Ct), i ≤ j → l[i]? = some x → l[j]? = some y → cC c y < 0 → cC c x < 0 := by
  intro i j x y hij hx hy hc
  rcases Nat.lt_or_ge i j with h1 | h1
  · obtain ⟨hi, rfl⟩ := List.getElem?_eq_some_iff.1 hx
    obtain ⟨hj, rfl⟩ := List.getElem?_eq_some_iff.1 hy
    exact cmpB_trans (List.pairwise_iff_getElem.1 h.srt i j hi hj h1) hc
  · obtain rfl : i = j := by omega
    rw [hx] at hy; obtain rfl := Option.some.inj hy; exact hc
theorem isF_at {l : List Ct} {c : ByteArray} (h : isF l c = true) : ∃ x, l[atK l c]? = some x ∧ x.call = c := by
  unfold isF bsF at h
  unfold atK
  split at h
  · rename_i x hx
    exact ⟨x, hx, (cmpB_zero _ _).1 (of_decide_eq_true h)⟩
  · cases h
theorem notF_at {l : List Ct} {c : ByteArray} (h : isF l c = false) {x : Ct} (hx : l[atK l c]? = some x) : 0 < cmpB x.call c := by
  have h1 := bsK_at (c := cC c) hx
  unfold isF bsF at h
  unfold atK at hx
  rw [hx] at h
  have h2 : ¬ cmpB x.call c = 0 := of_decide_eq_false h
  have h3 : ¬ cmpB x.call c < 0 := h1
  omega
theorem bef_at {l : List Ct} {c : ByteArray} {x : Ct} {i : Nat} (hi : i < atK l c) (hx : l[i]? = some x) : cmpB x.call c < 0 := bsK_lt (c := cC c) hi hx
theorem atK_le (l : List Ct) (c : ByteArray) : atK l c ≤ l.length := bsK_le _ _
theorem tuneL_mem {l : List Ct} {c : ByteArray} {f t : Int} {x : Ct} (h : x ∈ tuneL l c f t) : x ∈ l ∨ x = ⟨c, f, t⟩ ∧ tuneE l c f t = 0 := by
  unfold tuneL at h
  split at h
  · exact .inl h
  · rename_i h0
    split at h
    · rcases List.mem_or_eq_of_mem_set h with h | h
      · exact .inl h
      · exact .inr ⟨h, by simpa using h0⟩
    · rcases List.mem_append.1 h with h | h
      · exact .inl (List.mem_of_mem_take h)
      · rcases List.mem_cons.1 h with h | h
        · exact .inr ⟨h, by simpa using h0⟩
        · exact .inl (List.mem_of_mem_drop h)
theorem tuneE_zero {l : List Ct} {c : ByteArray} {f t : Int} (h : tuneE l c f t = 0) : validF f = true ∧ 0 ≤ t ∧ t ≤ 200000 := by
  unfold tuneE at h
  split at h
  · omega
  · split at h
    · omega
    · rename_i _ h1
      have h2 : ¬ validF f = false := fun h3 => h1 (.inl h3)
      exact ⟨by simpa using h2, by omega, by omega⟩
theorem tuneL_ok {l : List Ct} {c : ByteArray} {f t : Int} (h : okC l) : okC (tuneL l c f t) := by
  refine ⟨?_, fun x hx => ?_⟩
  · unfold tuneL
    split
    · exact h.srt
    · split
      · rename_i h1
        obtain ⟨y, hy, rfl⟩ := isF_at h1
        rw [List.pairwise_iff_getElem]
        intro i j hi hj hij
        have hsrt := List.pairwise_iff_getElem.1 h.srt i j (by simpa using hi) (by simpa using hj) hij
        obtain ⟨hk, he⟩ := List.getElem?_eq_some_iff.1 hy
        unfold ltC at hsrt ⊢
        rw [List.getElem_set, List.getElem_set]
        have he2 : ∀ (i : Nat) (hi : i < l.length), atK l y.call = i → l[i].call = y.call := fun i hi h => by subst h; rw [he]
        split
        · rename_i h2
          split
          · omega
          · rw [he2 i (by simpa using hi) h2] at hsrt; exact hsrt
        · split
          · rename_i h2
            rw [he2 j (by simpa using hj) h2] at hsrt; exact hsrt
          · exact hsrt
      · rename_i h1
        have h1 : isF l c = false := by simpa using h1
        have hs2 := h.srt
        rw [← List.take_append_drop (atK l c) l, List.pairwise_append] at hs2
        obtain ⟨p1, p2, p3⟩ := hs2
        refine List.pairwise_append.2 ⟨p1, List.pairwise_cons.2 ⟨fun y hy => ?_, p2⟩, fun x hx y hy => ?_⟩
        · obtain ⟨n, hn⟩ := List.getElem?_of_mem hy
          rw [List.getElem?_drop] at hn
          obtain ⟨z, hz⟩ : ∃ z, l[atK l c]? = some z := ⟨_, List.getElem?_eq_getElem (by have := (List.getElem?_eq_some_iff.1 hn).1; omega)⟩
          have hz1 := notF_at h1 hz
          show cmpB c y.call < 0
          have hz2 : cmpB c z.call < 0 := by rw [cmpB_anti]; omega
          rcases Nat.eq_zero_or_pos n with h0 | h0
          · subst h0
            rw [Nat.add_zero, hz] at hn; obtain rfl := Option.some.inj hn; exact hz2
          · obtain ⟨hi, rfl⟩ := List.getElem?_eq_some_iff.1 hz
            obtain ⟨hj, rfl⟩ := List.getElem?_eq_some_iff.1 hn
            exact cmpB_trans hz2 (List.pairwise_iff_getElem.1 h.srt _ _ hi hj (by omega))
        · rcases List.mem_cons.1 hy with rfl | hy
          · obtain ⟨n, hn⟩ := List.getElem?_of_mem hx
            rw [List.getElem?_take] at hn
            split at hn
            · rename_i h2; exact bef_at h2 hn
            · cases hn
          · exact p3 x hx y hy
  · rcases tuneL_mem hx with hx | ⟨rfl, h1⟩
    · exact h.val x hx
    · exact tuneE_zero h1
theorem tuneL_len (l : List Ct) (c : ByteArray) (f t : Int) : (tuneL l c f t).length ≤ l.length + 1 := by
  unfold tuneL
  have := atK_le l c
  split
  · omega
  · split
    · simp
    · simp; omega
theorem tuneL_in {l : List Ct} {c : ByteArray} {f t : Int} (h : tuneE l c f t = 0) : (⟨c, f, t⟩ : Ct) ∈ tuneL l c f t := by
  unfold tuneL
  rw [if_neg (by simp [h])]
  split
  · rename_i h1
    obtain ⟨x, hx, _⟩ := isF_at h1
    exact List.mem_iff_getElem?.2 ⟨atK l c, List.getElem?_set_self (List.getElem?_eq_some_iff.1 hx).1⟩
  · simp
/-- The list after the first k calls. -/
def tuneK (l : List Ct) : Nat → List Ct
  | 0 => []
  | k + 1 => match l[k]? with | some x => tuneL (tuneK l k) x.call x.f x.t | none => tuneK l k
theorem tuneK_ok (l : List Ct) : ∀ k, okC (tuneK l k) ∧ (tuneK l k).length ≤ k
  | 0 => ⟨⟨List.Pairwise.nil, by simp [tuneK]⟩, by simp [tuneK]⟩
  | k + 1 => by
    have ih := tuneK_ok l k
    rw [tuneK]
    split
    · exact ⟨tuneL_ok ih.1, Nat.le_trans (tuneL_len _ _ _ _) (by omega)⟩
    · exact ⟨ih.1, by omega⟩
theorem tuneK_succ {l : List Ct} {k : Nat} {x : Ct} (h : l[k]? = some x) : tuneK l (k + 1) = tuneL (tuneK l k) x.call x.f x.t := by rw [tuneK, h]

/-- On: the flights on a frequency. -/
def onS (l : List Ct) (f : Int) : List ByteArray := (l.filter fun x => decide (x.f = f)).map Ct.call
theorem onS_srt {l : List Ct} (h : okC l) (f : Int) : (onS l f).Pairwise fun a b => cmpB a b < 0 := by
  unfold onS
  rw [List.pairwise_map]
  exact (h.srt.sublist List.filter_sublist)
theorem onS_len (l : List Ct) (f : Int) : (onS l f).length ≤ l.length := by unfold onS; rw [List.length_map]; exact List.length_filter_le _ _
theorem onS_take {l : List Ct} {k : Nat} {x : Ct} {f : Int} (h : l[k]? = some x) : onS (l.take (k + 1)) f = if x.f = f then onS (l.take k) f ++ [x.call] else onS (l.take k) f := by
  unfold onS
  rw [List.take_add_one, h, Option.toList_some, List.filter_append, List.map_append]
  split
  · rename_i h1; simp [h1]
  · rename_i h1; simp [h1]
theorem onS_mem {l : List Ct} {x : Ct} (h : x ∈ l) : x.call ∈ onS l x.f := List.mem_map.2 ⟨x, List.mem_filter.2 ⟨h, by simp⟩, rfl⟩

/-! ### every flight is on one frequency -/
def firstIn (l : List Ct) (k : Nat) (f : Int) : Bool := (l.take k).all fun y => decide (y.f ≠ f)
def manyK (l : List Ct) : Nat → Nat
  | 0 => 0
  | k + 1 => match l[k]? with | some x => if firstIn l k x.f = true then manyK l k + (onS l x.f).length else manyK l k | none => manyK l k
theorem firstIn_iff (l : List Ct) (k : Nat) (f : Int) : firstIn l k f = true ↔ ∀ y ∈ l.take k, y.f ≠ f := by
  unfold firstIn; simp [List.all_eq_true]
/-- how many of l have a frequency that is among the first k -/
def cov (l : List Ct) (k : Nat) : Nat := l.countP fun y => (l.take k).any fun z => decide (z.f = y.f)
theorem countP_or {α : Type} (p q : α → Bool) (hd : ∀ y, p y = true → q y = true → False) : ∀ m : List α, m.countP (fun y => p y || q y) = m.countP p + m.countP q
  | [] => rfl
  | y :: m => by
    rw [List.countP_cons, List.countP_cons, List.countP_cons, countP_or p q hd m]
    cases hp : p y <;> cases hq : q y
    · simp
    · simp; omega
    · simp; omega
    · exact absurd (hd y hp hq) id
theorem cov_succ {l : List Ct} {k : Nat} {x : Ct} (h : l[k]? = some x) : cov l (k + 1) = if firstIn l k x.f = true then cov l k + (onS l x.f).length else cov l k := by
  have e : ∀ y : Ct, ((l.take (k + 1)).any fun z => decide (z.f = y.f)) = (((l.take k).any fun z => decide (z.f = y.f)) || decide (x.f = y.f)) := fun y => by
    rw [List.take_add_one, h, Option.toList_some, List.any_append]; simp
  unfold cov
  simp only [e]
  split
  · rename_i h1
    rw [firstIn_iff] at h1
    have hon : (onS l x.f).length = l.countP fun y => decide (x.f = y.f) := by
      unfold onS; rw [List.length_map, List.countP_eq_length_filter]
      congr 1
      exact List.filter_congr fun y _ => decide_eq_decide.2 ⟨Eq.symm, Eq.symm⟩
    rw [hon]
    refine countP_or _ _ (fun y h2 h3 => ?_) l

    obtain ⟨z, hz, h4⟩ := List.any_eq_true.1 h2
    exact h1 z hz (by rw [of_decide_eq_true h3]; simpa using h4)
  · rename_i h1
    have h1 : ¬ ∀ y ∈ l.take k, y.f ≠ x.f := fun h2 => h1 ((firstIn_iff _ _ _).2 h2)
    refine List.countP_congr fun y _ => ?_
    simp only [Bool.or_eq_true, decide_eq_true_eq]
    refine ⟨fun h => ?_, .inl⟩
    rcases h with h | h
    · exact h
    · refine Classical.byContradiction fun h3 => h1 fun z hz h4 => h3 (List.any_eq_true.2 ⟨z, hz, by simp [h4, h]⟩)
theorem manyK_cov (l : List Ct) : ∀ k, k ≤ l.length → manyK l k = cov l k
  | 0, _ => by unfold cov manyK; simp
  | k + 1, h => by
    obtain ⟨x, hx⟩ : ∃ x, l[k]? = some x := ⟨_, List.getElem?_eq_getElem (by omega)⟩
    rw [cov_succ hx, manyK, hx, ← manyK_cov l k (by omega)]
theorem manyK_all (l : List Ct) : manyK l l.length = l.length := by
  rw [manyK_cov l _ (Nat.le_refl _)]
  unfold cov
  rw [List.countP_eq_length]
  intro y hy
  rw [List.take_length]
  exact List.any_eq_true.2 ⟨y, hy, by simp⟩
theorem manyK_le (l : List Ct) : ∀ k, manyK l k ≤ k * l.length
  | 0 => by simp [manyK]
  | k + 1 => by
    have ih := manyK_le l k
    rw [manyK, Nat.succ_mul]
    split
    · rename_i x _
      have := onS_len l x.f
      split <;> omega
    · omega
end Go.Proofs.YtaegecnjimbfbaaA
