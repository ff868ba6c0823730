/- Texts as lists of bytes: splitting, cutting, hexadecimal digits. -/
import Derived.Test.YtdddebheolmldaaDoorFrD
namespace Go.Proofs.YtdddebheolmldaaDoorA
open Go
set_option linter.unusedVariables false
set_option linter.unusedSimpArgs false
set_option linter.unnecessarySimpa false

def bs (l : List UInt8) : ByteArray := ⟨l.toArray⟩
def bl (s : ByteArray) : List UInt8 := s.data.toList
theorem bs_bl (s : ByteArray) : bs (bl s) = s := rfl
theorem bl_bs (l : List UInt8) : bl (bs l) = l := rfl
theorem bl_len (s : ByteArray) : (bl s).length = s.size := by simp [bl]
theorem bs_size (l : List UInt8) : (bs l).size = l.length := by simp [bs, ByteArray.size]
theorem bl_app (a b : ByteArray) : bl (a ++ b) = bl a ++ bl b := by simp [bl]
theorem bs_app (a b : List UInt8) : bs a ++ bs b = bs (a ++ b) := by
  have := bl_app (bs a) (bs b)
  rw [bl_bs, bl_bs] at this
  rw [← bs_bl (bs a ++ bs b), this]
theorem bl_inj {a b : ByteArray} (h : bl a = bl b) : a = b := by rw [← bs_bl a, h, bs_bl]
theorem bs_inj {a b : List UInt8} (h : bs a = bs b) : a = b := by rw [← bl_bs a, h, bl_bs]
theorem bl_extract (s : ByteArray) (i j : Nat) : bl (s.extract i j) = ((bl s).take j).drop i := by
  simp [bl, ByteArray.data_extract, Array.toList_extract, List.drop_take]
theorem extract_bs (l : List UInt8) (i j : Nat) : (bs l).extract i j = bs ((l.take j).drop i) := bl_inj (by rw [bl_extract]; rfl)

theorem idx_some {l : List UInt8} {c : UInt8} : ∀ {m : Nat}, Lib.indexByte l c = (m : Int) → ∃ a b, l = a ++ c :: b ∧ a.length = m ∧ c ∉ a := by
  induction l with
  | nil => intro m h; simp only [Lib.indexByte] at h; omega
  | cons x l ih =>
    intro m h
    unfold Lib.indexByte at h
    split at h
    · rename_i hx
      obtain rfl : x = c := by simpa using hx
      exact ⟨[], l, rfl, by simp; omega, by simp⟩
    · rename_i hx
      split at h
      · omega
      · obtain ⟨n, hn⟩ : ∃ n : Nat, Lib.indexByte l c = (n : Int) := ⟨(Lib.indexByte l c).toNat, by have := Lib.indexByte_ge l c; rename_i h2; simp at h2; omega⟩
        obtain ⟨a, b, rfl, h3, h4⟩ := ih hn
        refine ⟨x :: a, b, rfl, by simp; omega, ?_⟩
        simp only [List.mem_cons, not_or]
        exact ⟨fun e => hx (by simp [e]), h4⟩
theorem idx_none {l : List UInt8} {c : UInt8} (h : Lib.indexByte l c < 0) : c ∉ l := by
  induction l with
  | nil => simp
  | cons x l ih =>
    unfold Lib.indexByte at h
    split at h
    · omega
    · rename_i hx
      split at h
      · rename_i h2
        simp only [List.mem_cons, not_or]
        exact ⟨fun e => hx (by simp [e]), ih (by simp at h2; omega)⟩
      · have := Lib.indexByte_ge l c; rename_i h2; simp at h2; omega
theorem idx_of {a b : List UInt8} {c : UInt8} (h : c ∉ a) : Lib.indexByte (a ++ c :: b) c = (a.length : Nat) := by
  induction a with
  | nil => simp [Lib.indexByte]
  | cons x a ih =>
    simp only [List.mem_cons, not_or] at h
    rw [List.cons_append, Lib.indexByte, if_neg (by simpa using fun e => h.1 e.symm), ih h.2]
    rw [if_neg (by simp only [beq_iff_eq]; omega)]
    simp
theorem idx_out {l : List UInt8} {c : UInt8} (h : c ∉ l) : Lib.indexByte l c = -1 := by
  induction l with
  | nil => rfl
  | cons x l ih =>
    simp only [List.mem_cons, not_or] at h
    rw [Lib.indexByte, if_neg (by simpa using fun e => h.1 e.symm), ih h.2]; rfl

/-- The pieces between the bytes c. -/
def spl (c : UInt8) : List UInt8 → List (List UInt8)
  | [] => [[]]
  | x :: l => if x = c then [] :: spl c l else match spl c l with | h :: t => (x :: h) :: t | [] => [[x]]
theorem spl_ne (c : UInt8) : ∀ l, spl c l ≠ []
  | [] => by simp [spl]
  | x :: l => by
    unfold spl
    split
    · simp
    · split <;> simp
theorem spl_out {c : UInt8} : ∀ {l : List UInt8}, c ∉ l → spl c l = [l]
  | [], _ => rfl
  | x :: l, h => by
    simp only [List.mem_cons, not_or] at h
    rw [spl, if_neg (fun e => h.1 e.symm), spl_out h.2]
theorem spl_in {c : UInt8} {b : List UInt8} : ∀ {a : List UInt8}, c ∉ a → spl c (a ++ c :: b) = a :: spl c b
  | [], _ => by simp [spl]
  | x :: a, h => by
    simp only [List.mem_cons, not_or] at h
    rw [List.cons_append, spl, if_neg (fun e => h.1 e.symm), spl_in h.2]
theorem spl_len (c : UInt8) : ∀ l : List UInt8, (spl c l).length = l.count c + 1
  | [] => rfl
  | x :: l => by
    have ih := spl_len c l
    unfold spl
    split
    · rename_i h; subst h; simp [ih]
    · rename_i h
      rw [List.count_cons_of_ne h]
      split
      · rename_i h2; rw [h2] at ih; simpa using ih
      · rename_i h2; exact absurd h2 (spl_ne c l)
theorem spl_mem {c : UInt8} : ∀ {l p : List UInt8}, p ∈ spl c l → c ∉ p
  | [], p, h => by simp [spl] at h; subst h; simp
  | x :: l, p, h => by
    unfold spl at h
    split at h
    · rcases List.mem_cons.1 h with rfl | h
      · simp
      · exact spl_mem h
    · rename_i hx
      split at h
      · rename_i q t h2
        rcases List.mem_cons.1 h with rfl | h
        · simp only [List.mem_cons, not_or]
          exact ⟨fun e => hx e.symm, spl_mem (p := q) (by rw [h2]; exact List.mem_cons_self ..)⟩
        · exact spl_mem (p := p) (by rw [h2]; exact List.mem_cons_of_mem _ h)
      · rename_i h2; exact absurd h2 (spl_ne c l)
/-- Joined again. -/
def joi (c : UInt8) : List (List UInt8) → List UInt8
  | [] => []
  | [p] => p
  | p :: q :: r => p ++ c :: joi c (q :: r)
theorem joi_spl (c : UInt8) : ∀ l : List UInt8, joi c (spl c l) = l
  | [] => rfl
  | x :: l => by
    have ih := joi_spl c l
    unfold spl
    split
    · rename_i h; subst h
      cases h2 : spl x l with
      | nil => exact absurd h2 (spl_ne x l)
      | cons p t => rw [h2] at ih; simp [joi, ih]
    · split
      · rename_i h2
        rw [h2] at ih
        rename_i p t
        cases t with
        | nil => simp only [joi] at ih ⊢; rw [ih]
        | cons q r => simp only [joi] at ih ⊢; rw [List.cons_append, ih]
      · rename_i h2; exact absurd h2 (spl_ne c l)
theorem spl_joi {c : UInt8} : ∀ {ps : List (List UInt8)}, ps ≠ [] → (∀ p ∈ ps, c ∉ p) → spl c (joi c ps) = ps
  | [], h, _ => absurd rfl h
  | [p], _, h => by simp only [joi]; exact spl_out (h p (by simp))
  | p :: q :: r, _, h => by
    simp only [joi]
    rw [spl_in (h p (by simp)), spl_joi (by simp) fun x hx => h x (List.mem_cons_of_mem _ hx)]

def splS (c : UInt8) (s : ByteArray) : List ByteArray := (spl c (bl s)).map bs

/-! ### hexadecimal -/
def digB (n : Nat) : UInt8 := if n < 10 then (48 + n).toUInt8 else (87 + n).toUInt8
/-- Digits, the last first. -/
def hexR (n : Nat) : List UInt8 := if h : n < 16 then [digB n] else digB (n % 16) :: hexR (n / 16)
termination_by n
decreasing_by omega
def hexS (n : Nat) : ByteArray := bs (hexR n).reverse
theorem digB_inj {m n : Nat} (hm : m < 16) (hn : n < 16) (h : digB m = digB n) : m = n := by
  have key : ∀ m : Fin 16, ∀ n : Fin 16, digB m.1 = digB n.1 → m = n := by decide
  exact congrArg Fin.val (key ⟨m, hm⟩ ⟨n, hn⟩ h)
theorem digB_nl {m : Nat} (hm : m < 16) : digB m ≠ 10 := by
  have key : ∀ m : Fin 16, digB m.1 ≠ 10 := by decide
  exact key ⟨m, hm⟩
theorem hexR_ne (n : Nat) : hexR n ≠ [] := by unfold hexR; split <;> simp
theorem hexR_len (n : Nat) : ∀ k, n < 16 ^ (k + 1) → (hexR n).length ≤ k + 1 := by
  intro k
  induction k generalizing n with
  | zero => intro h; unfold hexR; rw [dif_pos (by simpa using h)]; simp
  | succ k ih =>
    intro h
    unfold hexR
    split
    · simp
    · have := ih (n / 16) (by rw [Nat.pow_succ] at h; omega)
      simp; omega
theorem hexR_inj : ∀ (m n : Nat), hexR m = hexR n → m = n := by
  intro m
  induction m using Nat.strongRecOn with
  | _ m ih =>
    intro n h
    rw [hexR.eq_def m, hexR.eq_def n] at h
    by_cases c1 : m < 16 <;> by_cases c2 : n < 16
    · rw [dif_pos c1, dif_pos c2] at h; simp at h; exact digB_inj c1 c2 h
    · rw [dif_pos c1, dif_neg c2] at h; have h2 := (List.cons.inj h).2; exact absurd h2.symm (hexR_ne _)
    · rw [dif_neg c1, dif_pos c2] at h; have h2 := (List.cons.inj h).2; exact absurd h2 (hexR_ne _)
    · rw [dif_neg c1, dif_neg c2] at h
      obtain ⟨h1, h2⟩ := List.cons.inj h
      have e1 := digB_inj (by omega) (by omega) h1
      have e2 := ih (m / 16) (by omega) _ h2
      omega
theorem hexS_inj {m n : Nat} (h : hexS m = hexS n) : m = n := hexR_inj m n (List.reverse_inj.1 (bs_inj h))
theorem hexR_nl (n : Nat) : (10 : UInt8) ∉ hexR n := by
  induction n using Nat.strongRecOn with
  | _ n ih =>
    unfold hexR
    split
    · simp only [List.mem_singleton]; exact fun e => digB_nl (by assumption) e.symm
    · simp only [List.mem_cons, not_or]
      exact ⟨fun e => digB_nl (by omega) e.symm, ih _ (by omega)⟩
theorem hexS_nl (n : Nat) : (10 : UInt8) ∉ bl (hexS n) := by
  show (10 : UInt8) ∉ (hexR n).reverse
  simpa using hexR_nl n
end Go.Proofs.YtdddebheolmldaaDoorA
