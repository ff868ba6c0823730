/- A primary and a standby, on plain lists. -/
import Derived.Test.YtcicechobemnaaaAbs19
import Derived.Test.YtcicechobemnaaaAbs9
namespace Go.Proofs.YtcicechobemnaaaA
open Go
set_option linter.unusedVariables false

structure Msg where
  term : Int
  num : Int
  ack : Bool
  text : ByteArray
def Msg.enc (x : Msg) : List D := [.int .i64 x.term, .int .i64 x.num, .bool x.ack, .str x.text]
structure PS where
  term : Int
  first : List ByteArray
  second : List ByteArray
  done : Int
  ans : Int
  wire : List Msg
def PS.cells (p : PS) (f s w : Nat) : List AV := [.d (.int .i64 p.term), .vs f 0 p.first.length 1, .vs s 0 p.second.length 1, .d (.int .i64 p.done), .d (.int .i64 p.ans), .vs w 0 p.wire.length 4]
def prH (b : Nat) (p : PS) (f s w : Nat) (hs : Hp) : Hp := (b, .cells (p.cells f s w)) :: (f, .lst 1 (p.first.map sE)) :: (s, .lst 1 (p.second.map sE)) :: (w, .lst 4 (p.wire.map Msg.enc)) :: hs

/-! ### R.Itoa -/
def digs : ByteArray := ⟨#[48, 49, 50, 51, 52, 53, 54, 55, 56, 57]⟩
def itoaR : Nat → Nat → ByteArray → ByteArray
  | 0, _, s => s
  | f + 1, n, s => if n = 0 ∧ seq s ⟨#[]⟩ = false then s else itoaR f (n / 10) (digs.extract (n % 10) (n % 10 + 1) ++ s)
def itoaS (n : Nat) : ByteArray := itoaR (n + 1) n ⟨#[]⟩
theorem itoaR_stop (f : Nat) {n : Nat} {s : ByteArray} (h : n = 0 ∧ seq s ⟨#[]⟩ = false) : itoaR f n s = s := by
  cases f with
  | zero => rfl
  | succ f => rw [itoaR, if_pos h]
theorem dig_ne (n : Nat) (s : ByteArray) : seq (digs.extract (n % 10) (n % 10 + 1) ++ s) ⟨#[]⟩ = false := by
  cases h : seq (digs.extract (n % 10) (n % 10 + 1) ++ s) ⟨#[]⟩ with
  | false => rfl
  | true =>
    have h1 := (seq_iff _ _).1 h
    have h2 := congrArg ByteArray.size h1
    rw [ByteArray.size_append, ByteArray.size_extract] at h2
    have h3 : digs.size = 10 := rfl
    rw [h3] at h2
    have h4 : (⟨#[]⟩ : ByteArray).size = 0 := rfl
    omega
theorem itoaR_size : ∀ (f n : Nat) (s : ByteArray), s.size ≤ (itoaR f n s).size
  | 0, _, _ => Nat.le_refl _
  | f + 1, n, s => by
    rw [itoaR]
    split
    · exact Nat.le_refl _
    · refine Nat.le_trans ?_ (itoaR_size f _ _)
      rw [ByteArray.size_append]; omega
theorem itoaS_small : ∀ n, n < 80 → (itoaS n).size ≤ 8 := by decide +kernel
def eName (t : Nat) : ByteArray := ⟨#[101]⟩ ++ itoaS t

/-! ### the calls -/
def PS.sendE (p : PS) (l : List Msg) : Int := if 64 < (p.wire.length : Int) + l.length then 9 else 0
def PS.send (p : PS) (l : List Msg) : PS := if 64 < (p.wire.length : Int) + l.length then p else ⟨p.term, p.first, p.second, p.done, p.ans, p.wire ++ l⟩
theorem PS.send_err {p : PS} {l : List Msg} (h : ¬ p.sendE l = 0) : p.send l = p := by
  unfold PS.sendE at h; unfold PS.send; split at h
  · rename_i h2; rw [if_pos h2]
  · exact absurd rfl h
theorem PS.send_ok {p : PS} {l : List Msg} (h : p.sendE l = 0) : p.send l = ⟨p.term, p.first, p.second, p.done, p.ans, p.wire ++ l⟩ := by
  unfold PS.sendE at h; unfold PS.send; split at h
  · omega
  · rename_i h2; rw [if_neg h2]
def PS.subM (p : PS) (t : ByteArray) : Msg := ⟨p.term, (p.first.length : Int) + 1, false, t⟩
def PS.subE (p : PS) (t : ByteArray) : Int := if 120 < (t.size : Int) then 2 else if (p.first.length : Int) = 64 then 9 else p.sendE [p.subM t]
def PS.subN (p : PS) (t : ByteArray) : Int := if p.subE t = 0 then (p.first.length : Int) + 1 else 0
def PS.submit (p : PS) (t : ByteArray) : PS := if p.subE t = 0 then ⟨p.term, p.first ++ [t], p.second, p.done, p.ans, p.wire ++ [p.subM t]⟩ else p
def PS.inW (p : PS) (k : Int) : Prop := 0 ≤ k ∧ k < p.wire.length
instance (p : PS) (k : Int) : Decidable (p.inW k) := by unfold PS.inW; infer_instance
def PS.without (p : PS) (k : Nat) : PS := ⟨p.term, p.first, p.second, p.done, p.ans, p.wire.take k ++ p.wire.drop (k + 1)⟩
def PS.drop (p : PS) (k : Int) : PS := if p.inW k then p.without k.toNat else p
def PS.dropE (p : PS) (k : Int) : Int := if p.inW k then 0 else 8
def m0 : Msg := ⟨0, 0, false, ⟨#[]⟩⟩
def PS.repeat (p : PS) (k : Int) : PS := if p.inW k then p.send [p.wire.getD k.toNat m0] else p
def PS.repeatE (p : PS) (k : Int) : Int := if p.inW k then p.sendE [p.wire.getD k.toNat m0] else 8
/-- What Resend sends, up to entry n. -/
def resL (p : PS) (n : Nat) : List Msg := (List.range (n - p.done.toNat)).map fun (i : Nat) => ⟨p.term, p.done + (i : Int) + 1, false, p.first.getD (p.done.toNat + i) ⟨#[]⟩⟩
def PS.resend (p : PS) : PS := p.send (resL p p.first.length)
def PS.resendE (p : PS) : Int := p.sendE (resL p p.first.length)
def PS.got (p : PS) (x : Msg) : PS := if x.num = (p.second.length : Int) + 1 then ⟨p.term, p.first, p.second ++ [x.text], p.done, p.ans, p.wire⟩ else p
def PS.ackM (p : PS) : Msg := ⟨p.term, p.second.length, true, ⟨#[]⟩⟩
def PS.deliver1 (p : PS) (x : Msg) : PS :=
  if x.term ≠ p.term then p else if x.ack = true then ⟨p.term, p.first, p.second, max p.done x.num, max p.ans (max p.done x.num), p.wire⟩ else (p.got x).send [(p.got x).ackM]
def PS.deliver1E (p : PS) (x : Msg) : Int := if x.term ≠ p.term then 0 else if x.ack = true then 0 else (p.got x).sendE [(p.got x).ackM]
def PS.deliver (p : PS) (k : Int) : PS := if p.inW k then (p.without k.toNat).deliver1 (p.wire.getD k.toNat m0) else p
def PS.deliverE (p : PS) (k : Int) : Int := if p.inW k then (p.without k.toNat).deliver1E (p.wire.getD k.toNat m0) else 8
def PS.take (p : PS) : PS := if (p.second.length : Int) < p.ans then p else ⟨p.term + 1, p.second, [], 0, p.ans, p.wire⟩
def PS.takeE (p : PS) : Int := if (p.second.length : Int) < p.ans then 21 else 0

structure PS.ok (p : PS) (k : Nat) : Prop where
  term : 1 ≤ p.term ∧ p.term ≤ k + 1
  pre : p.second = p.first.take p.second.length
  done : 0 ≤ p.done ∧ p.done ≤ p.second.length ∧ p.done ≤ p.ans
  ans : p.ans ≤ p.first.length
  len : p.first.length ≤ 64
  wl : p.wire.length ≤ 64
  msg : ∀ x ∈ p.wire, 0 ≤ x.term ∧ x.term ≤ p.term ∧ 0 ≤ x.num ∧ x.num ≤ 64 ∧
    (x.term = p.term → if x.ack = true then x.num ≤ p.second.length else 1 ≤ x.num ∧ p.first[(x.num - 1).toNat]? = some x.text)
theorem PS.ok.mono {p : PS} {k n : Nat} (h : p.ok k) (hk : k ≤ n) : p.ok n := ⟨⟨h.term.1, by have := h.term.2; omega⟩, h.pre, h.done, h.ans, h.len, h.wl, h.msg⟩
theorem PS.ok.le {p : PS} {k : Nat} (h : p.ok k) : p.second.length ≤ p.first.length := by
  have := congrArg List.length h.pre; rw [List.length_take] at this; omega
theorem PS.ok.send {p : PS} {k : Nat} (h : p.ok k) (l : List Msg) (hl : ∀ x ∈ l, x.term = p.term ∧ 0 ≤ x.num ∧ x.num ≤ 64 ∧ (if x.ack = true then x.num ≤ p.second.length else 1 ≤ x.num ∧ p.first[(x.num - 1).toNat]? = some x.text)) : (p.send l).ok k := by
  unfold PS.send
  split
  · exact h
  · refine ⟨h.term, h.pre, h.done, h.ans, h.len, by simp; omega, fun x hx => ?_⟩
    rcases List.mem_append.1 hx with hx | hx
    · exact h.msg x hx
    · obtain ⟨h1, h2, h3, h4⟩ := hl x hx
      have := h.term
      exact ⟨by omega, by dsimp only; omega, h2, h3, fun _ => h4⟩
theorem PS.ok.without {p : PS} {k : Nat} (h : p.ok k) (i : Nat) : (p.without i).ok k := by
  refine ⟨h.term, h.pre, h.done, h.ans, h.len, ?_, fun x hx => h.msg x ?_⟩
  · have := h.wl; unfold PS.without; simp; omega
  · unfold PS.without at hx
    rcases List.mem_append.1 hx with hx | hx
    · exact List.mem_of_mem_take hx
    · exact List.mem_of_mem_drop hx
theorem PS.ok.submit {p : PS} {k : Nat} (h : p.ok k) (t : ByteArray) : (p.submit t).ok k := by
  unfold PS.submit
  split
  · rename_i hE
    have hle := h.le
    unfold PS.subE at hE
    split at hE
    · omega
    · split at hE
      · omega
      · unfold PS.sendE at hE
        split at hE
        · omega
        · rename_i h64 hw
          have hl := h.len
          have hw' : p.wire.length + 1 ≤ 64 := by simp at hw; omega
          refine ⟨h.term, ?_, h.done, by have := h.ans; simp; omega, by simp; omega, by simp; omega, fun x hx => ?_⟩
          · dsimp only
            rw [List.take_append_of_le_length hle]; exact h.pre
          · rcases List.mem_append.1 hx with hx | hx
            · obtain ⟨a, b, c, d, e⟩ := h.msg x hx
              refine ⟨a, b, c, d, fun ht => ?_⟩
              have e1 := e ht
              dsimp only
              split
              · rename_i ha; rw [if_pos ha] at e1; exact e1
              · rename_i ha
                rw [if_neg ha] at e1
                refine ⟨e1.1, ?_⟩
                rw [List.getElem?_append_left (List.getElem?_eq_some_iff.1 e1.2).1]; exact e1.2
            · obtain rfl := List.mem_singleton.1 hx
              have := h.term
              refine ⟨by unfold PS.subM; dsimp only; omega, by unfold PS.subM; dsimp only; omega, by unfold PS.subM; dsimp only; omega, by unfold PS.subM; dsimp only; omega, fun _ => ?_⟩
              unfold PS.subM
              dsimp only
              rw [if_neg (by decide)]
              refine ⟨by omega, ?_⟩
              rw [show ((p.first.length : Int) + 1 - 1).toNat = p.first.length by omega]
              simp
  · exact h
theorem PS.ok.got {p : PS} {k : Nat} (h : p.ok k) {x : Msg} (hx : 1 ≤ x.num ∧ p.first[(x.num - 1).toNat]? = some x.text) : (p.got x).ok k := by
  unfold PS.got
  split
  · rename_i hn
    have hlt : p.second.length < p.first.length := by
      have := (List.getElem?_eq_some_iff.1 hx.2).1; omega
    refine ⟨h.term, ?_, by have := h.done; simp; omega, h.ans, h.len, h.wl, fun y hy => ?_⟩
    · dsimp only
      rw [List.length_append, List.length_singleton, List.take_add_one, ← h.pre]
      have : p.first[p.second.length]? = some x.text := by rw [show p.second.length = (x.num - 1).toNat by omega]; exact hx.2
      rw [this]; rfl
    · obtain ⟨a, b, c, d, e⟩ := h.msg y hy
      refine ⟨a, b, c, d, fun ht => ?_⟩
      have e1 := e ht
      dsimp only
      split
      · rename_i ha; rw [if_pos ha] at e1; simp; omega
      · rename_i ha; rw [if_neg ha] at e1; exact e1
  · exact h
theorem PS.ok.deliver1 {p : PS} {k : Nat} (h : p.ok k) {x : Msg} (hx : x.term = p.term → if x.ack = true then x.num ≤ p.second.length else 1 ≤ x.num ∧ p.first[(x.num - 1).toNat]? = some x.text) : (p.deliver1 x).ok k := by
  unfold PS.deliver1
  split
  · exact h
  · rename_i ht
    have ht' : x.term = p.term := Classical.not_not.1 ht
    have hx1 := hx ht'
    have hle := h.le
    split
    · rename_i ha
      rw [if_pos ha] at hx1
      have := h.done; have := h.ans
      exact ⟨h.term, h.pre, by dsimp only; omega, by dsimp only; omega, h.len, h.wl, h.msg⟩
    · rename_i ha
      rw [if_neg ha] at hx1
      have hg := h.got hx1
      refine hg.send _ fun y hy => ?_
      obtain rfl := List.mem_singleton.1 hy
      have h1 := hg.le; have h2 := hg.len
      unfold PS.ackM
      exact ⟨rfl, by dsimp only; omega, by dsimp only; omega, by dsimp only; rw [if_pos rfl]; omega⟩
theorem PS.ok.deliver {p : PS} {k : Nat} (h : p.ok k) (i : Int) : (p.deliver i).ok k := by
  unfold PS.deliver
  split
  · rename_i hi
    unfold PS.inW at hi
    refine (h.without _).deliver1 ?_
    obtain ⟨y, hy⟩ : ∃ y, p.wire[i.toNat]? = some y := ⟨_, List.getElem?_eq_getElem (by omega)⟩
    rw [List.getD_eq_getElem?_getD, hy]
    exact (h.msg y (List.mem_of_getElem? hy)).2.2.2.2
  · exact h
theorem PS.ok.drop {p : PS} {k : Nat} (h : p.ok k) (i : Int) : (p.drop i).ok k := by
  unfold PS.drop; split
  · exact h.without _
  · exact h
theorem PS.ok.repeat {p : PS} {k : Nat} (h : p.ok k) (i : Int) : (p.repeat i).ok k := by
  unfold PS.repeat; split
  · rename_i hi
    unfold PS.inW at hi
    obtain ⟨y, hy⟩ : ∃ y, p.wire[i.toNat]? = some y := ⟨_, List.getElem?_eq_getElem (by omega)⟩
    rw [List.getD_eq_getElem?_getD, hy]
    unfold PS.send
    split
    · exact h
    · rename_i hl
      refine ⟨h.term, h.pre, h.done, h.ans, h.len, by simp at hl; simp; omega, fun x hx => ?_⟩
      rcases List.mem_append.1 hx with hx | hx
      · exact h.msg x hx
      · rw [List.mem_singleton.1 hx]
        exact h.msg y (List.mem_of_getElem? hy)
  · exact h
theorem PS.ok.resend {p : PS} {k : Nat} (h : p.ok k) : (p.resend).ok k := by
  refine h.send _ fun x hx => ?_
  obtain ⟨i, hi, rfl⟩ := List.mem_map.1 hx
  rw [List.mem_range] at hi
  have h1 := h.done; have h2 := h.len
  refine ⟨rfl, by dsimp only; omega, by dsimp only; omega, ?_⟩
  dsimp only
  rw [if_neg (by decide), show (p.done + (i : Int) + 1 - 1).toNat = p.done.toNat + i by omega]
  refine ⟨by omega, ?_⟩
  rw [List.getD_eq_getElem?_getD, List.getElem?_eq_getElem (by omega)]; rfl
theorem PS.ok.take {p : PS} {k : Nat} (h : p.ok k) : (p.take).ok (k + 1) := by
  unfold PS.take; split
  · exact h.mono (by omega)
  · have h1 := h.term; have h2 := h.done; have h3 := h.le; have h4 := h.len
    refine ⟨by dsimp only; omega, rfl, by simp; omega, by dsimp only; omega, by dsimp only; omega, h.wl, fun x hx => ?_⟩
    obtain ⟨a, b, c, d, e⟩ := h.msg x hx
    exact ⟨a, by dsimp only; omega, c, d, fun ht => by dsimp only at ht; omega⟩
/-- play, one call. -/
def plK (p : PS) (c : Int) : Int := if 0 < p.wire.length then (c / 10) % p.wire.length else c / 10
def plStep (p : PS) (c : Int) : PS :=
  if c % 10 = 0 ∨ c % 10 = 1 ∨ c % 10 = 2 then p.submit (eName c.toNat) else if c % 10 = 3 then p.drop (plK p c) else if c % 10 = 4 then p.repeat (plK p c)
  else if c % 10 = 5 then p.resend else if c % 10 = 6 then (if c < 20 then p.take else p) else p.deliver (plK p c)
def ps0 : PS := ⟨1, [], [], 0, 0, []⟩
def plN (l : List Int) : Nat → PS
  | 0 => ps0
  | k + 1 => plStep (plN l k) (cutI (l.getD k 0) 0 79)
theorem plStep_ok {p : PS} {k : Nat} (h : p.ok k) (c : Int) : (plStep p c).ok (k + 1) := by
  unfold plStep
  split
  · exact (h.submit _).mono (by omega)
  · split
    · exact (h.drop _).mono (by omega)
    · split
      · exact (h.repeat _).mono (by omega)
      · split
        · exact h.resend.mono (by omega)
        · split
          · split
            · exact h.take
            · exact h.mono (by omega)
          · exact (h.deliver _).mono (by omega)
theorem plN_ok (l : List Int) : ∀ k, (plN l k).ok k
  | 0 => (show ps0.ok 0 from ⟨by decide, rfl, by decide, by decide, by decide, by decide, by simp [ps0]⟩)
  | k + 1 => plStep_ok (plN_ok l k) _
def nmX : ByteArray := ⟨#[120]⟩
def fx1 : PS := ps0.submit nmX
def fx2 : PS := fx1.deliver 0
def fx3 : PS := fx2.deliver 0
theorem fact_v : ps0.subN nmX = 1 ∧ ps0.subE nmX = 0 ∧ fx1.deliverE 0 = 0 ∧ fx2.deliverE 0 = 0 ∧ fx3.ans = 1 ∧ fx3.second = [nmX] := by decide +kernel
theorem ps0_ok : ps0.ok 0 := plN_ok [] 0
theorem fx1_ok : fx1.ok 100 := (ps0_ok.submit _).mono (by decide)
theorem fx2_ok : fx2.ok 100 := fx1_ok.deliver _
theorem fx3_ok : fx3.ok 100 := fx2_ok.deliver _
theorem cutN {l : List Int} {n : Nat} : ((l.take (min (((l.map nE).length : Nat) : Int) (n : Int)).toNat).drop (0 : Int).toNat).map nE = (l.take (min l.length n)).map nE := by
  rw [List.length_map, show (min ((l.length : Nat) : Int) (n : Int)).toNat = min l.length n by omega]; rfl

/-! ### StandbyKeeps: what was acknowledged stays -/
structure Keep (p : PS) (known : List ByteArray) : Prop where
  len : (known.length : Int) ≤ p.ans
  pre : p.first.take known.length = known
theorem first_pre (p : PS) (k : Nat) (h : p.ok k) (c : Int) (n : Nat) (hn : (n : Int) ≤ p.ans) : (n : Int) ≤ (plStep p c).ans ∧ (plStep p c).first.take n = p.first.take n := by
  have hans := h.ans; have hdn := h.done; have hle := h.le
  have hsend : ∀ (q : PS) (l : List Msg), (q.send l).ans = q.ans ∧ (q.send l).first = q.first := by
    intro q l; unfold PS.send; split <;> exact ⟨rfl, rfl⟩
  unfold plStep
  split
  · unfold PS.submit
    split
    · exact ⟨hn, by dsimp only; rw [List.take_append_of_le_length (by omega)]⟩
    · exact ⟨hn, rfl⟩
  · split
    · unfold PS.drop; split <;> exact ⟨hn, rfl⟩
    · split
      · unfold PS.repeat; split
        · rw [(hsend _ _).1, (hsend _ _).2]; exact ⟨hn, rfl⟩
        · exact ⟨hn, rfl⟩
      · split
        · unfold PS.resend; rw [(hsend _ _).1, (hsend _ _).2]; exact ⟨hn, rfl⟩
        · split
          · split
            · unfold PS.take; split
              · exact ⟨hn, rfl⟩
              · rename_i hs
                refine ⟨hn, ?_⟩
                dsimp only
                rw [h.pre, List.take_take, Nat.min_eq_left (by omega)]
            · exact ⟨hn, rfl⟩
          · unfold PS.deliver; split
            · unfold PS.deliver1; split
              · exact ⟨hn, rfl⟩
              · split
                · exact ⟨by unfold PS.without; dsimp only; omega, rfl⟩
                · rw [(hsend _ _).1, (hsend _ _).2]
                  unfold PS.got; split <;> exact ⟨hn, rfl⟩
            · exact ⟨hn, rfl⟩
theorem keep_step {p : PS} {k : Nat} (h : p.ok k) (c : Int) : Keep (plStep p c) (p.first.take p.ans.toNat) := by
  have hans := h.ans; have hdn := h.done
  have hl : (p.first.take p.ans.toNat).length = p.ans.toNat := by rw [List.length_take]; omega
  have h1 := first_pre p k h c p.ans.toNat (by omega)
  exact ⟨by rw [hl]; exact h1.1, by rw [hl]; exact h1.2⟩
theorem resL_len (p : PS) (n : Nat) : (resL p n).length = n - p.done.toNat := by simp [resL]
theorem resL_succ {p : PS} {k : Nat} (h0 : 0 ≤ p.done) (h : p.done.toNat ≤ k) : resL p (k + 1) = resL p k ++ [⟨p.term, (k : Int) + 1, false, p.first.getD k ⟨#[]⟩⟩] := by
  unfold resL
  rw [show k + 1 - p.done.toNat = (k - p.done.toNat) + 1 by omega, List.range_succ, List.map_append]
  congr 1
  simp only [List.map_cons, List.map_nil]
  rw [show p.done + ((k - p.done.toNat : Nat) : Int) + 1 = (k : Int) + 1 by omega, show p.done.toNat + (k - p.done.toNat) = k by omega]

/-! ### StandbyOld: messages of earlier terms -/
def PS.wr (p : PS) (w : List Msg) : PS := ⟨p.term, p.first, p.second, p.done, p.ans, w⟩
theorem wr_without (p : PS) (w : List Msg) (j : Nat) : (p.wr (w.drop j)).without 0 = p.wr (w.drop (j + 1)) := by
  unfold PS.without PS.wr
  dsimp only
  rw [List.take_zero, List.nil_append, List.drop_drop]
theorem old_step {p : PS} {w : List Msg} (h : ∀ x ∈ w, x.term ≠ p.term) {j : Nat} (hj : j < w.length) : (p.wr (w.drop j)).deliver 0 = p.wr (w.drop (j + 1)) ∧ (p.wr (w.drop j)).deliverE 0 = 0 := by
  have hin : (p.wr (w.drop j)).inW 0 := by unfold PS.inW PS.wr; simp; omega
  have hx : (p.wr (w.drop j)).wire.getD (0 : Int).toNat m0 = w[j] := by
    show (w.drop j).getD 0 m0 = _
    rw [List.getD_eq_getElem?_getD, List.getElem?_drop, List.getElem?_eq_getElem (by omega)]; rfl
  have hne := h w[j] (List.getElem_mem hj)
  constructor
  · unfold PS.deliver
    rw [if_pos hin, hx, show (0 : Int).toNat = 0 from rfl, wr_without]
    unfold PS.deliver1
    rw [if_pos (show w[j].term ≠ (p.wr (w.drop (j + 1))).term from hne)]
  · unfold PS.deliverE
    rw [if_pos hin, hx, show (0 : Int).toNat = 0 from rfl, wr_without]
    unfold PS.deliver1E
    rw [if_pos (show w[j].term ≠ (p.wr (w.drop (j + 1))).term from hne)]
theorem PS.ok.wr {p : PS} {k : Nat} (h : p.ok k) {w : List Msg} (hw : ∀ x ∈ w, x ∈ p.wire) (hl : w.length ≤ 64) : (p.wr w).ok k :=
  ⟨h.term, h.pre, h.done, h.ans, h.len, hl, fun x hx => h.msg x (hw x hx)⟩
theorem take_old {p : PS} {k : Nat} (h : p.ok k) (h2 : ¬ (p.second.length : Int) < p.ans) : ∀ x ∈ p.take.wire, x.term ≠ p.take.term := by
  unfold PS.take
  rw [if_neg h2]
  intro x hx
  have := (h.msg x hx).2.1
  dsimp only
  omega

/-! ### StandbySettles -/
theorem drop_step {p : PS} {w : List Msg} {j : Nat} (hj : j < w.length) : (p.wr (w.drop j)).drop 0 = p.wr (w.drop (j + 1)) ∧ (p.wr (w.drop j)).dropE 0 = 0 := by
  have hin : (p.wr (w.drop j)).inW 0 := by unfold PS.inW PS.wr; simp; omega
  constructor
  · unfold PS.drop; rw [if_pos hin, show (0 : Int).toNat = 0 from rfl, wr_without]
  · unfold PS.dropE; rw [if_pos hin]
/-- The wire while the entries are delivered: i of them have been. -/
def ents (p : PS) (i : Nat) : List Msg := (resL p p.first.length).drop i
def acks (p : PS) (a i : Nat) : List Msg := (List.range' a (i - a)).map fun (j : Nat) => ⟨p.term, (max p.second.length (p.done.toNat + j + 1) : Nat), true, ⟨#[]⟩⟩
def phA (p : PS) (i : Nat) : PS := ⟨p.term, p.first, p.first.take (max p.second.length (p.done.toNat + i)), p.done, p.ans, ents p i ++ acks p 0 i⟩
def phB (p : PS) (a : Nat) : PS := ⟨p.term, p.first, p.first.take (max p.second.length p.first.length), (if a = 0 then p.done else (max p.second.length (p.done.toNat + a) : Nat)), (if a = 0 then p.ans else max p.ans (max p.second.length (p.done.toNat + a) : Nat)), acks p a (p.first.length - p.done.toNat)⟩
def phC (p : PS) (n : Nat) : PS := if n ≤ p.first.length - p.done.toNat then phA p n else phB p (n - (p.first.length - p.done.toNat))
theorem acks_succ (p : PS) (i : Nat) : acks p 0 (i + 1) = acks p 0 i ++ [⟨p.term, (max p.second.length (p.done.toNat + i + 1) : Nat), true, ⟨#[]⟩⟩] := by
  unfold acks
  rw [Nat.sub_zero, Nat.sub_zero, List.range'_concat, List.map_append]
  simp
theorem acks_cons (p : PS) {a n : Nat} (h : a < n) : acks p a n = ⟨p.term, (max p.second.length (p.done.toNat + a + 1) : Nat), true, ⟨#[]⟩⟩ :: acks p (a + 1) n := by
  unfold acks
  rw [show n - a = (n - (a + 1)) + 1 by omega, List.range'_succ, List.map_cons]
theorem phA_step {p : PS} {k : Nat} (h : p.ok k) {i : Nat} (hi : i < p.first.length - p.done.toNat) : (phA p i).deliver 0 = phA p (i + 1) ∧ (phA p i).deliverE 0 = 0 := by
  have hd := h.done; have hle := h.le; have hln := h.len
  have hrl := resL_len p p.first.length
  have hent : ents p i = ⟨p.term, p.done + (i : Int) + 1, false, p.first.getD (p.done.toNat + i) ⟨#[]⟩⟩ :: ents p (i + 1) := by
    unfold ents
    rw [List.drop_eq_getElem_cons (by omega)]
    congr 1
    unfold resL
    rw [List.getElem_map, List.getElem_range]
  have hgd : p.first.getD (p.done.toNat + i) ⟨#[]⟩ = p.first[p.done.toNat + i]'(by omega) := by
    rw [List.getD_eq_getElem?_getD, List.getElem?_eq_getElem (by omega)]; rfl
  have hin : (phA p i).inW 0 := by unfold PS.inW phA; rw [hent]; simp; omega
  have hx : (phA p i).wire.getD (0 : Int).toNat m0 = ⟨p.term, p.done + (i : Int) + 1, false, p.first.getD (p.done.toNat + i) ⟨#[]⟩⟩ := by
    unfold phA; rw [hent]; rfl
  have hwo : (phA p i).without 0 = ⟨p.term, p.first, p.first.take (max p.second.length (p.done.toNat + i)), p.done, p.ans, ents p (i + 1) ++ acks p 0 i⟩ := by
    unfold PS.without phA; rw [hent]; rfl
  have hmx : max p.second.length (p.done.toNat + i) ≤ p.first.length := by omega
  have hgot : ((phA p i).without 0).got ⟨p.term, p.done + (i : Int) + 1, false, p.first.getD (p.done.toNat + i) ⟨#[]⟩⟩ = ⟨p.term, p.first, p.first.take (max p.second.length (p.done.toNat + (i + 1))), p.done, p.ans, ents p (i + 1) ++ acks p 0 i⟩ := by
    rw [hwo]
    unfold PS.got
    dsimp only
    rw [List.length_take, Nat.min_eq_left hmx]
    split
    · rename_i hn
      have he : max p.second.length (p.done.toNat + i) = p.done.toNat + i := by omega
      rw [he, show max p.second.length (p.done.toNat + (i + 1)) = p.done.toNat + i + 1 by omega, List.take_add_one, List.getElem?_eq_getElem (by omega), hgd]
      rfl
    · rename_i hn
      rw [show max p.second.length (p.done.toNat + (i + 1)) = max p.second.length (p.done.toNat + i) by omega]
  have hel : (ents p (i + 1)).length + (acks p 0 i).length + 1 ≤ 64 := by
    unfold ents acks; rw [List.length_drop, List.length_map, List.length_range']; omega
  have hack : (⟨p.term, p.first, p.first.take (max p.second.length (p.done.toNat + (i + 1))), p.done, p.ans, ents p (i + 1) ++ acks p 0 i⟩ : PS).ackM = ⟨p.term, (max p.second.length (p.done.toNat + i + 1) : Nat), true, ⟨#[]⟩⟩ := by
    unfold PS.ackM
    dsimp only
    rw [List.length_take, Nat.min_eq_left (by omega)]; rfl
  constructor
  · unfold PS.deliver
    rw [if_pos hin, hx, show (0 : Int).toNat = 0 from rfl]
    unfold PS.deliver1
    rw [if_neg (by rw [hwo]; simp), if_neg (by simp), hgot, hack]
    unfold PS.send
    rw [if_neg (by simp; omega)]
    unfold phA
    rw [acks_succ]
    simp
  · unfold PS.deliverE
    rw [if_pos hin, hx, show (0 : Int).toNat = 0 from rfl]
    unfold PS.deliver1E
    rw [if_neg (by rw [hwo]; simp), if_neg (by simp), hgot, hack]
    unfold PS.sendE
    rw [if_neg (by simp; omega)]
theorem phB_zero {p : PS} {k : Nat} (h : p.ok k) : phA p (p.first.length - p.done.toNat) = phB p 0 := by
  have hd := h.done; have hle := h.le
  unfold phA phB ents
  have : (resL p p.first.length).drop (p.first.length - p.done.toNat) = [] := List.drop_eq_nil_of_le (by rw [resL_len]; omega)
  rw [this, show max p.second.length (p.done.toNat + (p.first.length - p.done.toNat)) = max p.second.length p.first.length by omega]
  rfl
theorem phB_step {p : PS} {k : Nat} (h : p.ok k) {a : Nat} (ha : a < p.first.length - p.done.toNat) : (phB p a).deliver 0 = phB p (a + 1) ∧ (phB p a).deliverE 0 = 0 := by
  have hd := h.done; have hle := h.le
  have hc := acks_cons p ha
  have hin : (phB p a).inW 0 := by unfold PS.inW phB; rw [hc]; simp; try omega
  have hx : (phB p a).wire.getD (0 : Int).toNat m0 = ⟨p.term, (max p.second.length (p.done.toNat + a + 1) : Nat), true, ⟨#[]⟩⟩ := by
    unfold phB; rw [hc]; rfl
  have hwt : ((phB p a).without 0).term = p.term := rfl
  constructor
  · unfold PS.deliver
    rw [if_pos hin, hx, show (0 : Int).toNat = 0 from rfl]
    unfold PS.deliver1
    rw [if_neg (by rw [hwt]; simp), if_pos rfl]
    unfold PS.without phB
    rw [hc]
    dsimp only
    rw [if_neg (show ¬ a + 1 = 0 by omega), if_neg (show ¬ a + 1 = 0 by omega)]
    have e1 : max (if a = 0 then p.done else ((max p.second.length (p.done.toNat + a) : Nat) : Int)) ((max p.second.length (p.done.toNat + a + 1) : Nat) : Int) = ((max p.second.length (p.done.toNat + (a + 1)) : Nat) : Int) := by
      split <;> omega
    rw [e1]
    congr 1
    split <;> omega
  · unfold PS.deliverE
    rw [if_pos hin, hx, show (0 : Int).toNat = 0 from rfl]
    unfold PS.deliver1E
    rw [if_neg (by rw [hwt]; simp), if_pos rfl]
theorem phC_step {p : PS} {k : Nat} (h : p.ok k) {n : Nat} (hn : n < 2 * (p.first.length - p.done.toNat)) : (phC p n).deliver 0 = phC p (n + 1) ∧ (phC p n).deliverE 0 = 0 := by
  unfold phC
  by_cases h1 : n < p.first.length - p.done.toNat
  · rw [if_pos (by omega), if_pos (by omega)]; exact phA_step h h1
  · by_cases h2 : n = p.first.length - p.done.toNat
    · rw [if_pos (by omega), if_neg (by omega), h2, phB_zero h, show p.first.length - p.done.toNat + 1 - (p.first.length - p.done.toNat) = 0 + 1 by omega]
      exact phB_step h (by omega)
    · rw [if_neg (by omega), if_neg (by omega), show n + 1 - (p.first.length - p.done.toNat) = (n - (p.first.length - p.done.toNat)) + 1 by omega]
      exact phB_step h (by omega)
theorem phC_wire {p : PS} {n : Nat} (hn : n < 2 * (p.first.length - p.done.toNat)) : 0 < (phC p n).wire.length := by
  unfold phC
  split
  · unfold phA ents acks; simp [resL_len]; try omega
  · unfold phB acks; simp; try omega
theorem phC_end {p : PS} {k : Nat} (h : p.ok k) : (phC p (2 * (p.first.length - p.done.toNat))).wire = [] ∧ (phC p (2 * (p.first.length - p.done.toNat))).first = p.first ∧ (phC p (2 * (p.first.length - p.done.toNat))).second = p.first ∧
    (phC p (2 * (p.first.length - p.done.toNat))).done = p.first.length ∧ (phC p (2 * (p.first.length - p.done.toNat))).ans = p.first.length := by
  have hd := h.done; have hle := h.le; have han := h.ans
  have hB : phC p (2 * (p.first.length - p.done.toNat)) = phB p (p.first.length - p.done.toNat) := by
    unfold phC
    split
    · rename_i h0
      have : p.first.length - p.done.toNat = 0 := by omega
      rw [this]
      have := phB_zero h
      rw [‹p.first.length - p.done.toNat = 0›] at this
      exact this
    · congr 1; omega
  rw [hB]
  unfold phB
  refine ⟨?_, rfl, ?_, ?_, ?_⟩
  · unfold acks; dsimp only; rw [Nat.sub_self]; rfl
  · dsimp only; exact List.take_of_length_le (by omega)
  · dsimp only; split <;> omega
  · dsimp only; split <;> omega
theorem phC_ok {p : PS} {k : Nat} (h : p.ok k) (h0 : (phC p 0).ok k) : ∀ n, n ≤ 2 * (p.first.length - p.done.toNat) → (phC p n).ok k
  | 0, _ => h0
  | n + 1, hn => by
    rw [← (phC_step h (show n < _ by omega)).1]
    exact (phC_ok h h0 n (by omega)).deliver 0
theorem resend_ph {p : PS} {k : Nat} (h : p.ok k) (hw : p.wire = []) : p.resend = phC p 0 ∧ p.resendE = 0 := by
  have hln := h.len; have hd := h.done; have hle := h.le
  have hrl := resL_len p p.first.length
  constructor
  · unfold PS.resend PS.send phC
    rw [if_neg (by rw [hw]; simp; omega), if_pos (Nat.zero_le _)]
    unfold phA ents acks
    rw [hw, Nat.add_zero, show max p.second.length p.done.toNat = p.second.length by omega, ← h.pre]
    simp
  · unfold PS.resendE PS.sendE
    rw [if_neg (by rw [hw]; simp; omega)]
end Go.Proofs.YtcicechobemnaaaA
