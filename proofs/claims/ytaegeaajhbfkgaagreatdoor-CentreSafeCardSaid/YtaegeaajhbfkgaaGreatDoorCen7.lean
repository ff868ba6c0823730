/- A centre's states, and that each step keeps them good. -/
import Derived.Test.YtaegeaajhbfkgaaGreatDoorCen6
namespace Go.Proofs.YtaegeaajhbfkgaaGreatDoorA
open Go
set_option linter.unusedVariables false
set_option linter.unusedSimpArgs false
set_option linter.unnecessarySimpa false
structure Stt where
  tm : Int
  fl : List Fl
  ow : List OE
  lg : List EN
def Stt.zero : Stt := ⟨0, [], [], []⟩
def opE (su : Su) (s : Stt) (x : CI) : Int :=
  if x.kind = 0 then fileE su s.fl s.ow x else if x.kind = 3 then clrE su s.fl s.ow x else if x.kind = 4 ∨ x.kind = 5 then redE s.fl x else if x.kind = 6 then finE s.fl s.ow x else pasE s.ow x
def opF (su : Su) (s : Stt) (x : CI) : List Fl :=
  if x.kind = 0 then fileF su s.fl s.ow x else if x.kind = 3 then clrF su s.fl s.ow x else if x.kind = 4 ∨ x.kind = 5 then redF s.fl x else if x.kind = 6 then finF s.fl s.ow x else s.fl
def opO (su : Su) (s : Stt) (x : CI) : List OE :=
  if x.kind = 0 then fileO su s.fl s.ow x else if x.kind = 3 then s.ow else if x.kind = 4 ∨ x.kind = 5 then s.ow else if x.kind = 6 then finO s.fl s.ow x else pasO s.ow x
theorem op_no {su : Su} {s : Stt} {x : CI} (h : opE su s x ≠ 0) : opF su s x = s.fl ∧ opO su s x = s.ow := by
  unfold opE at h
  unfold opF opO
  split
  · rename_i h1; rw [if_pos h1] at h; exact file_no h
  · rename_i h1; rw [if_neg h1] at h
    split
    · rename_i h2; rw [if_pos h2] at h; exact ⟨clr_no h, rfl⟩
    · rename_i h2; rw [if_neg h2] at h
      split
      · rename_i h3; rw [if_pos h3] at h; exact ⟨red_no h, rfl⟩
      · rename_i h3; rw [if_neg h3] at h
        split
        · rename_i h4; rw [if_pos h4] at h; exact fin_no h
        · rename_i h4; rw [if_neg h4] at h; exact ⟨rfl, if_neg h⟩
def kindsL : List ByteArray := [⟨#[102, 105, 108, 101]⟩, ⟨#[111, 102, 102, 101, 114]⟩, ⟨#[97, 99, 99, 101, 112, 116]⟩, ⟨#[99, 108, 101, 97, 114]⟩, ⟨#[104, 101, 97, 114]⟩, ⟨#[114, 101, 102, 117, 115, 101]⟩, ⟨#[101, 110, 100]⟩]
def kindS (k : Int) : ByteArray := kindsL.getD k.toNat emB
def preE (s : Stt) (x : CI) : Int := if x.kind < 0 ∨ 7 ≤ x.kind then 1 else if x.time < s.tm ∨ 200000 < x.time then 12 else if 400 ≤ s.lg.length then 9 else 0
def stepE (su : Su) (s : Stt) (x : CI) : Int := if preE s x ≠ 0 then preE s x else opE su s x
def stepS (su : Su) (s : Stt) (x : CI) : Stt := if stepE su s x ≠ 0 then s else ⟨x.time, opF su s x, opO su s x, addL s.lg x.time (kindS x.kind) x.call⟩
theorem preE_zero {s : Stt} {x : CI} (h : preE s x = 0) : (0 ≤ x.kind ∧ x.kind < 7) ∧ (s.tm ≤ x.time ∧ x.time ≤ 200000) ∧ s.lg.length < 400 := by
  unfold preE at h
  split at h
  · omega
  · split at h
    · omega
    · split at h
      · omega
      · omega
theorem stepE_zero {su : Su} {s : Stt} {x : CI} (h : stepE su s x = 0) : preE s x = 0 ∧ opE su s x = 0 := by
  unfold stepE at h
  split at h
  · omega
  · rename_i h1; exact ⟨by omega, h⟩
def bestP (su : Su) (fl : List Fl) (f : Fl) (ready b : Int) : Prop := b = f.slot + 1 ∨ (ready ≤ b ∧ fryB su fl f b = true)
theorem bestG_P {su : Su} {fl : List Fl} {f g : Fl} {ready b : Int} (h : bestP su fl f ready b) : bestP su fl f ready (bestG su fl f ready b g) := by
  unfold bestG
  generalize landL g = us
  induction us generalizing b with
  | nil => exact h
  | cons u us ih =>
    rw [List.foldl_cons]
    apply ih
    unfold bestU
    split
    · rename_i hc; exact .inr ⟨hc.1.1, hc.2⟩
    · exact h
theorem bestV_P (su : Su) (fl : List Fl) (f : Fl) (l : List Nd) : bestP su fl f (laT l) (bestV su fl f l) := by
  unfold bestV
  have h0 : bestP su fl f (laT l) (best0 su fl f (laT l)) := by
    unfold best0
    split
    · rename_i h; exact .inr ⟨Int.le_refl _, h⟩
    · exact .inl rfl
  have key : ∀ (gs : List Fl) (b : Int), bestP su fl f (laT l) b → bestP su fl f (laT l) (gs.foldl (bestG su fl f (laT l)) b) := by
    intro gs
    induction gs with
    | nil => exact fun b h => h
    | cons g gs ih => exact fun b h => ih _ (bestG_P h)
  exact key fl _ h0
theorem land_good {su : Su} {fl : List Fl} {f : Fl} {l : List Nd} (hl : f.lands = true) (h : ¬ landB su fl f l = false) : laT l ≤ landV su fl f l ∧ landV su fl f l ≤ f.slot ∧ fryB su fl f (landV su fl f l) = true := by
  have e1 : landV su fl f l = bestV su fl f l := if_neg (by rw [hl]; simp)
  have e2 : landB su fl f l = decide (bestV su fl f l ≤ f.slot) := if_neg (by rw [hl]; simp)
  rw [e2] at h
  have h2 : bestV su fl f l ≤ f.slot := by simpa using h
  rw [e1]
  rcases bestV_P su fl f l with h3 | ⟨h3, h4⟩
  · omega
  · exact ⟨h3, h2, h4⟩
theorem land_bd {su : Su} {fl : List Fl} {f : Fl} {l : List Nd} (ok : TuOk l) (hs : 0 ≤ f.slot ∧ f.slot ≤ 200000) (h : ¬ landB su fl f l = false) : 0 ≤ landV su fl f l ∧ landV su fl f l ≤ 200000 := by
  cases hl : f.lands with
  | false => have e1 : landV su fl f l = 0 := if_pos hl; omega
  | true =>
    obtain ⟨h1, h2, _⟩ := land_good hl h
    have := (hd_bd ok).2
    omega
theorem begE_names {l : List OE} {c b : ByteArray} (h : begE l c b = 0) : nameS c = true ∧ nameS b = true := by
  unfold begE at h
  split at h
  · omega
  · rename_i h1
    constructor
    · cases e : nameS c with
      | true => rfl
      | false => exact absurd (.inl e) h1
    · cases e : nameS b with
      | true => rfl
      | false => exact absurd (.inr e) h1
structure FileOk (su : Su) (fl : List Fl) (ow : List OE) (x : CI) : Prop where
  beg : begE ow x.call x.by_ = 0
  ok : TuOk x.tube
  rng : ¬ rngX x
  tm : x.time ≤ hdT x.tube
  long : ¬ longB x.tube = true
  cla : ¬ clashesB su fl x.call x.tube = true
  land : ¬ landB su fl (newF x) x.tube = false
theorem file_zero {su : Su} {fl : List Fl} {ow : List OE} {x : CI} (h : fileE su fl ow x = 0) : FileOk su fl ow x := by
  unfold fileE at h
  split at h
  · omega
  · rename_i h1
    split at h
    · omega
    · rename_i h2
      split at h
      · omega
      · rename_i h3
        split at h
        · omega
        · rename_i h4
          split at h
          · omega
          · rename_i h5
            split at h
            · omega
            · rename_i h6
              split at h
              · omega
              · rename_i h7
                exact ⟨by omega, tubeC_zero.1 (by omega), h3, by omega, h5, h6, h7⟩
theorem file_keep {su : Su} {fl : List Fl} {ow : List OE} {x : CI} (o : FwOk fl ow) (h : fileE su fl ow x = 0) : FwOk (fileF su fl ow x) (fileO su fl ow x) := by
  obtain ⟨e1, e2⟩ := file_yes h
  have k := file_zero h
  obtain ⟨o1, o2, o3⟩ := beg_ok o.owk k.beg
  have hr := k.rng
  unfold rngX at hr
  have hlb := land_bd (f := newF x) (su := su) (fl := fl) k.ok ⟨by show 0 ≤ x.slot; omega, by show x.slot ≤ 200000; omega⟩ k.land
  rw [e1, e2]
  refine ⟨o1, by rw [ins_map, o2, o.calls, o.pos]; rfl, fun f hf => ?_, fun f hf k2 hk => ?_, fun f hf hn => ?_⟩
  · rcases mem_ins.1 hf with rfl | hf
    · exact ⟨⟨by show 0 ≤ x.wake; omega, by show x.wake ≤ 3; omega⟩, ⟨by show 0 ≤ x.slot; omega, by show x.slot ≤ 200000; omega⟩, by simp [newL], fun l hl => by simp [newL] at hl; rw [hl]; exact k.ok, .inl rfl, hlb, ⟨by show (0 : Int) ≤ 0; omega, by show (0 : Int) ≤ 200000; omega⟩, (begE_names k.beg).1, by simp [newL]⟩
    · exact o.all f hf
  · rcases mem_ins.1 hf with rfl | hf
    · simp [newL] at hk
    · exact o.sts f hf k2 hk
  · rcases mem_ins.1 hf with rfl | hf
    · exact absurd rfl hn
    · exact o.nxt f hf hn
structure ClrOk (su : Su) (fl : List Fl) (f : Fl) (x : CI) (by_ : ByteArray) : Prop where
  by_ : by_ = x.by_
  nxt : f.next = []
  len : f.legs.length ≠ 6
  ok : TuOk x.tube
  frm : ¬ badFrom f x
  long : ¬ longB x.tube = true
  ins : InE (hereL f x) x.tube = 0 ∧ InB (hereL f x) x.tube = true
  cla : ¬ clashesB su fl x.call x.tube = true
  land : ¬ landB su fl f x.tube = false
theorem clr_zero {su : Su} {fl : List Fl} {ow : List OE} {x : CI} (h : clrE su fl ow x = 0) : hasO ow x.call = true ∧ ClrOk su fl (atF fl x.call) x (ofV ow x.call) := by
  unfold clrE at h
  split at h
  · omega
  · rename_i h0
    refine ⟨ofE_has (by omega), ?_⟩
    unfold clrG at h
    split at h
    · omega
    · rename_i h1
      split at h
      · omega
      · rename_i h2
        split at h
        · omega
        · rename_i h3
          split at h
          · omega
          · rename_i h4
            split at h
            · omega
            · rename_i h5
              split at h
              · omega
              · rename_i h6
                split at h
                · omega
                · rename_i h7
                  split at h
                  · omega
                  · rename_i h8
                    split at h
                    · omega
                    · rename_i h9
                      exact ⟨Classical.not_not.1 h1, Classical.not_not.1 h2, h3, tubeC_zero.1 (by omega), h5, h6, ⟨Classical.not_not.1 fun h => h7 (.inl h), by cases e : InB (hereL (atF fl x.call) x) x.tube with | true => rfl | false => exact absurd (.inr e) h7⟩, h8, h9⟩
theorem mem_at {fl : List Fl} {c : ByteArray} (h : hasK Fl.call fl c = true) : atF fl c ∈ fl := List.mem_of_getElem? (atF_get h).1
theorem set_keep {fl : List Fl} {ow : List OE} (o : FwOk fl ow) {c : ByteArray} (h : hasK Fl.call fl c = true) {f : Fl} (hc : f.call = (atF fl c).call) (hf : FlOk f)
    (hs : ∀ k, k + 1 < f.legs.length → hdT (f.legs.getD k []) < hdT (f.legs.getD (k + 1) [])) (hn : f.next ≠ [] → f.legs.length < 6 ∧ hdT (lastL f) < hdT f.next) : FwOk (fl.set (posK Fl.call fl c) f) ow := by
  refine ⟨o.owk, by rw [set_map (atF_get h).1 hc]; exact o.calls, fun g hg => ?_, fun g hg => ?_, fun g hg => ?_⟩
  · rcases mem_set hg with rfl | hg
    · exact hf
    · exact o.all g hg
  · rcases mem_set hg with rfl | hg
    · exact hs
    · exact o.sts g hg
  · rcases mem_set hg with rfl | hg
    · exact hn
    · exact o.nxt g hg
theorem clr_keep {su : Su} {fl : List Fl} {ow : List OE} {x : CI} (o : FwOk fl ow) (h : clrE su fl ow x = 0) : FwOk (clrF su fl ow x) ow := by
  rw [clr_yes h]
  obtain ⟨h1, k⟩ := clr_zero h
  have hh := (o.has x.call).trans h1
  have ok := o.all _ (mem_at hh)
  have hl := ok.len
  have hfr := k.frm
  unfold badFrom at hfr
  refine set_keep o hh rfl ⟨ok.wake, ok.slot, ok.ne, ok.legs, .inr k.ok, ok.land, land_bd k.ok ok.slot k.land, ok.name, ok.len⟩ (o.sts (atF fl x.call) (mem_at hh)) fun _ => ⟨?_, ?_⟩
  · have := k.len
    show (atF fl x.call).legs.length < 6
    omega
  · have : ¬ hdT x.tube ≤ hdT (lastL (atF fl x.call)) := fun h => hfr (.inl (.inr h))
    show hdT (lastL (atF fl x.call)) < hdT x.tube
    omega
theorem red_zero {fl : List Fl} {x : CI} (h : redE fl x = 0) : hasK Fl.call fl x.call = true ∧ (atF fl x.call).next ≠ [] ∧ (x.kind = 4 → x.time < hdT (atF fl x.call).next) := by
  unfold redE at h
  split at h
  · omega
  · rename_i h1
    split at h
    · omega
    · rename_i h2
      split at h
      · omega
      · rename_i h3
        exact ⟨by simpa using h1, h2, fun hk => by
          rcases Int.lt_or_le x.time (hdT (atF fl x.call).next) with h4 | h4
          · exact h4
          · exact absurd ⟨hk, h4⟩ h3⟩
theorem getD_left {l : List (List Nd)} {x : List Nd} {k : Nat} (h : k < l.length) : (l ++ [x]).getD k [] = l.getD k [] := by
  rw [List.getD_eq_getElem?_getD, List.getD_eq_getElem?_getD, List.getElem?_append_left h]
theorem getD_end {l : List (List Nd)} {x : List Nd} : (l ++ [x]).getD l.length [] = x := by
  rw [List.getD_eq_getElem?_getD, List.getElem?_append_right (Nat.le_refl _)]; simp
theorem red_keep {fl : List Fl} {ow : List OE} {x : CI} (o : FwOk fl ow) (h : redE fl x = 0) : FwOk (redF fl x) ow := by
  rw [red_yes h]
  obtain ⟨hh, h2, h3⟩ := red_zero h
  have ok := o.all _ (mem_at hh)
  obtain ⟨n1, n2⟩ := o.nxt _ (mem_at hh) h2
  have st := o.sts _ (mem_at hh)
  have z : (0 : Int) ≤ 0 ∧ (0 : Int) ≤ 200000 := by omega
  have hnx : TuOk (atF fl x.call).next := ok.next.resolve_left h2
  have hl0 : 0 < (atF fl x.call).legs.length := List.length_pos_iff.2 ok.ne
  unfold redL
  split
  · refine set_keep o hh rfl ⟨ok.wake, ok.slot, by simp, fun l hl => ?_, .inl rfl, ok.nland, z, ok.name, by simp; omega⟩ (fun k hk => ?_) fun h => absurd rfl h
    · rcases List.mem_append.1 hl with hl | hl
      · exact ok.legs l hl
      · simp at hl; rw [hl]; exact hnx
    · dsimp only at hk ⊢
      simp at hk
      rcases Nat.lt_or_ge (k + 1) (atF fl x.call).legs.length with h4 | h4
      · rw [getD_left h4, getD_left (by omega)]; exact st k h4
      · obtain h5 : k + 1 = (atF fl x.call).legs.length := by omega
        rw [h5, getD_end, getD_left (by omega)]
        have : k = (atF fl x.call).legs.length - 1 := by omega
        rw [this]; exact n2
  · exact set_keep o hh rfl ⟨ok.wake, ok.slot, ok.ne, ok.legs, .inl rfl, ok.land, z, ok.name, ok.len⟩ st fun h => absurd rfl h
theorem fin_keep {fl : List Fl} {ow : List OE} {x : CI} (o : FwOk fl ow) (h : finE fl ow x = 0) : FwOk (finF fl ow x) (finO fl ow x) := by
  obtain ⟨e1, e2⟩ := fin_yes h
  have h0 : endE ow x.call x.by_ = 0 := by
    unfold finE at h
    split at h
    · omega
    · omega
  obtain ⟨o1, o2, o3⟩ := end_ok o.owk h0
  rw [e1, e2]
  exact ⟨o1, by rw [del_map, o2, o.calls, o.pos], fun f hf => o.all f (mem_del hf), fun f hf => o.sts f (mem_del hf), fun f hf => o.nxt f (mem_del hf)⟩
theorem pas_keep {fl : List Fl} {ow : List OE} {x : CI} (o : FwOk fl ow) (h : pasE ow x = 0) : FwOk fl (pasO ow x) := by
  have e : pasO ow x = pasL ow x := if_pos h
  rw [e]
  unfold pasE at h
  unfold pasL
  split
  · rename_i h1; rw [if_pos h1] at h
    obtain ⟨o1, o2⟩ := off_ok o.owk h
    exact ⟨o1, by rw [o2]; exact o.calls, o.all, o.sts, o.nxt⟩
  · rename_i h1; rw [if_neg h1] at h
    obtain ⟨o1, o2⟩ := acc_ok o.owk h
    exact ⟨o1, by rw [o2]; exact o.calls, o.all, o.sts, o.nxt⟩
theorem op_keep {su : Su} {s : Stt} {x : CI} (o : FwOk s.fl s.ow) (h : opE su s x = 0) : FwOk (opF su s x) (opO su s x) := by
  unfold opE at h
  unfold opF opO
  split
  · rename_i h1; rw [if_pos h1] at h; exact file_keep o h
  · rename_i h1; rw [if_neg h1] at h
    split
    · rename_i h2; rw [if_pos h2] at h; exact clr_keep o h
    · rename_i h2; rw [if_neg h2] at h
      split
      · rename_i h3; rw [if_pos h3] at h; exact red_keep o h
      · rename_i h3; rw [if_neg h3] at h
        split
        · rename_i h4; rw [if_pos h4] at h; exact fin_keep o h
        · rename_i h4; rw [if_neg h4] at h; exact pas_keep o h
structure StOk (su : Su) (s : Stt) : Prop where
  gk : gapsOk su.gv
  fw : FwOk s.fl s.ow
  lgk : Okl s.lg
  ln : s.lg.length ≤ 400
  tm : 0 ≤ s.tm ∧ s.tm ≤ 200000
  late : ∀ t, s.tm ≤ t → lateB s.lg t = false
theorem FwOk.nil : FwOk [] [] := ⟨⟨List.Pairwise.nil, fun x h => (by cases h), by simp⟩, rfl, fun f h => (by cases h), fun f h => (by cases h), fun f h => (by cases h)⟩
theorem StOk.zero {su : Su} (h : gapsOk su.gv) : StOk su Stt.zero := ⟨h, FwOk.nil, Okl.nil, by decide, by decide, fun t _ => rfl⟩
theorem nameS_size {c : ByteArray} (h : nameS c = true) : c.size ≤ 120 := by
  have := (name_size h).2
  omega
theorem has_name {fl : List Fl} {ow : List OE} (o : FwOk fl ow) {c : ByteArray} (h : hasO ow c = true) : nameS c = true := by
  obtain ⟨h1, h2⟩ := atO_get h
  rw [← h2]; exact (o.owk.one _ (List.mem_of_getElem? h1)).call
theorem off_has {l : List OE} {c b t : ByteArray} (h : offE l c b t = 0) : hasO l c = true := by
  unfold offE at h
  split at h
  · omega
  · rename_i h1; simpa using h1
theorem acc_has {l : List OE} {c b : ByteArray} (h : accE l c b = 0) : hasO l c = true := by
  unfold accE at h
  split at h
  · omega
  · rename_i h1; simpa using h1
theorem op_name {su : Su} {s : Stt} {x : CI} (o : FwOk s.fl s.ow) (h : opE su s x = 0) : nameS x.call = true := by
  unfold opE at h
  split at h
  · exact (begE_names (file_zero h).beg).1
  · split at h
    · exact has_name o (clr_zero h).1
    · split at h
      · exact has_name o ((o.has x.call).symm.trans (red_zero h).1)
      · split at h
        · unfold finE at h
          split at h
          · omega
          · rename_i h1; exact has_name o (endE_has (Classical.not_not.1 h1))
        · unfold pasE at h
          split at h
          · exact has_name o (off_has h)
          · exact has_name o (acc_has h)
theorem kind_ok {k : Int} (h0 : 0 ≤ k) (h1 : k < 7) : (kindS k).size ≤ 8 ∧ (kindS k).size ≠ 0 ∧ lowS (kindS k) = true := by
  obtain ⟨n, rfl⟩ := Int.eq_ofNat_of_zero_le h0
  have : n < 7 := by omega
  have key : ∀ m : Fin 7, (kindS (m.1 : Nat)).size ≤ 8 ∧ (kindS (m.1 : Nat)).size ≠ 0 ∧ lowS (kindS (m.1 : Nat)) = true := by decide
  exact key ⟨n, this⟩
theorem step_add {su : Su} {s : Stt} {x : CI} (o : StOk su s) (h : stepE su s x = 0) : addE s.lg x.time (kindS x.kind) x.call = 0 := by
  obtain ⟨h1, h2⟩ := stepE_zero h
  obtain ⟨⟨k0, k1⟩, ⟨t0, t1⟩, hl⟩ := preE_zero h1
  obtain ⟨q1, q2, q3⟩ := kind_ok k0 k1
  have := o.tm
  have hn := nameS_size (op_name o.fw h2)
  have hck : checkN (newE s.lg x.time (kindS x.kind) x.call) = 0 := checkN_zero.2 ⟨by show (1 : Int) ≤ _ ∧ _; unfold newE; dsimp only; omega, by show 0 ≤ x.time ∧ x.time ≤ 200000; omega, by show x.call.size ≤ 120; omega, ⟨q1, q2⟩, q3⟩
  unfold addE
  rw [if_neg (by omega), if_neg (by omega), if_neg (by rw [o.late x.time t0]; simp)]
theorem add_lg {l : List EN} {t : Int} {k c : ByteArray} (h : addE l t k c = 0) : addL l t k c = l ++ [newE l t k c] := if_neg (by omega)
theorem stepS_yes {su : Su} {s : Stt} {x : CI} (o : StOk su s) (h : stepE su s x = 0) : stepS su s x = ⟨x.time, opF su s x, opO su s x, s.lg ++ [newE s.lg x.time (kindS x.kind) x.call]⟩ := by
  unfold stepS
  rw [if_neg (by omega), add_lg (step_add o h)]
theorem stepS_no {su : Su} {s : Stt} {x : CI} (h : stepE su s x ≠ 0) : stepS su s x = s := if_pos h
theorem step_keep {su : Su} {s : Stt} {x : CI} (o : StOk su s) : StOk su (stepS su s x) := by
  by_cases h : stepE su s x = 0
  · rw [stepS_yes o h]
    obtain ⟨h1, h2⟩ := stepE_zero h
    obtain ⟨⟨k0, k1⟩, ⟨t0, t1⟩, hl⟩ := preE_zero h1
    have ha := step_add o h
    have hk := (add_ok o.lgk x.time (kindS x.kind) x.call).1
    rw [add_lg ha] at hk
    have := o.tm
    refine ⟨o.gk, op_keep o.fw h2, hk, by simp; omega, ⟨by show 0 ≤ x.time; omega, t1⟩, fun t ht => ?_⟩
    dsimp only at ht ⊢
    unfold lateB
    rw [lastT_app]
    show decide (t < x.time) = false
    exact decide_eq_false (by omega)
  · rw [stepS_no h]; exact o
end Go.Proofs.YtaegeaajhbfkgaaGreatDoorA

