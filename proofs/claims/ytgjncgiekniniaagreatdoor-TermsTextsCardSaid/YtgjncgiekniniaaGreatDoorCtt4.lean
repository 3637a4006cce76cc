/- TermsTexts.card: part 4 of the proof. -/
import Derived.Test.YtgjncgiekniniaaGreatDoorCtt3
import Derived.Deep.DeepHandedRow
import Derived.Lib.LaidTab
section
set_option linter.unusedVariables false
set_option linter.unusedSimpArgs false
namespace Go.Proofs.YtgjncgiekniniaaGreatDoor.A
open Go
def cutNeg (s : List UInt8) : List UInt8 × Bool := match s with | [] => ([], false) | b :: t => if b = 45 then (t, true) else (b :: t, false)
theorem cutNeg_len (s : List UInt8) : (cutNeg s).1.length ≤ s.length := by
  unfold cutNeg; split
  · simp
  · split <;> simp
theorem strings_Cut (s : List UInt8) : z33.F s [45] = some (cutNeg s) := by
  unfold z33.F z32.F z31.F cutNeg
  cases s with
  | nil => rfl
  | cons b t =>
    have e1 : ([45] : List UInt8).length = 1 := rfl
    have e2 : Int.toNat ((1 : Nat) : Int) = 1 := rfl
    simp only [e1, e2]
    rw [bif_t (by simp; omega), if_pos (by simp; omega)]
    simp only [Option.bind_some, List.take_succ_cons, List.take_zero, List.drop_succ_cons, List.drop_zero, List.cons.injEq, and_true]
    by_cases h : b = 45
    · rw [decide_eq_true h, if_pos h, if_pos (by simp; omega)]; rfl
    · rw [decide_eq_false h, if_neg h]; rfl
def mWhole (s : List UInt8) : Int × Int :=
  if (mDigits (cutNeg s).1).2 ≠ 0 then (0, (mDigits (cutNeg s).1).2)
  else if (cutNeg s).2 && decide ((mDigits (cutNeg s).1).1 = 0) then (0, 5)
  else (if (cutNeg s).2 then -((mDigits (cutNeg s).1).1 : Int) else (mDigits (cutNeg s).1).1, 0)
theorem whole_Parse (s : List UInt8) : z38.F s = some (lb (mWhole s).1.natAbs, neg (mWhole s).1, (mWhole s).2) := by
  unfold z38.F mWhole
  rw [strings_Cut]
  simp only [Option.bind_some]
  rw [digits_Parse]
  simp only [Option.bind_some]
  generalize mDigits (cutNeg s).1 = d
  generalize (cutNeg s).2 = below
  by_cases h : d.2 = 0
  · have h' : ¬ (d.2 ≠ 0) := fun hh => hh h
    rw [decide_eq_true h, if_neg h']
    simp only [Bool.not_true, cond_false]
    cases below with
    | true =>
      simp only [cond_true, Bool.true_and, if_true]
      rw [nat_Zero]
      simp only [Option.bind_some]
      by_cases h0 : d.1 = 0
      · rw [decide_eq_true h0]
        simp only [if_true, cond_true]
        rw [show Int.natAbs 0 = 0 from rfl, lb_zero]; rfl
      · rw [decide_eq_false h0]
        simp only [cond_false]
        rw [whole_at (z := -(d.1 : Int)) (by omega) (.inl ⟨rfl, by omega⟩)]
        simp
    | false =>
      simp only [cond_false, Bool.false_and]
      rw [whole_at (z := (d.1 : Int)) (by omega) (.inr ⟨rfl, by omega⟩)]
      simp
  · rw [decide_eq_false h, if_pos h]
    simp only [Bool.not_false, cond_true]
    rw [show Int.natAbs 0 = 0 from rfl, lb_zero]; rfl
def cutDot : List UInt8 → List UInt8 × Option (List UInt8)
  | [] => ([], none)
  | b :: t => if b = 46 then ([], some t) else (b :: (cutDot t).1, (cutDot t).2)
theorem cutDot_none : ∀ {t : List UInt8}, (cutDot t).2 = none → (cutDot t).1 = t
  | [], _ => rfl
  | b :: t, h => by
    unfold cutDot at h ⊢
    split at h
    · simp at h
    · rename_i hb
      rw [if_neg hb]
      simp only at h ⊢
      rw [cutDot_none h]
theorem cutDot_some : ∀ {t r : List UInt8}, (cutDot t).2 = some r → t = (cutDot t).1 ++ 46 :: r
  | [], r, h => by simp [cutDot] at h
  | b :: t, r, h => by
    unfold cutDot at h ⊢
    split at h
    · rename_i hb
      rw [if_pos hb, hb]
      simp only [Option.some.injEq] at h
      rw [h]; rfl
    · rename_i hb
      rw [if_neg hb]
      simp only at h ⊢
      conv => lhs; rw [cutDot_some h]
      rfl
theorem byteIdx_cons (b : UInt8) (t : List UInt8) (c : UInt8) : byteIdx (b :: t) c = if b = c then 0 else if byteIdx t c < 0 then -1 else byteIdx t c + 1 := by
  unfold byteIdx
  rw [List.length_cons, List.range_succ_eq_map, List.find?_cons]
  by_cases h : b = c
  · simp [h]
  · have h1 : ((b :: t).getD 0 0 == c) = false := by simp [h]
    rw [h1, if_neg h]
    simp only
    rw [List.find?_map]
    have e : ((fun i => (b :: t).getD i 0 == c) ∘ Nat.succ) = fun i => t.getD i 0 == c := by funext i; simp [List.getD]
    rw [e]
    cases (List.range t.length).find? fun i => t.getD i 0 == c with
    | none => simp
    | some i => simp; omega
theorem byteIdx_dot : ∀ t : List UInt8, byteIdx t 46 = if (cutDot t).2 = none then -1 else ((cutDot t).1.length : Int)
  | [] => by simp [byteIdx, cutDot]
  | b :: t => by
    have e : cutDot (b :: t) = if b = 46 then ([], some t) else (b :: (cutDot t).1, (cutDot t).2) := by rw [cutDot]
    rw [byteIdx_cons, byteIdx_dot t, e]
    by_cases h : b = 46
    · simp [h]
    · rw [if_neg h, if_neg h]
      by_cases h2 : (cutDot t).2 = none
      · simp [h2]
      · simp [h2]; omega
def plainB (s : List UInt8) : Bool := !decide (s = []) && digs s
def zeros (s : List UInt8) : Bool := s.all (· == 48)
theorem dec_plain (s : List UInt8) (h : s.length ≤ 9223372036854775807) : z45.F s = some (plainB s) := by
  unfold z45.F plainB
  by_cases h0 : s = []
  · rw [decide_eq_true h0]; rfl
  · rw [decide_eq_false h0]
    obtain ⟨r, t1, t2⟩ := trim_digits s h
    simp only [Bool.not_false, cond_true]
    rw [t1]
    simp only [Option.bind_some]
    rw [t2]; simp
theorem has_zero (b : UInt8) : ([48] : List UInt8).contains b = (b == 48) := by
  simp only [List.contains_cons, List.contains_nil, Bool.or_false]
theorem trim_zeros (s : List UInt8) (hs : s.length ≤ 9223372036854775807) : ∃ r, z3.F s [48] = some r ∧ decide (r = []) = zeros s := by
  unfold z3.F
  rw [if_pos ⟨hs, by decide, by decide⟩]
  refine ⟨_, rfl, ?_⟩
  rw [Bool.eq_iff_iff, decide_eq_true_iff, trim_nil, zeros, List.all_eq_true]
  simp only [has_zero]
theorem trimL_spec : ∀ {s : List UInt8}, digits s → tv 0 (trimL s [48]) = tv 0 s ∧ digits (trimL s [48]) ∧ (trimL s [48]).length ≤ s.length ∧ (trimL s [48] ≠ [] → ((trimL s [48]).getD 0 0).toNat ≠ 48)
  | [], h => by simp [trimL, tv, digits]
  | b :: s, h => by
    have ih := trimL_spec (s := s) fun x hx => h x (by simp [hx])
    by_cases hb : b = 48
    · have e : trimL (b :: s) [48] = trimL s [48] := by unfold trimL; exact List.dropWhile_cons_of_pos (by rw [hb]; decide)
      rw [e]
      refine ⟨?_, ih.2.1, by rw [List.length_cons]; omega, ih.2.2.2⟩
      rw [ih.1, hb]; rfl
    · have e : trimL (b :: s) [48] = b :: s := by unfold trimL; exact List.dropWhile_cons_of_neg (by simp [hb])
      rw [e]
      refine ⟨rfl, h, Nat.le_refl _, fun _ hh => hb (UInt8.toNat_inj.1 hh)⟩
theorem parse_trim {s : List UInt8} (hd : digits s) (hl : s.length ≤ 4096) : z37.F (if trimL s [48] = [] then [48] else trimL s [48]) = some (lb (tv 0 s).toNat, 0) := by
  obtain ⟨h1, h2, h3, h4⟩ := trimL_spec hd
  rw [digits_Parse]
  by_cases h : trimL s [48] = []
  · rw [if_pos h]
    rw [h] at h1
    rw [← h1]; rfl
  · rw [if_neg h, ← h1]
    unfold mDigits
    have : numOK (trimL s [48]) = true := by
      unfold numOK
      rw [decide_eq_false h, digs_iff.2 h2, decide_eq_false (h4 h)]; simp
    rw [if_neg (by omega), this]; rfl
def decOf (below : Bool) (a : List UInt8) (o : Option (List UInt8)) : Int × Nat × Int :=
  if !plainB a || (o.isSome && !plainB (o.getD [])) || (decide (1 < a.length) && decide ((a.getD 0 0).toNat = 48)) then (0, 0, 5)
  else if below && zeros (a ++ o.getD []) then (0, 0, 5)
  else if 64 < (o.getD []).length then (0, 0, 10)
  else (if below then -tv 0 (a ++ o.getD []) else tv 0 (a ++ o.getD []), (o.getD []).length, 0)
def mDec (s : List UInt8) : Int × Nat × Int := if 4096 < s.length then (0, 0, 7) else decOf (cutNeg s).2 (cutDot (cutNeg s).1).1 (cutDot (cutNeg s).1).2
abbrev decR (m : Int × Nat × Int) : List Int × Bool × Int × Int := (lb m.1.natAbs, neg m.1, (m.2.1 : Int), m.2.2)
theorem decR0 (e : Int) : decR (0, 0, e) = ([], false, 0, e) := by unfold decR; simp [lb_zero]
theorem sign_of (n : Int) (h : 0 ≤ n) (below : Bool) : z17.F (lb n.toNat) below = some (lb (if below then -n else n).natAbs, neg (if below then -n else n)) := by
  cases below
  · rw [whole_at (z := n) (by omega) (.inr ⟨rfl, h⟩)]; rfl
  · rw [whole_at (z := -n) (by omega) (.inl ⟨rfl, by omega⟩)]; rfl
theorem dec_j14 {rest a b : List UInt8} {below lead : Bool} (h1 : rest.take a.length = a) (h2 : rest.drop (a.length + 1) = b) (ha : digits a) (hb : digits b) (hl : a.length + b.length ≤ 4096) :
    z46.j14 lead (rest, below) (a.length : Int) = some (decR (if lead then (0, 0, 5) else if below && zeros (a ++ b) then (0, 0, 5) else if 64 < b.length then (0, 0, 10) else (if below then -tv 0 (a ++ b) else tv 0 (a ++ b), b.length, 0))) := by
  have e1 : (wr .i64 ((a.length : Int) + 1)).toNat = a.length + 1 := by rw [wr_i64 (by omega) (by omega)]; omega
  have hab : digits (a ++ b) := fun x hx => (List.mem_append.1 hx).elim (ha x) (hb x)
  have hln : (a ++ b).length ≤ 4096 := by rw [List.length_append]; exact hl
  have key : z46.j16 false (rest, below) (a.length : Int) = some (decR (if 64 < b.length then (0, 0, 10) else (if below then -tv 0 (a ++ b) else tv 0 (a ++ b), b.length, 0))) := by
    unfold z46.j16
    simp only [e1, Int.toNat_natCast, h1, h2, cond_false]
    by_cases h64 : 64 < b.length
    · rw [bif_t (by omega), if_pos h64, decR0]
    · rw [bif_f (by omega), if_neg h64, if_pos (by omega)]
      have et : z4.F (a ++ b) [48] = some (trimL (a ++ b) [48]) := by unfold z4.F; rw [if_pos ⟨by decide, by decide⟩]
      rw [et]
      simp only [Option.bind_some]
      have ep := parse_trim hab hln
      have fin : ∀ x, z37.F x = some (lb (tv 0 (a ++ b)).toNat, 0) → z46.j18 x (rest, below) (a.length : Int) = some (decR (if below then -tv 0 (a ++ b) else tv 0 (a ++ b), b.length, 0)) := fun x hx => by
        unfold z46.j18
        rw [hx]
        simp only [Option.bind_some, e1, h2]
        rw [sign_of _ (tv_bound hab).1]
        rfl
      by_cases ht : trimL (a ++ b) [48] = []
      · rw [if_pos ht] at ep
        rw [bif_t ht]; exact fin _ ep
      · rw [if_neg ht] at ep
        rw [bif_f ht]; exact fin _ ep
  unfold z46.j14
  simp only [e1, Int.toNat_natCast, h1, h2]
  cases lead with
  | true => simp only [cond_true, if_true]; rw [decR0]
  | false =>
    simp only [cond_false]
    rw [if_neg Bool.false_ne_true]
    cases below with
    | false => simp only [cond_false, Bool.false_and]; rw [key]; rfl
    | true =>
      obtain ⟨r, t1, t2⟩ := trim_zeros (a ++ b) (by omega)
      simp only [cond_true, Bool.true_and]
      rw [if_pos (by omega), t1]
      simp only [Option.bind_some]
      rw [t2]
      cases hz : zeros (a ++ b) with
      | true => unfold z46.j16; simp only [cond_true, if_true]; rw [decR0]
      | false => rw [key]; rfl
theorem dec_j22 {a : List UInt8} {below lead : Bool} (ha : digits a) (hl : a.length ≤ 4096) :
    z46.j22 lead (a, below) = some (decR (if lead then (0, 0, 5) else if below && zeros a then (0, 0, 5) else (if below then -tv 0 a else tv 0 a, 0, 0))) := by
  have key : z46.j24 (a, below) = some (decR (if below then -tv 0 a else tv 0 a, 0, 0)) := by
    unfold z46.j24
    simp only [List.append_nil]
    rw [if_pos (by simp; omega)]
    have et : z4.F a [48] = some (trimL a [48]) := by unfold z4.F; rw [if_pos ⟨by decide, by decide⟩]
    rw [et]
    simp only [Option.bind_some]
    have ep := parse_trim ha hl
    have fin : ∀ x, z37.F x = some (lb (tv 0 a).toNat, 0) → z46.j26 x (a, below) = some (decR (if below then -tv 0 a else tv 0 a, 0, 0)) := fun x hx => by
      unfold z46.j26
      rw [hx]
      simp only [Option.bind_some]
      rw [sign_of _ (tv_bound ha).1]
      rfl
    by_cases ht : trimL a [48] = []
    · rw [if_pos ht] at ep
      rw [bif_t ht]; exact fin _ ep
    · rw [if_neg ht] at ep
      rw [bif_f ht]; exact fin _ ep
  unfold z46.j22
  simp only [List.append_nil]
  cases lead with
  | true => simp only [cond_true, if_true]; rw [decR0]
  | false =>
    simp only [cond_false]
    rw [if_neg Bool.false_ne_true]
    cases below with
    | false => simp only [cond_false, Bool.false_and]; rw [key]; rfl
    | true =>
      obtain ⟨r, t1, t2⟩ := trim_zeros a (by omega)
      simp only [cond_true, Bool.true_and]
      rw [if_pos (by simp; omega), t1]
      simp only [Option.bind_some]
      rw [t2]
      cases hz : zeros a with
      | true => simp only [cond_true, if_true]; rw [decR0]
      | false => simp only [cond_false]; rw [key]; rfl
theorem plainB_digits {s : List UInt8} (h : plainB s = true) : digits s ∧ s ≠ [] := by
  unfold plainB at h
  rw [Bool.and_eq_true] at h
  exact ⟨digs_iff.1 h.2, by simpa using h.1⟩
theorem dec_lead {a : List UInt8} (hne : a ≠ []) {α : Type} (f : Bool → Option α) :
    (bif decide ((a.length : Int) > 1) then (if (0 : Int) ≤ (0 : Int) ∧ (0 : Int) < (a.length : Int) then f (decide (((a.getD 0 0).toNat : Int) = (48 : Int))) else none) else f false) = f (decide (1 < a.length) && decide ((a.getD 0 0).toNat = 48)) := by
  have hpos := List.length_pos_iff.2 hne
  by_cases h : 1 < a.length
  · rw [bif_t (by omega), if_pos (by omega), decide_eq_true h, Bool.true_and]
    congr 1; exact decide_eq_decide.2 (by omega)
  · rw [bif_f (by omega), decide_eq_false h, Bool.false_and]
theorem dec_Parse (s : List UInt8) : z46.F s = some (decR (mDec s)) := by
  unfold z46.F mDec
  by_cases h0 : 4096 < s.length
  · rw [bif_t (by omega), if_pos h0, decR0]
  · rw [bif_f (by omega), if_neg h0, strings_Cut]
    simp only [Option.bind_some]
    have hlen := cutNeg_len s
    generalize cutNeg s = c at *
    obtain ⟨rest, below⟩ := c
    simp only at hlen ⊢
    have hp0 : z45.F ([] : List UInt8) = some false := rfl
    by_cases hdot : ([46] : List UInt8) = rest
    · subst hdot
      rw [bif_t rfl]
      simp only [List.length_singleton, List.take_zero, hp0, Option.bind_some]
      unfold z46.j4
      simp only [Bool.not_false, cond_true]
      have : decOf below (cutDot [46]).1 (cutDot [46]).2 = (0, 0, 5) := by simp [cutDot, decOf, plainB]
      rw [this, decR0]
      rfl
    · rw [bif_f hdot, if_pos (by simp)]
      have hi : z2.F rest ((([46] : List UInt8).getD 0 0).toNat : Int) = some (byteIdx rest 46) := rfl
      rw [hi]
      simp only [Option.bind_some]
      rw [byteIdx_dot]
      cases ho : (cutDot rest).2 with
      | none =>
        have ha := cutDot_none ho
        rw [if_pos rfl, bif_f (by omega), ha, dec_plain _ (by omega)]
        simp only [Option.bind_some]
        unfold decOf
        simp only [Option.isSome_none, Bool.false_and, Bool.or_false, Option.getD_none, List.append_nil, List.length_nil]
        cases hpl : plainB rest with
        | false => unfold z46.j22; simp only [Bool.not_false, cond_true, Bool.true_or, if_true]; rw [decR0]
        | true =>
          obtain ⟨hd, hne⟩ := plainB_digits hpl
          simp only [Bool.not_true, cond_false, Bool.false_or]
          rw [dec_lead hne fun b => z46.j22 b (rest, below), dec_j22 hd (by omega)]
          rfl
      | some b =>
        have hab := cutDot_some ho
        generalize (cutDot rest).1 = a at *
        have hl : rest.length = a.length + (b.length + 1) := by rw [hab]; simp
        have t1 : rest.take a.length = a := by rw [hab]; simp
        have t2 : rest.drop (a.length + 1) = b := by
          rw [hab, ← List.drop_drop]; simp
        have e1 : (wr .i64 ((a.length : Int) + 1)) = ((a.length + 1 : Nat) : Int) := by rw [wr_i64 (by omega) (by omega)]; omega
        rw [if_neg (by simp), bif_t (by omega), if_pos (by omega)]
        simp only [e1, Int.toNat_natCast, t1, t2]
        rw [if_pos (by omega), dec_plain a (by omega)]
        simp only [Option.bind_some]
        unfold decOf
        simp only [Option.isSome_some, Bool.true_and, Option.getD_some]
        cases hpl : plainB a with
        | false => unfold z46.j14; simp only [Bool.not_false, cond_true, Bool.true_or, if_true]; rw [decR0]
        | true =>
          obtain ⟨hd, hne⟩ := plainB_digits hpl
          simp only [Bool.not_true, cond_false, Bool.false_or]
          rw [dec_plain b (by omega)]
          simp only [Option.bind_some]
          cases hpb : plainB b with
          | false => unfold z46.j14; simp only [Bool.not_false, cond_true, Bool.true_or, if_true]; rw [decR0]
          | true =>
            obtain ⟨hdb, hneb⟩ := plainB_digits hpb
            simp only [Bool.not_true, cond_false, Bool.false_or]
            rw [dec_lead hne fun x => z46.j14 x (rest, below) (a.length : Int), dec_j14 t1 t2 hd hdb (by omega)]
end Go.Proofs.YtgjncgiekniniaaGreatDoor.A
end
section
set_option linter.unusedVariables false
set_option linter.unusedSimpArgs false
namespace Go.Proofs.YtgjncgiekniniaaGreatDoor.A
open Go
abbrev leap (y : Int) : Prop := y % 4 = 0 ∧ ¬ y % 100 = 0 ∨ y % 400 = 0
abbrev goodY (y : Int) : Prop := 1 ≤ y ∧ y ≤ 9999
def dDays (y m : Int) : Int := if ¬ goodY y ∨ m < 1 ∨ 12 < m then 0 else if m = 2 then (if leap y then 29 else 28) else if m = 4 ∨ m = 6 ∨ m = 9 ∨ m = 11 then 30 else 31
abbrev right (y m d : Int) : Prop := 1 ≤ d ∧ d ≤ dDays y m
theorem tmod_z {a b : Int} (hb : 0 < b) : Int.tmod a b = 0 ↔ a % b = 0 := by
  rw [← Int.dvd_iff_tmod_eq_zero, ← Int.dvd_iff_emod_eq_zero]
theorem date_good (y : Int) : z79.F y = some (decide (goodY y)) := by
  unfold z79.F
  by_cases h : y ≥ 1
  · rw [bif_t h]; congr 1; exact decide_eq_decide.2 (by omega)
  · rw [bif_f h]; congr 1; symm; exact decide_eq_false (by omega)
theorem date_Leap (y : Int) : z80.F y = some (decide (goodY y ∧ leap y)) := by
  unfold z80.F
  rw [date_good]
  simp only [Option.bind_some, tmod_z (show (0 : Int) < 4 by decide), tmod_z (show (0 : Int) < 100 by decide), tmod_z (show (0 : Int) < 400 by decide)]
  by_cases h : goodY y
  · rw [bif_t h]
    by_cases h4 : y % 4 = 0
    · rw [bif_t h4]
      by_cases h1 : y % 100 = 0
      · rw [decide_eq_true h1]; simp only [Bool.not_true, cond_false]; congr 1; exact decide_eq_decide.2 (by omega)
      · rw [decide_eq_false h1]; simp only [Bool.not_false, cond_true]; congr 1; symm; exact decide_eq_true (by omega)
    · rw [bif_f h4]; congr 1; exact decide_eq_decide.2 (by omega)
  · rw [bif_f h]; congr 1; symm; exact decide_eq_false (fun hh => h hh.1)
theorem date_Days (y m : Int) : z81.F y m = some (dDays y m) := by
  unfold z81.F dDays
  rw [date_good]
  simp only [Option.bind_some]
  by_cases hy : goodY y
  · rw [decide_eq_true hy]
    simp only [Bool.not_true, cond_false]
    by_cases h1 : m < 1
    · rw [bif_t h1, if_pos (by omega)]
    · rw [bif_f h1]
      by_cases h12 : m > 12
      · rw [bif_t h12, if_pos (by omega)]
      · rw [bif_f h12, if_neg (by omega)]
        by_cases h2 : m = 2
        · subst h2
          rw [bif_t rfl, if_pos rfl, date_Leap]
          simp only [Option.bind_some]
          by_cases hl : leap y
          · rw [decide_eq_true ⟨hy, hl⟩, if_pos hl]; rfl
          · rw [decide_eq_false (fun hh => hl hh.2), if_neg hl]; rfl
        · rw [bif_f h2, if_neg h2]
          have : m = 1 ∨ m = 3 ∨ m = 4 ∨ m = 5 ∨ m = 6 ∨ m = 7 ∨ m = 8 ∨ m = 9 ∨ m = 10 ∨ m = 11 ∨ m = 12 := by omega
          rcases this with rfl | rfl | rfl | rfl | rfl | rfl | rfl | rfl | rfl | rfl | rfl <;> rfl
  · rw [decide_eq_false hy, if_pos (.inl hy)]; rfl
theorem dDays_le (y m : Int) : 0 ≤ dDays y m ∧ dDays y m ≤ 31 := by
  unfold dDays; split
  · omega
  · split
    · split <;> omega
    · split <;> omega
theorem right_good {y m d : Int} (h : right y m d) : goodY y ∧ 1 ≤ m ∧ m ≤ 12 ∧ 1 ≤ d ∧ d ≤ 31 := by
  have h1 := h.2
  have h2 := dDays_le y m
  unfold dDays at h1
  split at h1
  · have := h.1; omega
  · rename_i hn
    have := h.1
    refine ⟨by omega, by omega, by omega, by omega, by omega⟩
theorem date_Check (y m d : Int) : z82.F y m d = some (if right y m d then 0 else 11) := by
  unfold z82.F
  rw [date_Days]
  simp only [Option.bind_some]
  by_cases h : d < 1
  · rw [bif_t h, if_neg (by omega)]
  · rw [bif_f h]
    by_cases h' : d > dDays y m
    · rw [bif_t h', if_neg (by omega)]
    · rw [bif_f h', if_pos (by omega)]
def addM (y m d k : Int) : Int × Int × Int := (((12 * y + m - 1) + k) / 12, ((12 * y + m - 1) + k) % 12 + 1, min d (dDays (((12 * y + m - 1) + k) / 12) (((12 * y + m - 1) + k) % 12 + 1)))
abbrev okM (y m k : Int) : Prop := 12 ≤ (12 * y + m - 1) + k ∧ (12 * y + m - 1) + k < 120000
theorem min_if (a b : Int) : (if a < b then a else b) = min b a := by omega
theorem month_Add {y m d k : Int} : z83.F y m d k = some (if right y m d ∧ okM y m k then ((addM y m d k).1, (addM y m d k).2.1, (addM y m d k).2.2, 0) else (0, 0, 0, 11)) := by
  unfold z83.F
  rw [date_Check]
  simp only [Option.bind_some]
  by_cases h : right y m d
  · have hg := right_good h
    rw [if_pos h]
    simp only [decide_true, Bool.not_true, cond_false]
    by_cases h1 : k < -119988
    · rw [bif_t h1, if_neg (by omega)]
    · rw [bif_f h1]
      by_cases h2 : k > 119988
      · rw [bif_t h2, if_neg (by omega)]
      · rw [bif_f h2]
        unfold z83.j2 z83.j3
        rw [wr_i64 (n := 12 * y) (by omega) (by omega), wr_i64 (n := 12 * y + m) (by omega) (by omega), wr_i64 (n := 12 * y + m - 1) (by omega) (by omega), wr_i64 (n := 12 * y + m - 1 + k) (by omega) (by omega)]
        by_cases h3 : 12 * y + m - 1 + k < 12
        · rw [bif_t h3, if_neg (by omega)]
        · rw [bif_f h3, tdiv_ediv (by omega), wr_i64 (n := (12 * y + m - 1 + k) / 12) (by omega) (by omega)]
          by_cases h4 : (12 * y + m - 1 + k) / 12 > 9999
          · rw [bif_t h4, if_neg (by omega)]
          · rw [bif_f h4, tmod_emod (by omega), wr_i64 (n := (12 * y + m - 1 + k) % 12 + 1) (by omega) (by omega), date_Days, if_pos (by exact ⟨h, by omega⟩)]
            simp only [Option.bind_some, min_if]
            rfl
  · rw [if_neg h, if_neg (fun hh => h hh.1)]; rfl
def aheadY (y : Int) : Int := 365 * (y - 1) + (y - 1) / 4 - (y - 1) / 100 + (y - 1) / 400
def cumD (y m : Int) : Int := (367 * m - 362) / 12 - (if m ≤ 2 then 0 else if leap y then 1 else 2)
def num (y m d : Int) : Int := aheadY y + cumD y m + d
end Go.Proofs.YtgjncgiekniniaaGreatDoor.A
end
section
set_option linter.unusedVariables false
set_option linter.unusedSimpArgs false
namespace Go.Proofs.YtgjncgiekniniaaGreatDoor.A
open Go
theorem tv_sz {s : List UInt8} (h : digits s) : sz (tv 0 s).toNat ≤ s.length := sz_le (by have := tv_bound h; omega)
theorem mDigits_sz (s : List UInt8) : sz (mDigits s).1 ≤ 4096 := by
  have h0 : sz 0 ≤ 4096 := by rw [sz_zero]; omega
  unfold mDigits
  split
  · exact h0
  · split
    · rename_i h1 h2
      unfold numOK at h2
      simp only [Bool.and_eq_true] at h2
      have := tv_sz (digs_iff.1 h2.1.2)
      show sz (tv 0 s).toNat ≤ 4096
      omega
    · exact h0
theorem mWhole_sz (s : List UInt8) : sz (mWhole s).1.natAbs ≤ 4096 := by
  have h := mDigits_sz (cutNeg s).1
  have h0 : sz 0 ≤ 4096 := by rw [sz_zero]; omega
  unfold mWhole
  split
  · exact h0
  · split
    · exact h0
    · show sz (if _ then _ else _ : Int).natAbs ≤ _
      split
      · rw [Int.natAbs_neg]; exact h
      · exact h
def mMoney (s : List UInt8) : Int × Int :=
  if (mWhole s).2 ≠ 0 then (0, (mWhole s).2) else if (mWhole s).1 < 0 ∨ 10 ^ 30 < (mWhole s).1 then (0, 19) else ((mWhole s).1, 0)
theorem terms_greatest : z41.F = some (lb (Int.natAbs (10 ^ 30)), neg (10 ^ 30)) := by
  unfold z41.F
  have h := digits_Ten (t := 30) (by decide)
  rw [show ((30 : Nat) : Int) = 30 from rfl] at h
  rw [h]
  simp only [Option.bind_some]
  rw [whole_at (z := 10 ^ 30) (by decide) (.inr ⟨rfl, by decide⟩)]
  rfl
theorem terms_Money (s : List UInt8) : z42.F s = some (lb (mMoney s).1.natAbs, neg (mMoney s).1, (mMoney s).2) := by
  have hz := mWhole_sz s
  unfold z42.F mMoney
  rw [whole_Parse]
  simp only [Option.bind_some]
  generalize mWhole s = w at *
  have hn : lb (Int.natAbs 0) = [] := lb_zero
  by_cases h : w.2 = 0
  · rw [decide_eq_true h, if_neg (by omega)]
    simp only [Bool.not_true, cond_false]
    rw [whole_Sign]
    simp only [Option.bind_some]
    by_cases h1 : w.1 < 0
    · rw [bif_t (cmpI_lt0.2 h1), if_pos (.inl h1), hn]; rfl
    · rw [bif_f (fun h => h1 (cmpI_lt0.1 h)), terms_greatest]
      simp only [Option.bind_some]
      have l1 := lb_sz w.1.natAbs
      have l2 : (lb (Int.natAbs (10 ^ 30))).length ≤ 31 := Nat.le_trans (lb_sz _) (sz_le (by decide))
      have l3 : sz w.1.natAbs ≤ 4096 := hz
      rw [whole_Cmp (by omega)]
      simp only [Option.bind_some]
      by_cases h2 : 10 ^ 30 < w.1
      · rw [bif_t (cmpI_gt0.2 h2), if_pos (.inr h2), hn]; rfl
      · rw [bif_f (fun h => h2 (cmpI_gt0.1 h)), if_neg (by omega)]
  · rw [decide_eq_false h, if_pos h, hn]; rfl
theorem mDec_bound (s : List UInt8) : (mDec s).2.1 ≤ 64 ∧ sz (mDec s).1.natAbs ≤ 4096 := by
  have h0 : sz (Int.natAbs 0) ≤ 4096 := by show sz 0 ≤ 4096; rw [sz_zero]; omega
  unfold mDec
  split
  · exact ⟨Nat.zero_le _, h0⟩
  · rename_i hl
    have hc := cutNeg_len s
    generalize (cutNeg s).1 = t at *
    unfold decOf
    split
    · exact ⟨Nat.zero_le _, h0⟩
    · rename_i hp
      split
      · exact ⟨Nat.zero_le _, h0⟩
      · split
        · exact ⟨Nat.zero_le _, h0⟩
        · rename_i h64
          refine ⟨by show List.length _ ≤ 64; omega, ?_⟩
          have hd : digits ((cutDot t).1 ++ (cutDot t).2.getD []) ∧ ((cutDot t).1 ++ (cutDot t).2.getD []).length ≤ 4096 := by
            simp only [Bool.or_eq_true, not_or, Bool.not_eq_true', Bool.not_eq_false, Bool.and_eq_true] at hp
            obtain ⟨⟨p1, p2⟩, p3⟩ := hp
            have q1 := (plainB_digits (by simpa using p1)).1
            cases ho : (cutDot t).2 with
            | none =>
              have := cutDot_none ho
              simp only [Option.getD_none, List.append_nil]
              exact ⟨q1, by rw [this]; omega⟩
            | some b =>
              have := cutDot_some ho
              rw [ho] at p2
              have q2 := (plainB_digits (s := b) (by simpa using p2)).1
              simp only [Option.getD_some]
              refine ⟨fun x hx => (List.mem_append.1 hx).elim (q1 x) (q2 x), ?_⟩
              have hlen : t.length = (cutDot t).1.length + (b.length + 1) := by
                conv => lhs; rw [this]
                simp
              rw [List.length_append]; omega
          have h1 := Nat.le_trans (tv_sz hd.1) hd.2
          have h2 := (tv_bound hd.1).1
          show sz (if _ then _ else _ : Int).natAbs ≤ _
          have e : ∀ z : Int, 0 ≤ z → z.natAbs = z.toNat := fun z hz => by omega
          split
          · rw [Int.natAbs_neg, e _ h2]; exact h1
          · rw [e _ h2]; exact h1
theorem dec_ten {t : Nat} (ht : t ≤ 4096) : z51.F (t : Int) = some (lb (10 ^ t : Nat), false) := by
  unfold z51.F
  rw [digits_Ten ht]
  simp only [Option.bind_some]
  rw [whole_Of]; rfl
theorem dec_ten' {t : Nat} (ht : t ≤ 4096) : z51.F (t : Int) = some (lb ((10 ^ t : Nat) : Int).natAbs, neg ((10 ^ t : Nat) : Int)) := by
  rw [dec_ten ht]
  have : neg ((10 ^ t : Nat) : Int) = false := decide_eq_false (Int.not_lt.2 (Int.natCast_nonneg _))
  rw [this]; rfl
theorem sz_ten (t : Nat) : sz (10 ^ t) ≤ t + 1 := sz_le (by rw [Nat.pow_succ]; have : 0 < 10 ^ t := Nat.pow_pos (by decide); omega)
theorem dec_at {c : Int} {s t : Nat} (h : s ≤ t) (ht : t ≤ 4096) (hc : sz c.natAbs ≤ 100000000) : z52.F (lb c.natAbs) (neg c) (s : Int) (t : Int) = some (lb (c * (10 ^ (t - s) : Nat)).natAbs, neg (c * (10 ^ (t - s) : Nat))) := by
  have l1 := lb_sz c.natAbs
  have l2 := lb_sz ((10 ^ (t - s) : Nat) : Int).natAbs
  have l3 := sz_ten (t - s)
  have l4 : sz ((10 ^ (t - s) : Nat) : Int).natAbs = sz (10 ^ (t - s)) := rfl
  unfold z52.F
  rw [wr_i64 (by omega) (by omega), show (t : Int) - s = ((t - s : Nat) : Int) by omega, dec_ten' (by omega)]
  simp only [Option.bind_some]
  rw [whole_Mul (by omega)]
  rfl
theorem dec_Cmp {c c' : Int} {s s' : Nat} (hs : s ≤ 2000) (hs' : s' ≤ 2000) (hc : sz c.natAbs ≤ 100000000) (hc' : sz c'.natAbs ≤ 100000000) :
    z53.F (lb c.natAbs) (neg c) (s : Int) (lb c'.natAbs) (neg c') (s' : Int) = some (cmpI (c * (10 ^ (max s s' - s) : Nat)) (c' * (10 ^ (max s s' - s') : Nat))) := by
  have e : (if (s' : Int) > (s : Int) then (s' : Int) else (s : Int)) = ((max s s' : Nat) : Int) := by split <;> omega
  have m1 := sz_mul c.natAbs (10 ^ (max s s' - s))
  have m2 := sz_mul c'.natAbs (10 ^ (max s s' - s'))
  have t1 := sz_ten (max s s' - s)
  have t2 := sz_ten (max s s' - s')
  have l1 := lb_sz (c * (10 ^ (max s s' - s) : Nat)).natAbs
  have l2 := lb_sz (c' * (10 ^ (max s s' - s') : Nat)).natAbs
  have e1 : (c * (10 ^ (max s s' - s) : Nat)).natAbs = c.natAbs * 10 ^ (max s s' - s) := by rw [Int.natAbs_mul]; rfl
  have e2 : (c' * (10 ^ (max s s' - s') : Nat)).natAbs = c'.natAbs * 10 ^ (max s s' - s') := by rw [Int.natAbs_mul]; rfl
  have hc1 : sz c.natAbs ≤ 100000000 := hc
  have hc2 : sz c'.natAbs ≤ 100000000 := hc'
  rw [← e1] at m1
  rw [← e2] at m2
  unfold z53.F
  rw [e, dec_at (by omega) (by omega) hc]
  simp only [Option.bind_some]
  rw [dec_at (by omega) (by omega) hc']
  simp only [Option.bind_some]
  rw [whole_Cmp (by omega)]
  rfl
theorem mkRat_num_le (n : Int) {d : Nat} (hd : 0 < d) : (mkRat n d).num.natAbs ≤ n.natAbs := by
  rw [Rat.num_mkRat, if_neg (by omega), Nat.gcd_comm]
  have hg : 0 < Nat.gcd n.natAbs d := Nat.gcd_pos_of_pos_right _ hd
  rw [(abs_ediv (Nat.gcd_dvd_left n.natAbs d) hg).1]
  exact Nat.div_le_self _ _
theorem mkRat_den_le (n : Int) {d : Nat} (hd : 0 < d) : (mkRat n d).den ≤ d := by
  rw [Rat.den_mkRat, if_neg (by omega)]
  exact Nat.div_le_self _ _
theorem dec_Frac {M : Nat} (hD : DivTo M) {c : Int} {s : Nat} (hs : s ≤ 4096) (hc : c.natAbs ≤ M) (hM : 10 ^ s ≤ M) : z65.F (lb c.natAbs) (neg c) (s : Int) = some (fr (mkRat c (10 ^ s))) := by
  have hp : 0 < 10 ^ s := Nat.pow_pos (by decide)
  have l := sz_ten s
  unfold z65.F
  rw [dec_ten' hs]
  simp only [Option.bind_some]
  rw [frac_Of (num := c) (den := ((10 ^ s : Nat) : Int)) hD (by exact_mod_cast (Nat.ne_of_gt hp)) hc (by show 10 ^ s ≤ M; exact hM) (by show sz (10 ^ s) ≤ _; omega), Rat.divInt_ofNat]
  rfl
def mRate (s : List UInt8) : Rat × Int :=
  if (mDec s).2.2 ≠ 0 then (0, (mDec s).2.2)
  else if (mDec s).1 < 0 ∨ 1000 * (10 ^ (mDec s).2.1 : Nat) < (mDec s).1 ∨ 12 < (mDec s).2.1 then (0, 18)
  else (mkRat (mDec s).1 (10 ^ (mDec s).2.1) / 100, 0)
theorem fr_zero : fr 0 = ([], false, []) := by
  show (lb 0, neg 0, lb 0) = _
  rw [lb_zero]; rfl
theorem rate0 (e : Int) : some (([] : List Int), false, ([] : List Int), e) = some ((fr (0 : Rat)).1, (fr (0 : Rat)).2.1, (fr (0 : Rat)).2.2, e) := by
  rw [fr_zero]
theorem fr_100 : fr 100 = (lb (Int.natAbs 100), neg 100, []) := by
  show (lb 100, neg 100, lb 0) = _
  rw [lb_zero]; rfl
theorem divTo_small : DivTo 1000000000000000000 := fun x y hx hy h0 => DivOK_small (by omega) h0
theorem terms_Rate (s : List UInt8) : z69.F s = some ((fr (mRate s).1).1, (fr (mRate s).1).2.1, (fr (mRate s).1).2.2, (mRate s).2) := by
  obtain ⟨hb1, hb2⟩ := mDec_bound s
  unfold z69.F mRate
  rw [dec_Parse]
  simp only [Option.bind_some, decR]
  generalize mDec s = d at *
  obtain ⟨c, sc, e⟩ := d
  simp only at *
  have hcz : sz c.natAbs ≤ 4096 := hb2
  by_cases h : e = 0
  · rw [decide_eq_true h, if_neg (by omega)]
    simp only [Bool.not_true, cond_false]
    rw [whole_From (by omega)]
    simp only [Option.bind_some]
    have ho : z48.F (lb (Int.natAbs 1000)) (neg 1000) 0 = some (lb (Int.natAbs 1000), neg 1000, 0, 0) := rfl
    rw [ho]
    simp only [Option.bind_some]
    unfold z49.F z54.F
    simp only [Option.bind_some]
    rw [whole_Sign]
    simp only [Option.bind_some]
    by_cases h1 : c < 0
    · rw [bif_t (cmpI_lt0.2 h1), if_pos (.inl h1)]; exact rate0 18
    · rw [bif_f (fun h => h1 (cmpI_lt0.1 h))]
      have hk : sz (Int.natAbs 1000) ≤ 4 := sz_le (by decide)
      have hcmp := dec_Cmp (c := c) (c' := 1000) (s := sc) (s' := 0) (by omega) (by omega) (by omega) (by omega)
      rw [show ((0 : Nat) : Int) = 0 from rfl] at hcmp
      rw [hcmp]
      simp only [Option.bind_some, Nat.max_zero, Nat.sub_self, Nat.pow_zero, Nat.sub_zero, Int.natCast_one, Int.mul_one]
      by_cases h2 : 1000 * ((10 ^ sc : Nat) : Int) < c
      · rw [bif_t (cmpI_gt0.2 h2), if_pos (.inr (.inl h2))]; exact rate0 18
      · rw [bif_f (fun h => h2 (cmpI_gt0.1 h))]
        by_cases h3 : 12 < sc
        · rw [bif_t (by omega), if_pos (.inr (.inr h3))]; exact rate0 18
        · rw [bif_f (by omega), if_neg (by omega)]
          have hp12 : 10 ^ sc ≤ 10 ^ 12 := Nat.pow_le_pow_right (by decide) (by omega)
          have hp0 : 0 < 10 ^ sc := Nat.pow_pos (by decide)
          have n1 := mkRat_num_le c hp0
          have n2 := mkRat_den_le c hp0
          have hd0 := (mkRat c (10 ^ sc)).den_pos
          unfold z69.j8
          rw [dec_Frac divTo_small (by omega) (by omega) (by omega)]
          simp only [Option.bind_some]
          rw [whole_From (by omega)]
          simp only [Option.bind_some]
          have hf : z43.F (lb (Int.natAbs 100)) (neg 100) = some (fr 100) := by rw [fr_100]; rfl
          rw [hf]
          simp only [Option.bind_some]
          generalize mkRat c (10 ^ sc) = q at *
          have hq := frac_Quo divTo_small (q := q) (r := 100) (by decide)
            (by rw [show (100 : Rat).den = 1 from rfl]; simp; omega)
            (by rw [show (100 : Rat).num = 100 from rfl, Int.natAbs_mul]; show q.den * 100 ≤ _; omega)
            (by rw [show (100 : Rat).den = 1 from rfl]
                have a1 : sz q.num.natAbs ≤ 20 := sz_le (by omega)
                have a2 : sz 1 ≤ 1 := sz_le (by decide)
                omega)
            (by rw [show (100 : Rat).num = 100 from rfl]
                have a1 : sz q.den ≤ 20 := sz_le (by omega)
                have a2 : sz (Int.natAbs 100) ≤ 3 := sz_le (by decide)
                omega)
          rw [hq]
          rfl
  · rw [decide_eq_false h, if_pos h]; exact rate0 e
structure Tm where
  p : List UInt8
  r : List UInt8
  kind : Int
  basis : Int
  mode : Int
  y : Int
  m : Int
  d : Int
  every : Int
  count : Int
abbrev everyOK (e : Int) : Prop := e = 1 ∨ e = 2 ∨ e = 3 ∨ e = 4 ∨ e = 6 ∨ e = 12
abbrev kindsOK (t : Tm) : Prop := (0 ≤ t.kind ∧ t.kind ≤ 2) ∧ (0 ≤ t.basis ∧ t.basis ≤ 2) ∧ (0 ≤ t.mode ∧ t.mode ≤ 4) ∧ everyOK t.every
def mCheck (t : Tm) : Int :=
  if (mMoney t.p).2 ≠ 0 then (mMoney t.p).2 else if (mMoney t.p).1 = 0 then 19 else if (mRate t.r).2 ≠ 0 then (mRate t.r).2
  else if ¬ kindsOK t then 2 else if t.count < 1 ∨ 1200 < t.count then 6 else if right t.y t.m t.d ∧ okM t.y t.m (t.every * t.count) then 0 else 11
theorem terms_Word (k : Int) : ∃ w, z71.F k = some w ∧ decide (w = []) = decide (¬ (0 ≤ k ∧ k ≤ 2)) := by
  unfold z71.F
  by_cases h : k < 0
  · rw [bif_t h]; exact ⟨_, rfl, by simp; omega⟩
  · rw [bif_f h]
    by_cases h' : k ≥ 3
    · rw [bif_t h']; exact ⟨_, rfl, by simp; omega⟩
    · rw [bif_f h']
      have : k = 0 ∨ k = 1 ∨ k = 2 := by omega
      rcases this with rfl | rfl | rfl <;> exact ⟨_, rfl, rfl⟩
theorem basis_Word (k : Int) : ∃ w, z77.F k = some w ∧ decide (w = []) = decide (¬ (0 ≤ k ∧ k ≤ 2)) := by
  unfold z77.F z75.F
  by_cases h : k ≥ 0
  · rw [bif_t h]
    by_cases h' : k < 3
    · have : k = 0 ∨ k = 1 ∨ k = 2 := by omega
      rcases this with rfl | rfl | rfl <;> exact ⟨_, rfl, rfl⟩
    · rw [decide_eq_false h']; exact ⟨_, rfl, by simp; omega⟩
  · rw [bif_f h]; exact ⟨_, rfl, by simp; omega⟩
theorem mode_Word (k : Int) : ∃ w, z74.F k = some w ∧ decide (w = []) = decide (¬ (0 ≤ k ∧ k ≤ 4)) := by
  unfold z74.F z72.F
  by_cases h : k ≥ 0
  · rw [bif_t h]
    by_cases h' : k < 5
    · have : k = 0 ∨ k = 1 ∨ k = 2 ∨ k = 3 ∨ k = 4 := by omega
      rcases this with rfl | rfl | rfl | rfl | rfl <;> exact ⟨_, rfl, rfl⟩
    · rw [decide_eq_false h']; exact ⟨_, rfl, by simp; omega⟩
  · rw [bif_f h]; exact ⟨_, rfl, by simp; omega⟩
theorem tmod12 {e : Int} (h : 1 ≤ e) (h5 : e ≠ 5) : Int.tmod 12 e = 0 ↔ everyOK e := by
  rw [tmod_emod (by decide)]
  by_cases hb : 12 < e
  · rw [Int.emod_eq_of_lt (by decide) hb]; omega
  · have : e = 1 ∨ e = 2 ∨ e = 3 ∨ e = 4 ∨ e = 6 ∨ e = 7 ∨ e = 8 ∨ e = 9 ∨ e = 10 ∨ e = 11 ∨ e = 12 := by omega
    rcases this with rfl | rfl | rfl | rfl | rfl | rfl | rfl | rfl | rfl | rfl | rfl <;> decide
theorem terms_odd (t : Tm) : z78.F t.p t.r t.kind t.basis t.mode t.y t.m t.d t.every t.count = some (decide (¬ kindsOK t)) := by
  obtain ⟨w1, e1, d1⟩ := terms_Word t.kind
  obtain ⟨w2, e2, d2⟩ := basis_Word t.basis
  obtain ⟨w3, e3, d3⟩ := mode_Word t.mode
  unfold z78.F
  rw [e1]
  simp only [Option.bind_some]
  rw [d1]
  by_cases h1 : 0 ≤ t.kind ∧ t.kind ≤ 2
  · rw [bif_f (fun hh => hh h1), e2]
    simp only [Option.bind_some]
    rw [d2]
    by_cases h2 : 0 ≤ t.basis ∧ t.basis ≤ 2
    · rw [bif_f (fun hh => hh h2), e3]
      simp only [Option.bind_some]
      rw [d3]
      by_cases h3 : 0 ≤ t.mode ∧ t.mode ≤ 4
      · rw [bif_f (fun hh => hh h3)]
        by_cases h4 : t.every < 1
        · rw [bif_t h4]; congr 1; symm; exact decide_eq_true (by omega)
        · rw [bif_f h4]
          by_cases h5 : t.every = 5
          · rw [bif_t h5]; congr 1; symm; exact decide_eq_true (by omega)
          · rw [bif_f h5, if_neg (by omega)]
            congr 1
            have := tmod12 (e := t.every) (by omega) h5
            rw [← decide_not]
            exact decide_eq_decide.2 (by omega)
      · rw [bif_t h3]; congr 1; symm; exact decide_eq_true (by omega)
    · rw [bif_t h2]; congr 1; symm; exact decide_eq_true (by omega)
  · rw [bif_t h1]; congr 1; symm; exact decide_eq_true (by omega)
theorem every_bound {e c : Int} (he : everyOK e) (hc : 1 ≤ c ∧ c ≤ 1200) : 1 ≤ e * c ∧ e * c ≤ 14400 := by
  rcases he with rfl | rfl | rfl | rfl | rfl | rfl <;> omega
theorem terms_Check (t : Tm) : z84.F t.p t.r t.kind t.basis t.mode t.y t.m t.d t.every t.count = some (mCheck t) := by
  unfold z84.F mCheck
  rw [terms_Money]
  simp only [Option.bind_some]
  by_cases h1 : (mMoney t.p).2 = 0
  · rw [decide_eq_true h1, if_neg (by omega)]
    simp only [Bool.not_true, cond_false]
    rw [whole_Sign]
    simp only [Option.bind_some]
    by_cases h2 : (mMoney t.p).1 = 0
    · rw [bif_t (cmpI_eq0.2 h2), if_pos h2]
    · rw [bif_f (fun h => h2 (cmpI_eq0.1 h)), if_neg h2, terms_Rate]
      simp only [Option.bind_some]
      by_cases h3 : (mRate t.r).2 = 0
      · rw [decide_eq_true h3, if_neg (by omega)]
        simp only [Bool.not_true, cond_false]
        rw [terms_odd]
        simp only [Option.bind_some]
        by_cases h4 : kindsOK t
        · rw [bif_f (fun hh => hh h4), if_neg (fun hh => hh h4)]
          by_cases h5 : t.count < 1
          · rw [bif_t h5, if_pos (.inl h5)]
          · rw [bif_f h5]
            by_cases h6 : t.count > 1200
            · rw [bif_t h6, if_pos (.inr h6)]
            · have hb := every_bound (e := t.every) (c := t.count) h4.2.2.2 (by omega)
              rw [bif_f h6, if_neg (by omega), wr_i64 (by omega) (by omega), month_Add]
              simp only [Option.bind_some]
              by_cases h7 : right t.y t.m t.d ∧ okM t.y t.m (t.every * t.count)
              · rw [if_pos h7, if_pos h7]
              · rw [if_neg h7, if_neg h7]
        · rw [bif_t h4, if_pos h4]
      · rw [decide_eq_false h3, if_pos h3]; rfl
  · rw [decide_eq_false h1, if_pos h1]; rfl
end Go.Proofs.YtgjncgiekniniaaGreatDoor.A
end
section
set_option linter.unusedVariables false
set_option linter.unusedSimpArgs false
namespace Go.Proofs.YtgjncgiekniniaaGreatDoor.A
open Go
theorem txt_numOK (n : Nat) : numOK (txt n) = true := by
  unfold numOK
  rw [decide_eq_false (txt_ne n), digs_iff.2 (txt_digits n)]
  by_cases h : n = 0
  · subst h; rfl
  · obtain ⟨b, s, e, hb⟩ := txt_head h
    rw [e]
    have : ((b :: s).getD 0 0).toNat = b.toNat := rfl
    rw [this, decide_eq_false hb]; simp
theorem cutNeg_digits {s : List UInt8} (h : digits s) : cutNeg s = (s, false) := by
  unfold cutNeg
  cases s with
  | nil => rfl
  | cons b t =>
    have hb := h b (by simp)
    unfold digit at hb
    simp only
    rw [if_neg]
    rintro rfl
    simp at hb
theorem mWhole_txt {n : Nat} (h : (txt n).length ≤ 4096) : mWhole (txt n) = ((n : Int), 0) := by
  have hd : mDigits (txt n) = (n, 0) := by
    unfold mDigits
    rw [if_neg (by omega), if_pos (txt_numOK n), tv_txt, Int.toNat_natCast]
  unfold mWhole
  rw [cutNeg_digits (txt_digits n)]
  simp only [hd]
  rw [if_neg (by simp), if_neg (by simp)]
  rfl
theorem mMoney_txt {n : Nat} (h : n ≤ 10 ^ 30) : mMoney (txt n) = ((n : Int), 0) := by
  unfold mMoney
  have hl : (txt n).length ≤ 31 := txt_len (by omega) (by decide)
  rw [mWhole_txt (by omega)]
  have e : (10 : Int) ^ 30 = ((10 ^ 30 : Nat) : Int) := rfl
  rw [if_neg (by simp), if_neg (by rw [e]; omega)]
def padded (n k : Nat) : List UInt8 := List.replicate (k + 1 - (txt n).length) 48 ++ txt n
theorem padded_len (n k : Nat) : k < (padded n k).length ∧ (padded n k).length ≤ k + 1 + (txt n).length := by unfold padded; rw [List.length_append, List.length_replicate]; omega
theorem padded_digits (n k : Nat) : digits (padded n k) := fun b hb => by
  rcases List.mem_append.1 hb with h | h
  · rw [List.eq_of_mem_replicate h]; unfold digit; decide
  · exact txt_digits n b h
theorem tv_zeros (f : Nat) (s : List UInt8) : tv 0 (List.replicate f 48 ++ s) = tv 0 s := by
  induction f with
  | zero => rfl
  | succ f ih => rw [List.replicate_succ, List.cons_append]; exact ih
theorem padded_tv (n k : Nat) : tv 0 (padded n k) = n := by unfold padded; rw [tv_zeros, tv_txt]
def decTxt (n k : Nat) : List UInt8 := (padded n k).take ((padded n k).length - k) ++ 46 :: (padded n k).drop ((padded n k).length - k)
theorem cutDot_digits : ∀ {a : List UInt8} (b : List UInt8), digits a → cutDot (a ++ 46 :: b) = (a, some b)
  | [], b, _ => rfl
  | x :: a, b, h => by
    have hx := h x (by simp)
    have ih := cutDot_digits (a := a) b fun y hy => h y (by simp [hy])
    show cutDot (x :: (a ++ 46 :: b)) = _
    unfold cutDot
    rw [if_neg (by rintro rfl; unfold digit at hx; simp at hx), ih]
theorem mDec_txt {n k : Nat} (hk : 0 < k ∧ k ≤ 64) (hl : (txt n).length ≤ 1000) : mDec (decTxt n k) = ((n : Int), k, 0) := by
  have pl := padded_len n k
  have pd := padded_digits n k
  have hda : digits ((padded n k).take ((padded n k).length - k)) := fun b hb => pd b (List.mem_of_mem_take hb)
  have hdb : digits ((padded n k).drop ((padded n k).length - k)) := fun b hb => pd b (List.mem_of_mem_drop hb)
  have la : ((padded n k).take ((padded n k).length - k)).length = (padded n k).length - k := by rw [List.length_take]; omega
  have lb' : ((padded n k).drop ((padded n k).length - k)).length = k := by rw [List.length_drop]; omega
  have hcat : (padded n k).take ((padded n k).length - k) ++ (padded n k).drop ((padded n k).length - k) = padded n k := List.take_append_drop _ _
  have hlead : (decide (1 < ((padded n k).take ((padded n k).length - k)).length) && decide ((((padded n k).take ((padded n k).length - k)).getD 0 0).toNat = 48)) = false := by
    by_cases h1 : 1 < ((padded n k).take ((padded n k).length - k)).length
    · rw [la] at h1
      have h2 : k + 1 < (padded n k).length := by omega
      have h0 : k + 1 - (txt n).length = 0 := by
        unfold padded at h2
        rw [List.length_append, List.length_replicate] at h2; omega
      have e : padded n k = txt n := by unfold padded; rw [h0]; rfl
      have hn : n ≠ 0 := by
        rintro rfl
        rw [e] at h2
        have : (txt 0).length = 1 := rfl
        omega
      obtain ⟨b, s, ht, hb⟩ := txt_head hn
      rw [e, ht]
      have : (((b :: s).take ((b :: s).length - k)).getD 0 0).toNat = b.toNat := by
        rw [e, ht] at h2
        have : (b :: s).length - k = ((b :: s).length - k - 1) + 1 := by omega
        rw [this, List.take_succ_cons]; rfl
      rw [this, decide_eq_false hb, Bool.and_false]
    · rw [decide_eq_false h1, Bool.false_and]
  have hlen : (decTxt n k).length = (padded n k).length + 1 := by
    unfold decTxt; rw [List.length_append, List.length_cons, la, lb']; omega
  have hneg : cutNeg (decTxt n k) = (decTxt n k, false) := by
    have hne : (padded n k).take ((padded n k).length - k) ≠ [] := fun h => by rw [h] at la; simp at la; omega
    unfold decTxt
    cases hc : (padded n k).take ((padded n k).length - k) with
    | nil => exact absurd hc hne
    | cons b t =>
      have hb := hda b (by rw [hc]; simp)
      unfold digit at hb
      unfold cutNeg
      simp only [List.cons_append]
      rw [if_neg (by rintro rfl; simp at hb)]
  have hpa : plainB ((padded n k).take ((padded n k).length - k)) = true := by
    unfold plainB; rw [digs_iff.2 hda, decide_eq_false (fun h => by rw [h] at la; simp at la; omega)]; rfl
  have hpb : plainB ((padded n k).drop ((padded n k).length - k)) = true := by
    unfold plainB; rw [digs_iff.2 hdb, decide_eq_false (fun h => by rw [h] at lb'; simp at lb'; omega)]; rfl
  unfold mDec
  rw [if_neg (by omega), hneg]
  have hcut : cutDot (decTxt n k) = ((padded n k).take ((padded n k).length - k), some ((padded n k).drop ((padded n k).length - k))) := cutDot_digits _ hda
  rw [hcut]
  unfold decOf
  simp only [Option.isSome_some, Bool.true_and, Option.getD_some, hpa, hpb, hlead, Bool.not_true, Bool.or_false, Bool.false_and]
  rw [if_neg (by simp), if_neg (by simp), if_neg (by omega), hcat, padded_tv, lb', if_neg (by simp)]
structure Good (t : Tm) (most : Int) : Prop where
  money : ∃ n : Nat, t.p = txt n ∧ 0 < n ∧ n ≤ 10 ^ 30
  rate : ∃ n k : Nat, t.r = decTxt n k ∧ n < 100000 ∧ 2 ≤ k ∧ k ≤ 8
  kinds : kindsOK t
  date : right t.y t.m t.d
  year : t.y ≤ 9000
  count : 1 ≤ t.count ∧ t.count ≤ most
theorem Good.moneyOK {t : Tm} {most : Int} (h : Good t most) : (mMoney t.p).2 = 0 ∧ (mMoney t.p).1 ≠ 0 := by
  obtain ⟨n, e, h1, h2⟩ := h.money
  rw [e, mMoney_txt h2]
  exact ⟨rfl, by show (n : Int) ≠ 0; omega⟩
theorem Good.rateOK {t : Tm} {most : Int} (h : Good t most) : (mRate t.r).2 = 0 := by
  obtain ⟨n, k, e, h1, h2, h3⟩ := h.rate
  have hl : (txt n).length ≤ 5 := txt_len (Nat.lt_of_lt_of_le h1 (by decide)) (by decide)
  have hk : 10 ^ 2 ≤ 10 ^ k := Nat.pow_le_pow_right (by decide) h2
  rw [e]
  unfold mRate
  rw [mDec_txt (by omega) (by omega)]
  rw [if_neg (by simp), if_neg (by simp only; omega)]
theorem Good.check {t : Tm} {most : Int} (h : Good t most) (hm : t.every * t.count ≤ 11000) (hc : most ≤ 1200) : mCheck t = 0 := by
  have g := right_good h.date
  have hb := every_bound h.kinds.2.2.2 (c := t.count) ⟨h.count.1, by have := h.count.2; omega⟩
  have hy := h.year
  have hcc := h.count
  unfold mCheck
  rw [if_neg (fun hh => hh h.moneyOK.1), if_neg h.moneyOK.2, if_neg (fun hh => hh h.rateOK), if_neg (fun hh => hh h.kinds), if_neg (by omega), if_pos ⟨h.date, by omega⟩]
end Go.Proofs.YtgjncgiekniniaaGreatDoor.A
end
section
set_option linter.unusedVariables false
set_option linter.unusedSimpArgs false
namespace Go.Proofs.YtgjncgiekniniaaGreatDoor.A
open Go
abbrev D3 := Int × Int × Int
def pv (x : D3 × D3) : List V := [.int .i64 x.1.1, .int .i64 x.1.2.1, .int .i64 x.1.2.2, .int .i64 x.2.1, .int .i64 x.2.2.1, .int .i64 x.2.2.2]
end Go.Proofs.YtgjncgiekniniaaGreatDoor.A
end
section
set_option linter.unusedVariables false
set_option linter.unusedSimpArgs false
namespace Go.Proofs.YtgjncgiekniniaaGreatDoor.A
open Go
def tNone : Tm := ⟨[], [], 0, 0, 0, 0, 0, 0, 0, 0⟩
theorem tNone_bad : mCheck tNone = 5 := by decide +kernel
end Go.Proofs.YtgjncgiekniniaaGreatDoor.A
end
section
set_option linter.unusedVariables false
set_option linter.unusedSimpArgs false
namespace Go.Proofs.YtgjncgiekniniaaGreatDoor.A
open Go
theorem divmod_search {b r : Nat} (hb : 0 < b) (hs : sz b + sz r ≤ 300000000) : ∀ (f lo hi : Nat), hi - lo ≤ f → lo ≤ hi → hi ≤ 9999 → b * lo ≤ r → r < b * (hi + 1) →
    Runs (fun rec x => z99.l2P (dg b) (dg r) rec some x) ((lo : Int), (hi : Int)) (((r / b : Nat) : Int), ((r / b : Nat) : Int))
  | 0, lo, hi, hf, hl, hh, h1, h2 => by
    have : lo = hi := by omega
    subst this
    have e : r / b = lo := Nat.div_eq_of_lt_le (by rw [Nat.mul_comm]; exact h1) (by rw [Nat.mul_comm]; exact h2)
    rw [e]
    refine .done fun rec => ?_
    unfold z99.l2P
    simp only
    rw [bif_f (by omega)]
  | f + 1, lo, hi, hf, hl, hh, h1, h2 => by
    by_cases h : lo < hi
    · have e1 : wr .i64 (Int.tdiv (wr .i64 (wr .i64 ((lo : Int) + (hi : Int)) + 1)) 2) = (((lo + hi + 1) / 2 : Nat) : Int) := by
        rw [wr_i64 (n := (lo : Int) + (hi : Int)) (by omega) (by omega), wr_i64 (n := (lo : Int) + (hi : Int) + 1) (by omega) (by omega), tdiv_ediv (by omega), wr_i64 (by omega) (by omega)]; omega
      obtain ⟨mid, hmid⟩ : ∃ mid, (lo + hi + 1) / 2 = mid := ⟨_, rfl⟩
      rw [hmid] at e1
      have sm : sz mid ≤ 4 := sz_le (by omega)
      have sbm := sz_mul b mid
      have l1 := dg_sz b
      have l2 := dg_sz mid
      have l3 := dg_sz (b * mid)
      have step : ∀ rec : (Int × Int) → Option (Int × Int), z99.l2P (dg b) (dg r) rec some ((lo : Int), (hi : Int)) = if b * mid ≤ r then rec ((mid : Int), (hi : Int)) else rec ((lo : Int), ((mid - 1 : Nat) : Int)) := fun rec => by
        unfold z99.l2P
        simp only
        rw [bif_t (by omega), e1, ref01_Small (by omega)]
        simp only [Option.bind_some]
        rw [ref01_Mul (by omega)]
        simp only [Option.bind_some]
        rw [ref01_Cmp (by omega)]
        simp only [Option.bind_some]
        by_cases hc : b * mid ≤ r
        · rw [if_pos hc, bif_t (by
            rcases Nat.lt_or_eq_of_le hc with h3 | h3
            · exact Int.le_of_lt (cmpI_lt0.2 (by exact_mod_cast h3))
            · exact Int.le_of_eq (cmpI_eq0.2 (by exact_mod_cast h3)))]
        · rw [if_neg hc, bif_f (by
            have := cmpI_gt0 (m := ((b * mid : Nat) : Int)) (n := (r : Int))
            have h4 := this.2 (by exact_mod_cast Nat.lt_of_not_le hc)
            omega), wr_i64 (n := (mid : Int) - 1) (by omega) (by omega)]
          congr 2; omega
      by_cases hc : b * mid ≤ r
      · refine .step (fun rec => ?_) (divmod_search hb hs f mid hi (by omega) (by omega) hh hc h2)
        rw [step, if_pos hc]
      · refine .step (fun rec => ?_) (divmod_search hb hs f lo (mid - 1) (by omega) (by omega) (by omega) h1 (by rw [show mid - 1 + 1 = mid by omega]; omega))
        rw [step, if_neg hc]
    · have : lo = hi := by omega
      subst this
      have e : r / b = lo := Nat.div_eq_of_lt_le (by rw [Nat.mul_comm]; exact h1) (by rw [Nat.mul_comm]; exact h2)
      rw [e]
      refine .done fun rec => ?_
      unfold z99.l2P
      simp only
      rw [bif_f (by omega)]
theorem drop_set_ge {s : List Int} {i : Nat} {x : Int} : (s.set i x).drop (i + 1) = s.drop (i + 1) := by
  apply List.ext_getElem?
  intro j
  rw [List.getElem?_drop, List.getElem?_drop, List.getElem?_set_ne (by omega)]
theorem divmod_loop {a : List Int} {b N : Nat} (ha : inB 10000 a) (hb : 0 < b) (hs : sz b ≤ 100000000) (hl : a.length ≤ 800000000) (hN : (N : Int) = valB 10000 a) :
    ∀ (k : Nat), k ≤ a.length → ∀ (m : Nat) (q : List Int), (m : Int) = valB 10000 (a.drop k) → q.length = a.length → inB 10000 q → valB 10000 (q.drop k) = ((m / b : Nat) : Int) →
      ∃ q', Runs (fun rec x => z99.l0aP a (dg b) rec some x) (dg (m % b), (k : Int) - 1, q) (dg (N % b), (-1 : Int), q') ∧ q'.length = a.length ∧ inB 10000 q' ∧ valB 10000 q' = ((N / b : Nat) : Int)
  | 0, hk, m, q, hm, hq, hi, hv => by
    have : m = N := by rw [List.drop_zero] at hm; omega
    subst this
    refine ⟨q, .done fun rec => ?_, hq, hi, by rwa [List.drop_zero] at hv⟩
    unfold z99.l0aP
    simp only
    rw [bif_f (by omega)]; rfl
  | k + 1, hk, m, q, hm, hq, hi, hv => by
    have hka : k < a.length := by omega
    have hkq : k < q.length := by omega
    have hd := getD_in (B := 10000) (by decide) ha k
    obtain ⟨d, hd'⟩ : ∃ d : Nat, a.getD k 0 = (d : Int) := ⟨(a.getD k 0).toNat, by omega⟩
    have hd2 : d < 10000 := by omega
    obtain ⟨r, hr⟩ : ∃ r, m % b = r := ⟨_, rfl⟩
    have hrb : r < b := hr ▸ Nat.mod_lt m hb
    obtain ⟨x, hx⟩ : ∃ x, d + 10000 * r = x := ⟨_, rfl⟩
    have hxb : x < b * 10000 := by omega
    have sx : sz x ≤ sz b + 4 := sz_le (by
      have h1 := sz_lt b
      rw [Nat.pow_add]
      exact Nat.lt_of_lt_of_le hxb (Nat.mul_le_mul_right _ (Nat.le_of_lt h1)))
    have sr : sz r ≤ sz b := sz_mono (by omega)
    have l1 := dg_sz x
    have l2 := dg_sz r
    have l3 := dg_sz b
    obtain ⟨z, hz⟩ : ∃ z, x / b = z := ⟨_, rfl⟩
    obtain ⟨w, hw⟩ : ∃ w, x % b = w := ⟨_, rfl⟩
    obtain ⟨y, hy⟩ : ∃ y, m / b = y := ⟨_, rfl⟩
    have hq1 : z < 10000 := hz ▸ Nat.div_lt_of_lt_mul hxb
    have hdm : b * z + w = x := by rw [← hz, ← hw]; exact Nat.div_add_mod x b
    have hmm : b * y + r = m := by rw [← hy, ← hr]; exact Nat.div_add_mod m b
    have hm' : ((d + 10000 * m : Nat) : Int) = valB 10000 (a.drop k) := by rw [valB_drop, hd', ← hm]; omega
    have e : d + 10000 * m = x + b * (10000 * y) := by
      have h4 : b * (10000 * y) = 10000 * (b * y) := by rw [← Nat.mul_assoc, Nat.mul_comm b 10000, Nat.mul_assoc]
      omega
    have hdiv : (d + 10000 * m) / b = z + 10000 * y := by rw [e, Nat.add_mul_div_left _ _ hb, hz]
    have hmod : (d + 10000 * m) % b = w := by rw [e, Nat.add_mul_mod_self_left, hw]
    have hvq : valB 10000 ((q.set k (z : Int)).drop k) = (((d + 10000 * m) / b : Nat) : Int) := by
      rw [valB_drop, drop_set_ge, hv, hdiv, hy]
      have : (q.set k (z : Int)).getD k 0 = (z : Int) := by simp [List.getD, hkq]
      rw [this]; omega
    obtain ⟨q', r1, r2, r3, r4⟩ := divmod_loop ha hb hs hl hN k (by omega) (d + 10000 * m) (q.set k (z : Int)) hm' (by simp [hq]) (inB_set hi (by show (0 : Int) ≤ (z : Int) ∧ (z : Int) < 10000; omega)) hvq
    rw [hmod] at r1
    refine ⟨q', .step (fun rec => ?_) r1, r2, r3, r4⟩
    have hsr := divmod_search (b := b) (r := x) hb (by omega) 9999 0 9999 (by omega) (by omega) (by omega) (by omega) (by omega)
    have es : z99.l2 (dg b) (dg x) ((0 : Int), (9999 : Int)) = some (((x / b : Nat) : Int), ((x / b : Nat) : Int)) := hsr.lfp
    rw [hz] at es
    have et : z12.F ([(d : Int)] ++ dg r) = some (dg x) := by
      rw [ref01_Trim (inB_append.2 ⟨inB_cons.2 ⟨by omega, inB_nil _⟩, toB_in b4 r⟩) (by show ([(d : Int)] ++ dg r).length ≤ 1000000000; rw [List.length_append, List.length_singleton]; omega)]
      have : valB 10000 ([(d : Int)] ++ dg r) = (x : Int) := by
        show (d : Int) + ((10000 : Nat) : Int) * valB 10000 (dg r) = x
        rw [valB_toB b4]; omega
      rw [this]; rfl
    have szz : sz z ≤ 4 := sz_le (by omega)
    have l4 := dg_sz z
    have l5 := dg_sz (b * z)
    have sbz := sz_mul b z
    have ek : ((k + 1 : Nat) : Int) - 1 = (k : Int) := by omega
    unfold z99.l0aP
    simp only
    rw [ek, bif_t (by omega), if_pos (by omega), Int.toNat_natCast, hd', hr, if_pos (by rw [List.length_singleton]; omega), et]
    simp only [Option.bind_some]
    rw [es]
    simp only [Option.bind_some]
    rw [if_pos (by omega), if_pos hkq, ref01_Small (by omega)]
    simp only [Option.bind_some]
    rw [ref01_Mul (by omega)]
    simp only [Option.bind_some]
    rw [ref01_Sub (by omega) (by omega)]
    simp only [Option.bind_some]
    rw [wr_i64 (by omega) (by omega), show x - b * z = w by omega]
theorem ref01_DivMod {a b : Nat} (hb : 0 < b) (ha : sz a ≤ 700000000) (hs : sz b ≤ 100000000) : z99.F (dg a) (dg b) = some (dg (a / b), dg (a % b)) := by
  have l1 := dg_sz a
  obtain ⟨q', r1, r2, r3, r4⟩ := divmod_loop (a := dg a) (b := b) (N := a) (toB_in b4 a) hb hs (by omega) (by rw [valB_toB b4]) (dg a).length (Nat.le_refl _) 0 (List.replicate (dg a).length 0) (by rw [List.drop_length]; rfl) (by simp) (inB_replicate (by decide) _) (by rw [List.drop_eq_nil_of_le (by simp)]; simp [valB])
  rw [Nat.zero_mod, dg_zero] at r1
  have e : z99.l0a (dg a) (dg b) ([], ((dg a).length : Int) - 1, List.replicate (dg a).length 0) = some (dg (a % b), (-1 : Int), q') := r1.lfp
  unfold z99.F
  rw [if_pos (by omega), Int.toNat_natCast, wr_i64 (by omega) (by omega), e]
  simp only [Option.bind_some]
  rw [ref01_Trim r3 (by show List.length _ ≤ _; omega), r4]
  rfl
theorem ref02_Gcd {a b : Nat} (ha : sz a ≤ 100000000) (hb : sz b ≤ 100000000) : z100.F (dg a) (dg b) = some (dg (Nat.gcd a b)) := by
  have key : ∀ (f a b : Nat), b < f → sz a ≤ 100000000 → sz b ≤ 100000000 → Runs (fun rec x => z100.l0P rec some x) (dg a, dg b) (dg (Nat.gcd a b), []) := by
    intro f
    induction f with
    | zero => intro a b h; omega
    | succ f ih =>
      intro a b h ha hb
      rcases Nat.eq_zero_or_pos b with h0 | h0
      · subst h0
        refine .done fun rec => ?_
        unfold z100.l0P
        simp only
        rw [bif_f (by rw [dg_zero]; simp), Nat.gcd_zero_right, dg_zero]
      · have hm := Nat.mod_lt a h0
        have e : Nat.gcd a b = Nat.gcd b (a % b) := by rw [Nat.gcd_comm, Nat.gcd_rec, Nat.gcd_comm]
        have hsm : sz (a % b) ≤ sz b := sz_mono (by omega)
        rw [e]
        refine .step (fun rec => ?_) (ih b (a % b) (by omega) hb (by omega))
        unfold z100.l0P
        simp only
        rw [bif_t ((dg_lenp b).2 h0), ref01_DivMod h0 (by omega) hb]
        rfl
  unfold z100.F
  have e : z100.l0 (dg a, dg b) = some (dg (Nat.gcd a b), []) := (key (b + 1) a b (by omega) ha hb).lfp
  rw [e]; rfl
abbrev rf (q : Rat) : List Int × Bool × List Int := (dg q.num.natAbs, neg q.num, dg q.den)
theorem ref05_Make {num : Int} {den : Nat} (h0 : 0 < den) (hn : sz num.natAbs ≤ 100000000) (hd : sz den ≤ 100000000) : z101.F (dg num.natAbs) (neg num) (dg den) = some (rf (mkRat num den)) := by
  have hg : 0 < Nat.gcd num.natAbs den := Nat.gcd_pos_of_pos_right _ h0
  have hgs : sz (Nat.gcd num.natAbs den) ≤ sz den := sz_mono (Nat.gcd_le_right _ h0)
  obtain ⟨q1, q2⟩ := abs_ediv (Nat.gcd_dvd_left num.natAbs den) hg
  unfold z101.F
  rw [ref02_Gcd hn hd]
  simp only [Option.bind_some]
  show _ = some (dg (mkRat num den).num.natAbs, neg (mkRat num den).num, dg (mkRat num den).den)
  rw [Rat.num_mkRat, Rat.den_mkRat, if_neg (by omega), if_neg (by omega), Nat.gcd_comm den]
  generalize Nat.gcd num.natAbs den = g at *
  rw [ref01_DivMod hg (by omega) (by omega)]
  simp only [Option.bind_some]
  rw [ref01_DivMod hg (by omega) (by omega)]
  simp only [Option.bind_some]
  rw [of_at (z := num / (g : Int)) q1.symm (by
    have hz : num / (g : Int) < 0 ↔ num < 0 := q2
    by_cases h : num < 0
    · exact .inl ⟨decide_eq_true h, by omega⟩
    · exact .inr ⟨decide_eq_false h, by omega⟩)]
  rfl
theorem ref05_Of {num den : Int} (h0 : den ≠ 0) (hn : sz num.natAbs ≤ 100000000) (hd : sz den.natAbs ≤ 100000000) : z102.F (dg num.natAbs) (neg num) (dg den.natAbs) (neg den) = some (rf (Rat.divInt num den)) := by
  unfold z102.F
  by_cases h : den < 0
  · have e : Rat.divInt num den = mkRat (-num) den.natAbs := by
      have : den = -((den.natAbs : Nat) : Int) := by omega
      conv => lhs; rw [this]
      rw [Rat.divInt_neg', Rat.divInt_ofNat]
    rw [bif_t h, ref04_Neg]
    simp only [Option.bind_some]
    rw [ref05_Make (by omega) (by rw [Int.natAbs_neg]; exact hn) hd, e]
    rfl
  · have e : Rat.divInt num den = mkRat num den.natAbs := by
      have : den = ((den.natAbs : Nat) : Int) := by omega
      conv => lhs; rw [this]
      rw [Rat.divInt_ofNat]
    rw [bif_f h, ref05_Make (by omega) hn hd, e]
    rfl
theorem ref05_Small {a b : Int} (ha : -9223372036854775808 < a ∧ a < 9223372036854775808) (hb : -9223372036854775808 < b ∧ b < 9223372036854775808) (h0 : b ≠ 0) : z103.F a b = some (rf (Rat.divInt a b)) := by
  have s1 : sz a.natAbs ≤ 20 := sz_le (by omega)
  have s2 : sz b.natAbs ≤ 20 := sz_le (by omega)
  unfold z103.F
  rw [ref04_From ha]
  simp only [Option.bind_some]
  rw [ref04_From hb]
  simp only [Option.bind_some]
  rw [ref05_Of h0 (by omega) (by omega)]
  rfl
theorem ref05_cross {q r : Rat} (hs : sz q.num.natAbs + sz r.den ≤ 800000000) (a : List Int) (b : List Int) (c : Bool) : z106.F (dg q.num.natAbs) (neg q.num) a b c (dg r.den) = some (dg (q.num * r.den).natAbs, neg (q.num * r.den)) := by
  have l1 := dg_sz q.num.natAbs
  have l2 := dg_sz r.den
  have l3 : (dg (r.den : Int).natAbs).length = (dg r.den).length := rfl
  unfold z106.F
  rw [of_at (z := (r.den : Int)) (n := r.den) (by omega) (.inr ⟨rfl, by omega⟩)]
  simp only [Option.bind_some]
  rw [ref04_Mul (by omega)]
  rfl
theorem ref05_Cmp {q r : Rat} (hs : sz q.num.natAbs + sz r.den ≤ 300000000) (hs' : sz r.num.natAbs + sz q.den ≤ 300000000) : z107.F (rf q).1 (rf q).2.1 (rf q).2.2 (rf r).1 (rf r).2.1 (rf r).2.2 = some (cmpI (q.num * r.den) (r.num * q.den)) := by
  have m1 := sz_mul q.num.natAbs (r.den : Int).natAbs
  have m2 := sz_mul r.num.natAbs (q.den : Int).natAbs
  rw [← Int.natAbs_mul] at m1 m2
  have e1 : sz (r.den : Int).natAbs = sz r.den := rfl
  have e2 : sz (q.den : Int).natAbs = sz q.den := rfl
  have l1 := dg_sz (q.num * r.den).natAbs
  have l2 := dg_sz (r.num * q.den).natAbs
  unfold z107.F
  rw [ref05_cross (by omega)]
  simp only [Option.bind_some]
  rw [ref05_cross (by omega)]
  simp only [Option.bind_some]
  rw [ref04_Cmp (by omega)]
  rfl
theorem ref05_Quo {q r : Rat} (h0 : r ≠ 0) (hs : sz q.num.natAbs + sz r.den ≤ 90000000) (hs' : sz r.num.natAbs + sz q.den ≤ 90000000) : z108.F (rf q).1 (rf q).2.1 (rf q).2.2 (rf r).1 (rf r).2.1 (rf r).2.2 = some (rf (q / r)) := by
  have m1 := sz_mul q.num.natAbs (r.den : Int).natAbs
  have m2 := sz_mul r.num.natAbs (q.den : Int).natAbs
  rw [← Int.natAbs_mul] at m1 m2
  have e1 : sz (r.den : Int).natAbs = sz r.den := rfl
  have e2 : sz (q.den : Int).natAbs = sz q.den := rfl
  have l1 := dg_sz r.num.natAbs
  have l2 := dg_sz (q.den : Int).natAbs
  have hr : r.num ≠ 0 := fun h => h0 (Rat.num_eq_zero.1 h)
  have hqd := q.den_nz
  unfold z108.F
  rw [ref05_cross (by omega)]
  simp only [Option.bind_some]
  rw [of_at (z := (q.den : Int)) (n := q.den) (by omega) (.inr ⟨rfl, by omega⟩)]
  simp only [Option.bind_some]
  rw [ref04_Mul (by omega)]
  simp only [Option.bind_some]
  rw [ref05_Of (Int.mul_ne_zero hr (by omega)) (by omega) (by omega), rat_div, Int.mul_comm (q.den : Int)]
  rfl
end Go.Proofs.YtgjncgiekniniaaGreatDoor.A
end
section
set_option linter.unusedVariables false
set_option linter.unusedSimpArgs false
namespace Go.Proofs.YtgjncgiekniniaaGreatDoor.A
open Go
theorem getD_idx {s : List UInt8} {i : Nat} (h : i < s.length) : s.getD i 0 = s[i] := by simp [List.getD, h]
theorem text_loop {s : List UInt8} (hs : s.length ≤ 1000000000) : ∀ (f i : Nat), i + f = s.length →
    ∃ o, Runs (fun rec x => z87.l0b4P s rec some x) (i : Int) o ∧ (match o with | .inl _ => true | .inr q => q) = digs (s.drop i)
  | 0, i, hf => by
    refine ⟨.inl (i : Int), .done fun rec => ?_, ?_⟩
    · unfold z87.l0b4P
      rw [bif_f (by omega)]
    · rw [List.drop_eq_nil_of_le (by omega)]; rfl
  | f + 1, i, hf => by
    have hi : i < s.length := by omega
    rw [List.drop_eq_getElem_cons hi]
    have e : digs (s[i] :: s.drop (i + 1)) = (isD s[i] && digs (s.drop (i + 1))) := rfl
    rw [e]
    by_cases h1 : (s[i].toNat : Int) < 48
    · refine ⟨.inr false, .done fun rec => ?_, ?_⟩
      · unfold z87.l0b4P
        rw [bif_t (by omega), if_pos (by omega), Int.toNat_natCast, getD_idx hi, bif_t h1]
      · have : isD s[i] = false := by unfold isD; rw [decide_eq_false (show ¬ 48 ≤ s[i].toNat by omega)]; rfl
        rw [this]; rfl
    · by_cases h2 : (s[i].toNat : Int) > 57
      · refine ⟨.inr false, .done fun rec => ?_, ?_⟩
        · unfold z87.l0b4P
          rw [bif_t (by omega), if_pos (by omega), Int.toNat_natCast, getD_idx hi, bif_f h1, if_pos (by omega), bif_t h2]
        · have : isD s[i] = false := by unfold isD; rw [decide_eq_false (show ¬ s[i].toNat ≤ 57 by omega)]; simp
          rw [this]; rfl
      · obtain ⟨o, r, ho⟩ := text_loop hs f (i + 1) (by omega)
        refine ⟨o, .step (fun rec => ?_) r, ?_⟩
        · unfold z87.l0b4P
          rw [bif_t (by omega), if_pos (by omega), Int.toNat_natCast, getD_idx hi, bif_f h1, if_pos (by omega), bif_f h2, wr_i64 (by omega) (by omega)]
          rfl
        · have : isD s[i] = true := by unfold isD; rw [decide_eq_true (show 48 ≤ s[i].toNat by omega), decide_eq_true (show s[i].toNat ≤ 57 by omega)]; rfl
          rw [ho, this]; rfl
theorem ref03_Text {s : List UInt8} (hs : s.length ≤ 1000000000) : z87.F s = some (numOK s) := by
  obtain ⟨o, r, ho⟩ := text_loop hs s.length 0 (by omega)
  have e : z87.l0b4 s 0 = some o := r.lfp
  rw [List.drop_zero] at ho
  unfold z87.F numOK
  rw [e]
  simp only [Option.bind_some]
  by_cases h0 : s = []
  · subst h0; rfl
  · have hpos := List.length_pos_iff.2 h0
    rw [bif_f (by omega), decide_eq_false h0]
    by_cases h1 : 1 < s.length
    · rw [bif_t (by omega), if_pos (by omega), decide_eq_true h1]
      by_cases h2 : (s.getD 0 0).toNat = 48
      · rw [bif_t (by omega), decide_eq_true h2]; simp
      · rw [bif_f (by omega), decide_eq_false h2]
        simp only [Bool.not_false, Bool.true_and, Bool.and_true, Bool.and_false]
        cases o with
        | inl z => exact congrArg some ho
        | inr q => exact congrArg some ho
    · rw [bif_f (by omega), decide_eq_false h1]
      simp only [Bool.not_false, Bool.true_and, Bool.and_true, Bool.false_and]
      cases o with
      | inl z => exact congrArg some ho
      | inr q => exact congrArg some ho
theorem tv_pos {s : List UInt8} (hs : digits s) {b : UInt8} {t : List UInt8} (e : s = b :: t) (hb : b.toNat ≠ 48) : 0 < tv 0 s := by
  subst e
  have h1 := hs b (by simp)
  unfold digit at h1
  have h2 := tv_bound (s := t) fun x hx => hs x (by simp [hx])
  have e : tv 0 (b :: t) = ((b.toNat : Int) - 48) * (10 ^ t.length : Nat) + tv 0 t := by
    show tv (10 * 0 + (b.toNat : Int) - 48) t = _
    rw [tv_acc]; simp
  have h3 : 0 < 10 ^ t.length := Nat.pow_pos (by decide)
  have h4 : 1 * ((10 ^ t.length : Nat) : Int) ≤ ((b.toNat : Int) - 48) * (10 ^ t.length : Nat) := Int.mul_le_mul_of_nonneg_right (by omega) (by omega)
  rw [e]; omega
theorem numOK_digits {s : List UInt8} (h : numOK s = true) : digits s ∧ s ≠ [] ∧ (1 < s.length → (s.getD 0 0).toNat ≠ 48) := by
  unfold numOK at h
  simp only [Bool.and_eq_true, Bool.not_eq_true', decide_eq_false_iff_not, Bool.and_eq_false_iff] at h
  exact ⟨digs_iff.1 h.1.2, h.1.1, fun h1 h2 => by rcases h.2 with h3 | h3 <;> omega⟩
theorem numOK_zero {s : List UInt8} (h : numOK s = true) : (tv 0 s).toNat = 0 ↔ s = [48] := by
  obtain ⟨h1, h2, h3⟩ := numOK_digits h
  constructor
  · intro h0
    cases s with
    | nil => exact absurd rfl h2
    | cons b t =>
      by_cases hb : b.toNat = 48
      · have : t = [] := by
          cases t with
          | nil => rfl
          | cons c t' => exact absurd hb (h3 (by simp))
        subst this
        rw [show b = 48 from UInt8.toNat_inj.1 hb]
      · have := tv_pos h1 rfl hb; omega
  · rintro rfl; rfl
abbrev wr4 (w : Int × Int) : List Int × Bool × Int := (dg w.1.natAbs, neg w.1, w.2)
theorem ref14_Whole (s : List UInt8) (hs : s.length ≤ 1000000) : z88.F s = some (wr4 (mWhole s)) := by
  have key : ∀ (plain : List UInt8) (below : Bool), plain.length ≤ s.length → cutNeg s = (plain, below) → (below = true → s.length = plain.length + 1 ∧ s.drop 1 = plain ∧ (s.getD 0 0).toNat = 45) → (below = false → s = plain) →
      z88.j3 plain (dg (Int.natAbs 0), neg 0) s = some (wr4 (mWhole s)) := fun plain below hp hc hb hb' => by
    have z0 : ∀ e : Int, some (dg (Int.natAbs 0), neg 0, e) = some (wr4 (0, e)) := fun e => rfl
    unfold z88.j3 mWhole
    rw [hc]
    simp only
    by_cases h1 : 4096 < plain.length
    · have hm : mDigits plain = (0, 7) := by unfold mDigits; rw [if_pos h1]
      rw [bif_t (by omega), hm, if_pos (by decide)]
    · rw [bif_f (by omega), ref03_Text (by omega)]
      simp only [Option.bind_some]
      cases hn : numOK plain with
      | false =>
        have hm : mDigits plain = (0, 5) := by unfold mDigits; rw [if_neg h1, hn]; rfl
        simp only [Bool.not_false, cond_true]
        rw [hm, if_pos (by decide)]
      | true =>
        obtain ⟨d1, d2, d3⟩ := numOK_digits hn
        have hm : mDigits plain = ((tv 0 plain).toNat, 0) := by unfold mDigits; rw [if_neg h1, hn]; rfl
        have hz := numOK_zero hn
        obtain ⟨v, hv⟩ : ∃ v : Nat, tv 0 plain = (v : Int) := ⟨_, (Int.toNat_of_nonneg (tv_bound d1).1).symm⟩
        rw [hv, Int.toNat_natCast] at hm hz
        simp only [Bool.not_true, cond_false]
        rw [hm, if_neg (by simp)]
        simp only
        have hread : z86.F s = some (dg v, (below && decide (0 < v))) := by
          unfold z86.F
          have hpos := List.length_pos_iff.2 d2
          rw [if_pos (by omega)]
          cases below with
          | true =>
            obtain ⟨g1, g2, g3⟩ := hb rfl
            rw [bif_t (by omega), if_pos (by omega), g2, ref01_Read d1 (by omega), hv]
            simp only [Option.bind_some]
            rw [ref04_Of]; rfl
          | false =>
            have g := hb' rfl
            have hne : ¬ (((s.getD 0 0).toNat : Int) = 45) := by
              rw [g, getD_idx hpos]
              have := d1 plain[0] (List.getElem_mem hpos)
              unfold digit at this; omega
            rw [bif_f hne, g, ref01_Read d1 (by omega), hv]
            simp only [Option.bind_some]
            rw [ref04_Of]; rfl
        by_cases h48 : plain = [48]
        · have h0 := hz.2 h48
          rw [bif_t h48]
          cases below with
          | true =>
            obtain ⟨g1, g2, g3⟩ := hb rfl
            rw [bif_t (by rw [h48] at g1; simp at g1; omega), h0]
            rfl
          | false =>
            have g := hb' rfl
            rw [bif_f (by rw [g, h48]; simp), hread, h0]
            rfl
        · have h0 : v ≠ 0 := fun hh => h48 (hz.1 hh)
          rw [bif_f h48, hread]
          simp only [Option.bind_some]
          have e : (below && decide (v = 0)) = false := by rw [decide_eq_false h0, Bool.and_false]
          rw [e]
          simp only [Bool.false_eq_true, if_false]
          cases below with
          | true =>
            have e1 : (true && decide (0 < v)) = neg (-(v : Int)) := by rw [Bool.true_and]; exact decide_eq_decide.2 (by omega)
            rw [e1]
            show _ = some (dg (-(v : Int)).natAbs, neg (-(v : Int)), 0)
            rw [Int.natAbs_neg]; rfl
          | false =>
            have e1 : (false && decide (0 < v)) = neg (v : Int) := by rw [Bool.false_and]; symm; exact decide_eq_false (by omega)
            rw [e1]; rfl
  unfold z88.F
  rw [ref04_From (by omega)]
  simp only [Option.bind_some]
  cases s with
  | nil =>
    rw [bif_f (by simp)]
    exact key [] false (by simp) rfl (fun h => by simp at h) (fun _ => rfl)
  | cons b t =>
    rw [bif_t (by simp), if_pos (by simp)]
    by_cases h : b = 45
    · subst h
      rw [bif_t (by rfl), if_pos (by simp; omega)]
      exact key t true (by simp) rfl (fun _ => ⟨by simp, rfl, rfl⟩) (fun h => by simp at h)
    · have hb : ¬ ((((b :: t).getD 0 0).toNat : Int) = 45) := fun hh => h (UInt8.toNat_inj.1 (by have e : (b :: t).getD 0 0 = b := rfl; rw [e] at hh; show b.toNat = 45; omega))
      rw [bif_f hb]
      exact key (b :: t) false (by simp) (by unfold cutNeg; simp [h]) (fun h => by simp at h) (fun _ => rfl)
theorem ten_loop (t : Nat) (ht : t ≤ 1000000) : ∀ (f i : Nat), i + f = t → Runs (fun rec x => z89.l0P (t : Int) rec some x) ((49 : UInt8) :: List.replicate i 48, (i : Int)) ((49 : UInt8) :: List.replicate t 48, (t : Int))
  | 0, i, hf => by
    have : i = t := by omega
    subst this
    refine .done fun rec => ?_
    unfold z89.l0P
    simp only
    rw [bif_f (by omega)]
  | f + 1, i, hf => by
    refine .step (fun rec => ?_) (ten_loop t ht f (i + 1) (by omega))
    unfold z89.l0P
    simp only
    rw [bif_t (by omega), if_pos (by simp; omega), wr_i64 (by omega) (by omega), List.replicate_succ']
    rfl
theorem tv_ten : ∀ (t : Nat) (a : Int), tv a (List.replicate t 48) = a * (10 ^ t : Nat)
  | 0, a => by simp [tv]
  | t + 1, a => by
    rw [List.replicate_succ]
    show tv (10 * a + ((48 : UInt8).toNat : Int) - 48) (List.replicate t 48) = _
    rw [tv_ten t, Nat.pow_succ, Int.natCast_mul]
    have : ((48 : UInt8).toNat : Int) = 48 := rfl
    rw [this]
    generalize ((10 ^ t : Nat) : Int) = p
    grind
theorem ref03_Ten {t : Nat} (ht : t ≤ 1000000) : z89.F (t : Int) = some (dg (10 ^ t)) := by
  have e : z89.l0 (t : Int) ([49], (0 : Int)) = some ((49 : UInt8) :: List.replicate t 48, (t : Int)) := (ten_loop t ht t 0 (by omega)).lfp
  have hd : digits ((49 : UInt8) :: List.replicate t 48) := fun b hb => by
    rcases List.mem_cons.1 hb with h | h
    · subst h; unfold digit; decide
    · rw [List.eq_of_mem_replicate h]; unfold digit; decide
  have hv : tv 0 ((49 : UInt8) :: List.replicate t 48) = ((10 ^ t : Nat) : Int) := by
    show tv 1 (List.replicate t 48) = _
    rw [tv_ten]; simp
  unfold z89.F
  rw [e]
  simp only [Option.bind_some]
  rw [ref01_Read hd (by simp; omega), hv]
  rfl
theorem ref14_Money (s : List UInt8) (hs : s.length ≤ 1000000) : z98.F s = some (wr4 (mMoney s)) := by
  have hz := mWhole_sz s
  unfold z98.F mMoney
  rw [ref04_From (by omega)]
  simp only [Option.bind_some]
  rw [ref14_Whole s hs]
  simp only [Option.bind_some, wr4]
  generalize mWhole s = w at *
  by_cases h : w.2 = 0
  · rw [decide_eq_true h, if_neg (by omega)]
    simp only [Bool.not_true, cond_false]
    have h30 := ref03_Ten (t := 30) (by decide)
    rw [show ((30 : Nat) : Int) = 30 from rfl] at h30
    rw [h30]
    simp only [Option.bind_some]
    rw [of_at (z := 10 ^ 30) (by decide) (.inr ⟨rfl, by decide⟩)]
    simp only [Option.bind_some]
    have l1 := dg_sz w.1.natAbs
    have l2 : (dg (Int.natAbs (10 ^ 30))).length ≤ 31 := Nat.le_trans (dg_sz _) (sz_le (by decide))
    rw [ref04_Cmp (by omega)]
    simp only [Option.bind_some]
    by_cases h1 : w.1 < 0
    · rw [bif_t h1, if_pos (.inl h1)]
    · rw [bif_f h1]
      by_cases h2 : 10 ^ 30 < w.1
      · rw [bif_t (cmpI_gt0.2 h2), if_pos (.inr h2)]
      · rw [bif_f (fun h => h2 (cmpI_gt0.1 h)), if_neg (by omega)]
  · rw [decide_eq_false h, if_pos h]; rfl
end Go.Proofs.YtgjncgiekniniaaGreatDoor.A
end
section
set_option linter.unusedVariables false
set_option linter.unusedSimpArgs false
namespace Go.Proofs.YtgjncgiekniniaaGreatDoor.A
open Go
def scan : List UInt8 → List UInt8 → Int → Int → Bool → Option (List UInt8 × Int × Int × Bool)
  | [], all, ah, bh, z => some (all, ah, bh, z)
  | b :: t, all, ah, bh, z =>
    if b.toNat = 46 ∧ bh < 0 then scan t all ah 0 z
    else if isD b = false then none
    else if bh < 0 then scan t (all ++ [b]) (ah + 1) bh (z && decide (b.toNat = 48))
    else scan t (all ++ [b]) ah (bh + 1) (z && decide (b.toNat = 48))
def scanned (n : Int) : Option (List UInt8 × Int × Int × Bool) → (Int × List UInt8 × Int × Int × Bool) ⊕ Int
  | none => .inr 5
  | some r => .inl (n, r.1, r.2.1, r.2.2.1, r.2.2.2)
theorem scan_tail {s : List UInt8} (hs : s.length ≤ 1000000) {i : Nat} (hi : i < s.length) (all : List UInt8) (ha : all.length ≤ 1000000) (z : Bool) (x y : Int) {R : Type} (rec : (Int × List UInt8 × Int × Int × Bool) → Option R) (done : ((Int × List UInt8 × Int × Int × Bool) ⊕ Int) → Option R) :
    z104.j11016a rec done z (i : Int) s all x y = rec (((i + 1 : Nat) : Int), all ++ [s[i]], x, y, (z && decide (s[i].toNat = 48))) := by
  have e1 : wr .i64 ((i : Int) + 1) = ((i + 1 : Nat) : Int) := by rw [wr_i64 (by omega) (by omega)]; rfl
  have e2 : (s.drop i).take (i + 1 - i) = [s[i]] := by
    rw [show i + 1 - i = 1 by omega, List.drop_eq_getElem_cons hi]; rfl
  have e3 : decide ((s[i].toNat : Int) = 48) = decide (s[i].toNat = 48) := decide_eq_decide.2 (by omega)
  unfold z104.j11016a
  simp only [e1, Int.toNat_natCast, e2, getD_idx hi, e3]
  cases z with
  | true => simp only [cond_true, Bool.true_and]; rw [if_pos (by omega), if_pos (by omega), if_pos (by simp; omega)]
  | false => simp only [cond_false, Bool.false_and]; rw [if_pos (by omega), if_pos (by simp; omega)]
theorem parse7_loop {s : List UInt8} (hs : s.length ≤ 1000000) : ∀ (f i : Nat) (all : List UInt8) (ah bh : Int) (z : Bool), i + f = s.length → all.length ≤ i → (0 ≤ ah ∧ ah ≤ i) → (-1 ≤ bh ∧ bh ≤ i) →
    Runs (fun rec x => z104.l0b10P s rec some x) ((i : Int), all, ah, bh, z) (scanned (s.length : Int) (scan (s.drop i) all ah bh z))
  | 0, i, all, ah, bh, z, hf, _, _, _ => by
    refine .done fun rec => ?_
    unfold z104.l0b10P
    simp only
    rw [bif_f (by omega), List.drop_eq_nil_of_le (by omega), show (i : Int) = (s.length : Int) by omega]; rfl
  | f + 1, i, all, ah, bh, z, hf, ha, hah, hbh => by
    have hi : i < s.length := by omega
    have c1 : (0 : Int) ≤ (i : Int) ∧ (i : Int) < (s.length : Int) := by omega
    have e1 : wr .i64 ((i : Int) + 1) = ((i + 1 : Nat) : Int) := by rw [wr_i64 (by omega) (by omega)]; rfl
    rw [List.drop_eq_getElem_cons hi]
    by_cases hdot : s[i].toNat = 46 ∧ bh < 0
    · have ih := parse7_loop hs f (i + 1) all ah 0 z (by omega) (by omega) (by omega) (by omega)
      have es : scan (s[i] :: s.drop (i + 1)) all ah bh z = scan (s.drop (i + 1)) all ah 0 z := by rw [scan]; rw [if_pos hdot]
      rw [es]
      refine .step (fun rec => ?_) ih
      unfold z104.l0b10P
      simp only
      rw [bif_t (by omega), if_pos c1, Int.toNat_natCast, getD_idx hi, bif_t (by omega), bif_t hdot.2, e1]
    · by_cases hd : isD s[i] = true
      · have hd' : 48 ≤ s[i].toNat ∧ s[i].toNat ≤ 57 := by unfold isD at hd; simpa using hd
        have hnd : ¬ ((s[i].toNat : Int) = 46) := by omega
        by_cases hb : bh < 0
        · have ih := parse7_loop hs f (i + 1) (all ++ [s[i]]) (ah + 1) bh (z && decide (s[i].toNat = 48)) (by omega) (by simp; omega) (by omega) (by omega)
          have es : scan (s[i] :: s.drop (i + 1)) all ah bh z = scan (s.drop (i + 1)) (all ++ [s[i]]) (ah + 1) bh (z && decide (s[i].toNat = 48)) := by rw [scan]; rw [if_neg hdot, if_neg (by rw [hd]; simp), if_pos hb]
          rw [es]
          refine .step (fun rec => ?_) ih
          unfold z104.l0b10P
          simp only
          rw [bif_t (by omega), if_pos c1, Int.toNat_natCast, getD_idx hi, bif_f hnd, if_pos c1, bif_f (by omega), if_pos c1, bif_f (by omega), bif_t hb, wr_i64 (n := ah + 1) (by omega) (by omega)]
          exact scan_tail hs hi all (by omega) z _ _ rec some
        · have ih := parse7_loop hs f (i + 1) (all ++ [s[i]]) ah (bh + 1) (z && decide (s[i].toNat = 48)) (by omega) (by simp; omega) (by omega) (by omega)
          have es : scan (s[i] :: s.drop (i + 1)) all ah bh z = scan (s.drop (i + 1)) (all ++ [s[i]]) ah (bh + 1) (z && decide (s[i].toNat = 48)) := by rw [scan]; rw [if_neg hdot, if_neg (by rw [hd]; simp), if_neg hb]
          rw [es]
          refine .step (fun rec => ?_) ih
          unfold z104.l0b10P
          simp only
          rw [bif_t (by omega), if_pos c1, Int.toNat_natCast, getD_idx hi, bif_f hnd, if_pos c1, bif_f (by omega), if_pos c1, bif_f (by omega), bif_f hb, wr_i64 (n := bh + 1) (by omega) (by omega)]
          exact scan_tail hs hi all (by omega) z _ _ rec some
      · have hd2 : isD s[i] = false := by simpa using hd
        have hd' : s[i].toNat < 48 ∨ 57 < s[i].toNat := by
          unfold isD at hd2
          simp at hd2
          omega
        have es : scan (s[i] :: s.drop (i + 1)) all ah bh z = none := by rw [scan]; rw [if_neg hdot, if_pos hd2]
        rw [es]
        refine .done fun rec => ?_
        unfold z104.l0b10P
        simp only
        rw [bif_t (by omega), if_pos c1, Int.toNat_natCast, getD_idx hi]
        by_cases h46 : (s[i].toNat : Int) = 46
        · rw [bif_t h46, bif_f (by omega), if_pos c1, bif_t (by omega)]; rfl
        · rw [bif_f h46, if_pos c1]
          by_cases h48 : (s[i].toNat : Int) < 48
          · rw [bif_t h48]; rfl
          · rw [bif_f h48, if_pos c1, bif_t (by omega)]; rfl
theorem zeros_cons (b : UInt8) (t : List UInt8) : zeros (b :: t) = (decide (b.toNat = 48) && zeros t) := by
  show ((b == 48) && zeros t) = _
  rw [beq_u8]; rfl
theorem scan_behind : ∀ (t all : List UInt8) (ah bh : Int) (z : Bool), 0 ≤ bh → scan t all ah bh z = if digs t then some (all ++ t, ah, bh + t.length, z && zeros t) else none
  | [], all, ah, bh, z, h => by simp [scan, digs, zeros]
  | b :: t, all, ah, bh, z, h => by
    have e : digs (b :: t) = (isD b && digs t) := rfl
    rw [scan, if_neg (by omega), e, zeros_cons]
    by_cases hd : isD b = true
    · rw [if_neg (by rw [hd]; simp), if_neg (by omega), scan_behind t _ _ _ _ (by omega), hd, Bool.true_and, Bool.and_assoc, List.append_assoc]
      congr 3
      simp; omega
    · have hd2 : isD b = false := by simpa using hd
      rw [if_pos hd2, hd2]; rfl
theorem scan_ahead : ∀ (t all : List UInt8) (ah : Int) (z : Bool), scan t all ah (-1) z =
    if digs (cutDot t).1 then (match (cutDot t).2 with
      | none => some (all ++ (cutDot t).1, ah + (cutDot t).1.length, (-1 : Int), z && zeros (cutDot t).1)
      | some b => if digs b then some (all ++ (cutDot t).1 ++ b, ah + (cutDot t).1.length, (b.length : Int), z && zeros (cutDot t).1 && zeros b) else none) else none
  | [], all, ah, z => by simp [scan, cutDot, digs, zeros]
  | b :: t, all, ah, z => by
    by_cases h46 : b = 46
    · subst h46
      rw [scan, if_pos ⟨rfl, by decide⟩, scan_behind _ _ _ _ _ (Int.le_refl 0)]
      have : cutDot (46 :: t) = ([], some t) := by rw [cutDot, if_pos rfl]
      rw [this]
      simp [digs, zeros]
    · have hc : cutDot (b :: t) = (b :: (cutDot t).1, (cutDot t).2) := by rw [cutDot, if_neg h46]
      have h46' : ¬ (b.toNat = 46 ∧ (-1 : Int) < 0) := fun hh => h46 (UInt8.toNat_inj.1 hh.1)
      have e : ∀ x, digs (b :: x) = (isD b && digs x) := fun x => rfl
      rw [scan, if_neg h46', hc, e]
      by_cases hd : isD b = true
      · rw [if_neg (by rw [hd]; simp), if_pos (by decide), scan_ahead t, hd, Bool.true_and]
        split
        · cases (cutDot t).2 with
          | none =>
            simp only [zeros_cons, List.append_assoc, List.singleton_append, Bool.and_assoc, List.length_cons]
            congr 3
            omega
          | some c =>
            simp only [zeros_cons, List.append_assoc, List.singleton_append, Bool.and_assoc, List.length_cons, List.cons_append]
            split
            · congr 3; omega
            · rfl
        · rfl
      · have hd2 : isD b = false := by simpa using hd
        rw [if_pos hd2, hd2]; rfl
abbrev decD (m : Int × Nat × Int) : List Int × Bool × Int × Int := (dg m.1.natAbs, neg m.1, (m.2.1 : Int), m.2.2)
theorem decD0 (e : Int) : decD (0, 0, e) = ([], false, 0, e) := by unfold decD; simp [dg_zero]
theorem ref07_j3 {s t : List UInt8} {below : Bool} {i : Nat} (hs : s.length ≤ 4096) (hi : i ≤ 1) (hil : i ≤ s.length) (ht : s.drop i = t) :
    z104.j3 s (i : Int) below = some (decD (decOf below (cutDot t).1 (cutDot t).2)) := by
  have r := parse7_loop (s := s) (by omega) (s.length - i) i [] 0 (-1) true (by omega) (by simp) (by omega) (by omega)
  have e : z104.l0b10 s ((i : Int), [], (0 : Int), (-1 : Int), true) = some (scanned (s.length : Int) (scan t [] 0 (-1) true)) := by rw [← ht]; exact r.lfp
  have htl : t.length ≤ 4096 := by rw [← ht, List.length_drop]; omega
  unfold z104.j3
  rw [e, scan_ahead]
  simp only [Option.bind_some, List.nil_append, Int.zero_add, Bool.true_and]
  have fin : ∀ (all : List UInt8) (n ah bh : Int) (z : Bool) (sc : Nat), digits all → all.length ≤ 4096 → (sc : Int) = max bh 0 →
      z104.j7 (n, all, ah, bh, z) below = some (decD (if 64 < bh then (0, 0, 10) else (if below then -tv 0 all else tv 0 all, sc, 0))) := fun all n ah bh z sc hd hl hsc => by
    unfold z104.j7
    simp only
    by_cases h64 : 64 < bh
    · rw [bif_t h64, if_pos h64, decD0]
    · obtain ⟨v, hv⟩ : ∃ v : Nat, tv 0 all = (v : Int) := ⟨_, (Int.toNat_of_nonneg (tv_bound hd).1).symm⟩
      rw [bif_f h64, if_neg h64, ref01_Read hd (by omega), hv]
      simp only [Option.bind_some, Int.toNat_natCast]
      have em : (if (0 : Int) > bh then (0 : Int) else bh) = (sc : Int) := by split <;> omega
      rw [em]
      cases below with
      | true => rw [of_at (z := -(v : Int)) (by omega) (.inl ⟨rfl, by omega⟩)]; rfl
      | false => rw [of_at (z := (v : Int)) (by omega) (.inr ⟨rfl, by omega⟩)]; rfl
  unfold decOf plainB
  cases hda : digs (cutDot t).1 with
  | false =>
    simp only [Bool.false_eq_true, if_false, Bool.and_false, Bool.not_false, Bool.true_or, if_true]
    rw [decD0]; rfl
  | true =>
    have hdd := digs_iff.1 hda
    simp only [if_true, Bool.and_true, Bool.not_not]
    cases ho : (cutDot t).2 with
    | none =>
      have hct := cutDot_none ho
      rw [hct] at hdd ⊢
      simp only [scanned, Option.isSome_none, Bool.false_and, Bool.or_false, Option.getD_none, List.append_nil, List.length_nil]
      by_cases h0 : t = []
      · subst h0
        rw [bif_t (p := ((([] : List UInt8).length : Nat) : Int) = 0) rfl, decide_eq_true (p := ([] : List UInt8) = []) rfl]
        simp only [Bool.true_or, if_true]
        rw [decD0]
      · have hpos := List.length_pos_iff.2 h0
        rw [bif_f (by omega), bif_f (by omega), decide_eq_false h0]
        simp only [Bool.false_or]
        have hfin := fin t (s.length : Int) (t.length : Int) (-1) (zeros t) 0 hdd htl (by omega)
        rw [if_neg (by decide)] at hfin
        have rest : (bif below then bif zeros t then some ([], false, 0, 5) else z104.j7 ((s.length : Int), t, (t.length : Int), -1, zeros t) below else z104.j7 ((s.length : Int), t, (t.length : Int), -1, zeros t) below) = some (decD (if (below && zeros t) = true then (0, 0, 5) else (if below then -tv 0 t else tv 0 t, 0, 0))) := by
          rw [hfin]
          cases below <;> cases zeros t <;> first | rfl | (simp only [cond_true, Bool.true_and, if_true]; rw [decD0])
        by_cases h1 : 1 < t.length
        · rw [bif_t (by omega), if_pos (by omega), decide_eq_true h1]
          by_cases h48 : (t.getD 0 0).toNat = 48
          · rw [bif_t (by omega), decide_eq_true h48]
            simp only [Bool.true_and, if_true]
            rw [decD0]
          · rw [bif_f (by omega), decide_eq_false h48]
            simp only [Bool.and_false, Bool.false_eq_true, if_false]
            exact rest
        · rw [bif_f (by omega), decide_eq_false h1]
          simp only [Bool.false_and, Bool.false_eq_true, if_false]
          exact rest
    | some b =>
      have hct := cutDot_some ho
      generalize (cutDot t).1 = a at *
      have hlen : t.length = a.length + (b.length + 1) := by rw [hct]; simp
      simp only [Option.isSome_some, Bool.true_and, Option.getD_some]
      cases hdb : digs b with
      | false =>
        simp only [scanned, Bool.false_eq_true, if_false, Bool.and_false, Bool.not_false, Bool.or_true, Bool.true_or, if_true]
        rw [decD0]
      | true =>
        have hdd2 := digs_iff.1 hdb
        simp only [scanned, if_true, Bool.and_true, Bool.not_not]
        have hdall : digits (a ++ b) := fun x hx => (List.mem_append.1 hx).elim (hdd x) (hdd2 x)
        by_cases h0 : a = []
        · subst h0
          rw [bif_t (p := ((([] : List UInt8).length : Nat) : Int) = 0) rfl, decide_eq_true (p := ([] : List UInt8) = []) rfl]
          simp only [Bool.true_or, if_true]
          rw [decD0]
        · have hpos := List.length_pos_iff.2 h0
          rw [bif_f (by omega), decide_eq_false h0]
          by_cases hb0 : b = []
          · subst hb0
            rw [bif_t (p := ((([] : List UInt8).length : Nat) : Int) = 0) rfl, decide_eq_true (p := ([] : List UInt8) = []) rfl]
            simp only [Bool.true_or, Bool.or_true, if_true]
            rw [decD0]
          · have hbpos := List.length_pos_iff.2 hb0
            rw [bif_f (by omega), decide_eq_false hb0]
            simp only [Bool.false_or]
            have hz : zeros (a ++ b) = (zeros a && zeros b) := by simp [zeros]
            have hg : (a ++ b).getD 0 0 = a.getD 0 0 := by
              rw [getD_idx (by simp; omega), getD_idx hpos, List.getElem_append_left hpos]
            have hfin := fin (a ++ b) (s.length : Int) (a.length : Int) (b.length : Int) (zeros a && zeros b) b.length hdall (by rw [List.length_append]; omega) (by omega)
            have e64 : (64 < (b.length : Int)) = (64 < b.length) := by apply propext; omega
            simp only [e64] at hfin
            have rest : (bif below then bif (zeros a && zeros b) then some ([], false, 0, 5) else z104.j7 ((s.length : Int), a ++ b, (a.length : Int), (b.length : Int), (zeros a && zeros b)) below else z104.j7 ((s.length : Int), a ++ b, (a.length : Int), (b.length : Int), (zeros a && zeros b)) below) = some (decD (if (below && zeros (a ++ b)) = true then (0, 0, 5) else if 64 < b.length then (0, 0, 10) else (if below then -tv 0 (a ++ b) else tv 0 (a ++ b), b.length, 0))) := by
              rw [hfin, hz]
              cases below <;> cases (zeros a && zeros b) <;> first | rfl | (simp only [cond_true, Bool.true_and, if_true]; rw [decD0])
            rw [hg]
            by_cases h1 : 1 < a.length
            · rw [bif_t (by omega), if_pos (by rw [List.length_append]; omega), decide_eq_true h1]
              by_cases h48 : (a.getD 0 0).toNat = 48
              · rw [bif_t (by omega), decide_eq_true h48]
                simp only [Bool.true_and, if_true]
                rw [decD0]
              · rw [bif_f (by omega), decide_eq_false h48]
                simp only [Bool.and_false, Bool.false_eq_true, if_false]
                exact rest
            · rw [bif_f (by omega), decide_eq_false h1]
              simp only [Bool.false_and, Bool.false_eq_true, if_false]
              exact rest
theorem ref07_Parse {s : List UInt8} (hs : s.length ≤ 4096) : z104.F s = some (decD (mDec s)) := by
  have h4 : ¬ 4096 < s.length := by omega
  unfold z104.F mDec
  rw [if_neg h4]
  cases s with
  | nil =>
    rw [bif_f (by simp)]
    exact ref07_j3 (s := []) (t := []) (below := false) (i := 0) (by simp) (by omega) (by simp) rfl
  | cons b t =>
    rw [bif_t (by simp), if_pos (by simp)]
    by_cases h : b = 45
    · subst h
      rw [bif_t (by rfl)]
      exact ref07_j3 (s := 45 :: t) (t := t) (below := true) (i := 1) hs (by omega) (by simp) rfl
    · have hb : ¬ ((((b :: t).getD 0 0).toNat : Int) = 45) := fun hh => h (UInt8.toNat_inj.1 (by have e : (b :: t).getD 0 0 = b := rfl; rw [e] at hh; show b.toNat = 45; omega))
      rw [bif_f hb]
      have hc : cutNeg (b :: t) = (b :: t, false) := by unfold cutNeg; simp [h]
      rw [hc]
      exact ref07_j3 (s := b :: t) (t := b :: t) (below := false) (i := 0) hs (by omega) (by simp) rfl
end Go.Proofs.YtgjncgiekniniaaGreatDoor.A
end
section
set_option linter.unusedVariables false
set_option linter.unusedSimpArgs false
namespace Go.Proofs.YtgjncgiekniniaaGreatDoor.A
open Go
theorem ref07_Frac {c : Int} {s : Nat} (hs : s ≤ 4096) (hc : sz c.natAbs ≤ 100000000) : z105.F (dg c.natAbs) (neg c) (s : Int) = some (rf (mkRat c (10 ^ s))) := by
  have hp : 0 < 10 ^ s := Nat.pow_pos (by decide)
  have l := sz_ten s
  unfold z105.F
  rw [ref03_Ten (by omega)]
  simp only [Option.bind_some]
  rw [ref05_Make hp hc (by omega)]
  rfl
theorem mkRat_gt {n : Int} {d : Nat} (hd : 0 < d) (k : Int) : k * (mkRat n d).den < (mkRat n d).num ↔ k * d < n := by
  have hg : 0 < Nat.gcd d n.natAbs := Nat.gcd_pos_of_pos_left _ hd
  have e1 : (mkRat n d).num * (Nat.gcd d n.natAbs : Nat) = n := by
    rw [Rat.num_mkRat, if_neg (by omega)]
    exact Int.ediv_mul_cancel (Int.ofNat_dvd_left.2 (Nat.gcd_dvd_right _ _))
  have e2 : ((mkRat n d).den : Int) * (Nat.gcd d n.natAbs : Nat) = d := by
    rw [Rat.den_mkRat, if_neg (by omega)]
    exact_mod_cast Nat.div_mul_cancel (Nat.gcd_dvd_left _ _)
  generalize Nat.gcd d n.natAbs = g at *
  have hg' : (0 : Int) < (g : Int) := by omega
  have e3 : k * (d : Int) = k * (mkRat n d).den * g := by rw [← e2, Int.mul_assoc]
  constructor
  · intro h
    have := Int.mul_lt_mul_of_pos_right h hg'
    rw [e1] at this
    rw [e3]; exact this
  · intro h
    refine Int.lt_of_mul_lt_mul_right ?_ (Int.le_of_lt hg')
    rw [e1, ← e3]; exact h
theorem divInt_one (n : Int) : Rat.divInt n 1 = (n : Rat) := by
  rw [show (1 : Int) = ((1 : Nat) : Int) from rfl, Rat.divInt_ofNat, Rat.mkRat_eq_div]
  have : (n : Rat) / ((1 : Nat) : Rat) = (n : Rat) := by
    rw [Rat.div_def]
    have : (((1 : Nat) : Rat))⁻¹ = 1 := by decide +kernel
    rw [this, Rat.mul_one]
  exact this
theorem ref14_Rate (s : List UInt8) : z109.F s = some ((rf (mRate s).1).1, (rf (mRate s).1).2.1, (rf (mRate s).1).2.2, (mRate s).2) := by
  have s0 : z103.F 0 1 = some (rf 0) := by
    rw [ref05_Small (by omega) (by omega) (by omega), divInt_one]; rfl
  have s1000 : z103.F 1000 1 = some (rf 1000) := by
    rw [ref05_Small (by omega) (by omega) (by omega), divInt_one]; rfl
  have s100 : z103.F 100 1 = some (rf 100) := by
    rw [ref05_Small (by omega) (by omega) (by omega), divInt_one]; rfl
  obtain ⟨hb1, hb2⟩ := mDec_bound s
  unfold z109.F mRate
  rw [s0]
  simp only [Option.bind_some]
  by_cases hl : 4096 < s.length
  · have hm : mDec s = (0, 0, 7) := by unfold mDec; rw [if_pos hl]
    rw [bif_t (by omega), hm, if_pos (by decide)]
  · rw [bif_f (by omega), ref07_Parse (by omega)]
    simp only [Option.bind_some, decD]
    generalize mDec s = d at *
    obtain ⟨c, sc, e⟩ := d
    simp only at *
    by_cases h : e = 0
    · rw [decide_eq_true h, if_neg (by omega)]
      simp only [Bool.not_true, cond_false]
      have hp0 : 0 < 10 ^ sc := Nat.pow_pos (by decide)
      have n1 := sz_mono (mkRat_num_le c hp0)
      have n2 := sz_mono (mkRat_den_le c hp0)
      have l := sz_ten sc
      have k1 : sz (Rat.num 1000).natAbs ≤ 4 := sz_le (by decide)
      have k2 : sz (Rat.den 1000) ≤ 1 := sz_le (by decide)
      have k3 : sz (Rat.num 100).natAbs ≤ 3 := sz_le (by decide)
      have k4 : sz (Rat.den 100) ≤ 1 := sz_le (by decide)
      rw [ref07_Frac (by omega) (by omega)]
      simp only [Option.bind_some]
      rw [s1000]
      simp only [Option.bind_some]
      have hcmp := ref05_Cmp (q := mkRat c (10 ^ sc)) (r := 1000) (by omega) (by omega)
      rw [hcmp]
      simp only [Option.bind_some]
      have hgt := mkRat_gt (n := c) hp0 1000
      have e1 : (mkRat c (10 ^ sc)).num * ((Rat.den 1000 : Nat) : Int) = (mkRat c (10 ^ sc)).num := by
        show _ * ((1 : Nat) : Int) = _
        simp
      have e2 : Rat.num 1000 = 1000 := rfl
      rw [e1, e2]
      by_cases h1 : c < 0
      · rw [bif_t h1, if_pos (.inl h1)]
      · rw [bif_f h1]
        by_cases h2 : 1000 * ((10 ^ sc : Nat) : Int) < c
        · rw [bif_t (cmpI_gt0.2 (hgt.2 h2)), if_pos (.inr (.inl h2))]
        · rw [bif_f (fun h => h2 (hgt.1 (cmpI_gt0.1 h)))]
          by_cases h3 : 12 < sc
          · rw [bif_t (by omega), if_pos (.inr (.inr h3))]
          · rw [bif_f (by omega), if_neg (by omega)]
            unfold z109.j6
            rw [s100]
            simp only [Option.bind_some]
            rw [ref05_Quo (q := mkRat c (10 ^ sc)) (r := 100) (by decide) (by omega) (by omega)]
            rfl
    · rw [decide_eq_false h, if_pos h]; rfl
end Go.Proofs.YtgjncgiekniniaaGreatDoor.A
end
section
set_option linter.unusedVariables false
set_option linter.unusedSimpArgs false
namespace Go.Proofs.YtgjncgiekniniaaGreatDoor.A
open Go
set_option maxRecDepth 100000 in
theorem len_tab : ∃ tab : List UInt8, tab.length = 256 ∧
    (∀ x j, z57.j8 x j = if (0 : Int) ≤ wr .u8 x ∧ wr .u8 x < (tab.length : Int) then some (wr .i64 (j + wr .i64 ((tab.getD (wr .u8 x).toNat 0).toNat : Int))) else none) ∧
    (∀ x j, z57.j10 x j = if (0 : Int) ≤ wr .u8 x ∧ wr .u8 x < (tab.length : Int) then some (wr .i64 (j + wr .i64 ((tab.getD (wr .u8 x).toNat 0).toNat : Int))) else none) ∧
    ∀ x : Fin 256, 0 < x.1 → 1 ≤ (tab.getD x.1 0).toNat ∧ (tab.getD x.1 0).toNat ≤ 8 ∧ 2 ^ ((tab.getD x.1 0).toNat - 1) ≤ x.1 ∧ x.1 < 2 ^ (tab.getD x.1 0).toNat :=
  ⟨_, rfl, fun x j => rfl, fun x j => rfl, by decide⟩
theorem len_at {x : Nat} (h0 : 0 < x) (h : x < 256) {j : Nat} (hj : j ≤ 1000) : ∃ n, n ≤ 7 ∧ 2 ^ n ≤ x ∧ x < 2 ^ (n + 1) ∧ z57.j8 x j = some ((j + n + 1 : Nat) : Int) ∧ z57.j10 x j = some ((j + n + 1 : Nat) : Int) := by
  obtain ⟨tab, hl, h1, h2, ht⟩ := len_tab
  obtain ⟨t1, t2, t3, t4⟩ := ht ⟨x, h⟩ h0
  simp only at t1 t2 t3 t4
  obtain ⟨n, hn⟩ : ∃ n, (tab.getD x 0).toNat = n + 1 := ⟨_, (Nat.sub_add_cancel t1).symm⟩
  rw [hn] at t2 t3 t4
  have hw : wr .u8 (x : Int) = x := wr_u8 (by omega) (by omega)
  refine ⟨n, by omega, by simpa using t3, t4, ?_, ?_⟩
  · rw [h1, hw, if_pos (by omega), Int.toNat_natCast, hn, wr_i64 (n := ((n + 1 : Nat) : Int)) (by omega) (by omega), wr_i64 (by omega) (by omega)]
    congr 1
  · rw [h2, hw, if_pos (by omega), Int.toNat_natCast, hn, wr_i64 (n := ((n + 1 : Nat) : Int)) (by omega) (by omega), wr_i64 (by omega) (by omega)]
    congr 1
theorem fdiv_pow (n k : Nat) : Int.fdiv (n : Int) (2 ^ k) = ((n / 2 ^ k : Nat) : Int) := by
  rw [Int.fdiv_eq_ediv_of_nonneg _ (by exact_mod_cast Nat.zero_le (2 ^ k))]
  push_cast; rfl
theorem pow_shift {x n k : Nat} (h1 : 2 ^ n ≤ x / 2 ^ k) (h2 : x / 2 ^ k < 2 ^ (n + 1)) : 2 ^ (n + k) ≤ x ∧ x < 2 ^ (n + k + 1) := by
  have hp := Nat.pos_of_ne_zero (show 2 ^ k ≠ 0 by exact Nat.ne_of_gt (Nat.two_pow_pos k))
  have := (Nat.le_div_iff_mul_le hp).1 h1
  have := (Nat.div_lt_iff_lt_mul hp).1 h2
  rw [Nat.pow_add, show n + k + 1 = (n + 1) + k by omega, Nat.pow_add]
  omega
set_option maxRecDepth 100000 in
theorem len_j2 {x : Nat} (h0 : 0 < x) (h : x < 4294967296) {j : Nat} (hj : j ≤ 100) : ∃ n, n ≤ 31 ∧ 2 ^ n ≤ x ∧ x < 2 ^ (n + 1) ∧ z57.j2 x j = some ((j + n + 1 : Nat) : Int) := by
  unfold z57.j2
  rw [show min 16 64 = 16 from rfl, show min 8 64 = 8 from rfl, fdiv_pow, fdiv_pow, fdiv_pow]
  by_cases h1 : 65536 ≤ x
  · rw [bif_t (by omega), wr_i64 (n := (j : Int) + 16) (by omega) (by omega), wr_i64 (n := (j : Int) + 16 + 8) (by omega) (by omega)]
    have b1 : 0 < x / 2 ^ 16 ∧ x / 2 ^ 16 < 65536 := by omega
    by_cases h2 : 256 ≤ x / 2 ^ 16
    · rw [bif_t (by omega)]
      obtain ⟨n, n1, n2, n3, n4, _⟩ := len_at (x := x / 2 ^ 16 / 2 ^ 8) (by omega) (by omega) (j := j + 24) (by omega)
      obtain ⟨m2, m3⟩ := pow_shift n2 n3
      obtain ⟨m2, m3⟩ := pow_shift (n := n + 8) m2 m3
      refine ⟨n + 8 + 16, by omega, m2, m3, ?_⟩
      refine (congrArg (z57.j8 _) (show ((j : Int) + 16 + 8) = ((j + 24 : Nat) : Int) by omega)).trans (n4.trans ?_)
      congr 2; omega
    · rw [bif_f (by omega)]
      obtain ⟨n, n1, n2, n3, n4, _⟩ := len_at (x := x / 2 ^ 16) (by omega) (by omega) (j := j + 16) (by omega)
      obtain ⟨m2, m3⟩ := pow_shift n2 n3
      refine ⟨n + 16, by omega, m2, m3, ?_⟩
      refine (congrArg (z57.j8 _) (show ((j : Int) + 16) = ((j + 16 : Nat) : Int) by omega)).trans (n4.trans ?_)
      congr 2; omega
  · rw [bif_f (by omega)]
    by_cases h2 : 256 ≤ x
    · rw [bif_t (by omega), wr_i64 (n := (j : Int) + 8) (by omega) (by omega)]
      obtain ⟨n, n1, n2, n3, _, n4⟩ := len_at (x := x / 2 ^ 8) (by omega) (by omega) (j := j + 8) (by omega)
      obtain ⟨m2, m3⟩ := pow_shift n2 n3
      refine ⟨n + 8, by omega, m2, m3, ?_⟩
      refine (congrArg (z57.j10 _) (show ((j : Int) + 8) = ((j + 8 : Nat) : Int) by omega)).trans (n4.trans ?_)
      congr 2; omega
    · rw [bif_f (by omega)]
      obtain ⟨n, n1, n2, n3, _, n4⟩ := len_at (x := x) (by omega) (by omega) (j := j) (by omega)
      exact ⟨n, by omega, n2, n3, n4⟩
theorem bits_Len64 {x : Nat} (h0 : 0 < x) (h : x < 18446744073709551616) : ∃ n, n ≤ 63 ∧ 2 ^ n ≤ x ∧ x < 2 ^ (n + 1) ∧ z57.F x = some ((n + 1 : Nat) : Int) := by
  unfold z57.F
  rw [show min 32 64 = 32 from rfl, fdiv_pow]
  by_cases h1 : 4294967296 ≤ x
  · rw [bif_t (by omega)]
    obtain ⟨n, n1, n2, n3, n4⟩ := len_j2 (x := x / 2 ^ 32) (by omega) (by omega) (j := 32) (by omega)
    obtain ⟨m2, m3⟩ := pow_shift n2 n3
    refine ⟨n + 32, by omega, m2, m3, ?_⟩
    refine n4.trans ?_
    congr 2; omega
  · rw [bif_f (by omega)]
    obtain ⟨n, n1, n2, n3, n4⟩ := len_j2 (x := x) (by omega) (by omega) (j := 0) (by omega)
    refine ⟨n, by omega, n2, n3, ?_⟩
    refine n4.trans ?_
    congr 2; omega
theorem bits_Lead {x : Nat} (h0 : 0 < x) (h : x < 18446744073709551616) : ∃ s, s ≤ 63 ∧ 9223372036854775808 ≤ x * 2 ^ s ∧ x * 2 ^ s < 18446744073709551616 ∧ z58.F x = some ((s : Nat) : Int) := by
  obtain ⟨n, n1, n2, n3, n4⟩ := bits_Len64 h0 h
  have e1 : 2 ^ n * 2 ^ (63 - n) = 9223372036854775808 := by rw [← Nat.pow_add, show n + (63 - n) = 63 by omega]
  have e2 : 2 ^ (n + 1) * 2 ^ (63 - n) = 18446744073709551616 := by rw [← Nat.pow_add, show n + 1 + (63 - n) = 64 by omega]
  refine ⟨63 - n, by omega, ?_, ?_, ?_⟩
  · rw [← e1]; exact Nat.mul_le_mul_right _ n2
  · rw [← e2]; exact Nat.mul_lt_mul_of_pos_right n3 (Nat.two_pow_pos _)
  · unfold z58.F
    rw [n4]
    simp only [Option.bind_some]
    rw [wr_i64 (by omega) (by omega)]
    congr 1; omega
end Go.Proofs.YtgjncgiekniniaaGreatDoor.A
end
section
set_option linter.unusedVariables false
set_option linter.unusedSimpArgs false
set_option linter.unusedSectionVars false
namespace Go.Proofs.YtgjncgiekniniaaGreatDoor.A
open Go
structure Digit (y1 y0 u u0 : Nat) (q r : Nat) : Prop where
  eq : q * y1 + r = u
  ge : (u * 4294967296 + u0) / (y1 * 4294967296 + y0) ≤ q
  le : q ≤ 4294967297
  lt : r < 4294967296
theorem digit_mulB (B : Nat) {y1 y0 u q r : Nat} (he : q * y1 + r = u) : q * (y1 * B + y0) + r * B = u * B + q * y0 := by
  rw [← he, Nat.add_mul, Nat.mul_add, Nat.mul_assoc]
  omega
theorem digit_ineq {B A A2 u u0 r : Nat} (h : A + r * B = u * B + A2) (hc : r * B + u0 < A2) : u * B + u0 < A := by omega
section
variable {y1 y0 u u0 : Nat} (h1 : 2147483648 ≤ y1) (h1' : y1 < 4294967296) (h0 : y0 < 4294967296) (hu : u < y1 * 4294967296 + y0) (hu0 : u0 < 4294967296)
include h1 h1' h0 hu hu0
theorem digit_first : Digit y1 y0 u u0 (u / y1) (u % y1) := by
  have hy : 0 < y1 := by omega
  refine ⟨by rw [Nat.mul_comm]; exact Nat.div_add_mod u y1, ?_, ?_, ?_⟩
  · rw [Nat.le_div_iff_mul_le hy]
    have hd := Nat.div_mul_le_self (u * 4294967296 + u0) (y1 * 4294967296 + y0)
    generalize (u * 4294967296 + u0) / (y1 * 4294967296 + y0) = Q at *
    rw [Nat.mul_add, ← Nat.mul_assoc] at hd
    generalize Q * y1 = A at *
    generalize Q * y0 = B at *
    omega
  · have : u / y1 < 4294967298 := by
      rw [Nat.div_lt_iff_lt_mul hy]; omega
    omega
  · have := Nat.mod_lt u hy; omega
theorem digit_lt : (u * 4294967296 + u0) / (y1 * 4294967296 + y0) < 4294967296 := by
  rw [Nat.div_lt_iff_lt_mul (by omega)]; omega
theorem digit_on {q r : Nat} (h : Digit y1 y0 u u0 q r) (hc : 4294967296 ≤ q ∨ r * 4294967296 + u0 < q * y0) : (u * 4294967296 + u0) / (y1 * 4294967296 + y0) < q := by
  rcases hc with hc | hc
  · exact Nat.lt_of_lt_of_le (digit_lt h1 h1' h0 hu hu0) hc
  · have := digit_mulB 4294967296 (y0 := y0) h.eq
    have hlt : u * 4294967296 + u0 < q * (y1 * 4294967296 + y0) := digit_ineq this hc
    exact (Nat.div_lt_iff_lt_mul (show 0 < y1 * 4294967296 + y0 by omega)).2 hlt
theorem digit_end {q r : Nat} (he : q * y1 + r = u) (ge : (u * 4294967296 + u0) / (y1 * 4294967296 + y0) ≤ q) (hc : q * y0 ≤ r * 4294967296 + u0) : q = (u * 4294967296 + u0) / (y1 * 4294967296 + y0) := by
  refine Nat.le_antisymm ?_ ge
  rw [Nat.le_div_iff_mul_le (by omega)]
  have := digit_mulB 4294967296 (y0 := y0) he
  omega
theorem digit_next {q r : Nat} (h : Digit y1 y0 u u0 q r) (hc : (u * 4294967296 + u0) / (y1 * 4294967296 + y0) < q) : (q - 1) * y1 + (r + y1) = u ∧ (u * 4294967296 + u0) / (y1 * 4294967296 + y0) ≤ q - 1 := by
  generalize (u * 4294967296 + u0) / (y1 * 4294967296 + y0) = Q at hc ⊢
  obtain ⟨k, rfl⟩ : ∃ k, q = k + 1 := ⟨q - 1, by omega⟩
  have := h.eq
  rw [Nat.add_mul] at this
  simp only [Nat.add_sub_cancel]
  omega
theorem digit_break {q r : Nat} (h : Digit y1 y0 u u0 q r) (hc : (u * 4294967296 + u0) / (y1 * 4294967296 + y0) < q) (hr : 4294967296 ≤ r + y1) : q - 1 = (u * 4294967296 + u0) / (y1 * 4294967296 + y0) := by
  obtain ⟨n1, n2⟩ := digit_next h1 h1' h0 hu hu0 h hc
  refine digit_end h1 h1' h0 hu hu0 n1 n2 ?_
  have hq := h.le
  have : (q - 1) * y0 ≤ 4294967296 * 4294967295 := Nat.mul_le_mul (by omega) (by omega)
  omega
theorem digit_loop {F : (Int × Int → Option (Int × Int)) → Int × Int → Option (Int × Int)} (mk : Int → Int → Int × Int) 
    (hF : ∀ (q r : Nat), q ≤ 4294967297 → r < 4294967296 → ∀ rec, F rec (mk q r) =
      if 4294967296 ≤ q ∨ r * 4294967296 + u0 < q * y0 then (if 4294967296 ≤ r + y1 then some (mk ((q - 1 : Nat) : Int) ((r + y1 : Nat) : Int)) else rec (mk ((q - 1 : Nat) : Int) ((r + y1 : Nat) : Int))) else some (mk q r)) :
    ∃ r : Nat, lfp F (mk ((u / y1 : Nat) : Int) ((u % y1 : Nat) : Int)) = some (mk (((u * 4294967296 + u0) / (y1 * 4294967296 + y0) : Nat) : Int) r) := by
  have key : ∀ (f q r : Nat), q < f → Digit y1 y0 u u0 q r → ∃ r' : Nat, Runs F (mk q r) (mk (((u * 4294967296 + u0) / (y1 * 4294967296 + y0) : Nat) : Int) r') := by
    intro f
    induction f with
    | zero => intro q r h; omega
    | succ f ih =>
      intro q r hq h
      by_cases hc : 4294967296 ≤ q ∨ r * 4294967296 + u0 < q * y0
      · have hlt := digit_on h1 h1' h0 hu hu0 h hc
        by_cases hr : 4294967296 ≤ r + y1
        · refine ⟨r + y1, .done fun rec => ?_⟩
          rw [hF q r h.le h.lt, if_pos hc, if_pos hr, digit_break h1 h1' h0 hu hu0 h hlt hr]
        · obtain ⟨n1, n2⟩ := digit_next h1 h1' h0 hu hu0 h hlt
          have hle := h.le
          have hq1 : 0 < q := Nat.lt_of_le_of_lt (Nat.zero_le _) hlt
          obtain ⟨r', hr'⟩ := ih (q - 1) (r + y1) (by omega) ⟨n1, n2, by omega, by omega⟩
          exact ⟨r', .step (fun rec => by rw [hF q r h.le h.lt, if_pos hc, if_neg hr]) hr'⟩
      · refine ⟨r, .done fun rec => ?_⟩
        rw [hF q r h.le h.lt, if_neg hc, ← digit_end h1 h1' h0 hu hu0 h.eq h.ge (by omega)]
  obtain ⟨r', hr'⟩ := key (u / y1 + 1) _ _ (by omega) (digit_first h1 h1' h0 hu hu0)
  exact ⟨r', hr'.lfp⟩
theorem digit_test {q r : Nat} (hq : q ≤ 4294967297) (hr : r < 4294967296) (h : ¬ 4294967296 ≤ q) : (wr .u64 ((q : Int) * y0) > wr .u64 (wr .u64 ((4294967296 : Int) * r) + u0)) ↔ r * 4294967296 + u0 < q * y0 := by
  have hm : q * y0 ≤ 4294967295 * 4294967295 := Nat.mul_le_mul (by omega) (by omega)
  rw [← Int.natCast_mul q y0, wr_u64 (n := ((q * y0 : Nat) : Int)) (by omega) (by omega), wr_u64 (n := (4294967296 : Int) * r) (by omega) (by omega), wr_u64 (by omega) (by omega)]
  omega
theorem div64_l0 : ∃ r : Nat, z59.l0b8 y1 y0 u0 (((u / y1 : Nat) : Int), ((u % y1 : Nat) : Int)) = some ((((u * 4294967296 + u0) / (y1 * 4294967296 + y0) : Nat) : Int), (r : Int)) := by
  refine digit_loop h1 h1' h0 hu hu0 (fun q r => (q, r)) (F := fun rec x => z59.l0b8P y1 y0 u0 rec some x) fun q r hq hr rec => ?_
  simp only [z59.l0b8P]
  rw [wr_u64 (n := (r : Int) + y1) (by omega) (by omega)]
  by_cases hq2 : 4294967296 ≤ q
  · rw [bif_t (by omega), if_pos (.inl hq2), wr_u64 (n := (q : Int) - 1) (by omega) (by omega)]
    by_cases hr2 : 4294967296 ≤ r + y1
    · rw [bif_t (by omega), if_pos hr2]; congr 2 <;> omega
    · rw [bif_f (by omega), if_neg hr2]; congr 2 <;> omega
  · rw [bif_f (by omega)]
    have ht := digit_test h1 h1' h0 hu hu0 hq hr hq2
    by_cases hc : r * 4294967296 + u0 < q * y0
    · have hq0 : 0 < q := Nat.pos_of_ne_zero fun h => by subst h; omega
      rw [bif_t (ht.2 hc), if_pos (.inr hc), wr_u64 (n := (q : Int) - 1) (by omega) (by omega)]
      by_cases hr2 : 4294967296 ≤ r + y1
      · rw [bif_t (by omega), if_pos hr2]; congr 2 <;> omega
      · rw [bif_f (by omega), if_neg hr2]; congr 2 <;> omega
    · rw [bif_f (fun h => hc (ht.1 h)), if_neg (by omega)]
theorem div64_l2 : ∃ r : Nat, z59.l2b8 y1 y0 u0 (((u % y1 : Nat) : Int), ((u / y1 : Nat) : Int)) = some ((r : Int), (((u * 4294967296 + u0) / (y1 * 4294967296 + y0) : Nat) : Int)) := by
  refine digit_loop h1 h1' h0 hu hu0 (fun q r => (r, q)) (F := fun rec x => z59.l2b8P y1 y0 u0 rec some x) fun q r hq hr rec => ?_
  simp only [z59.l2b8P]
  rw [wr_u64 (n := (r : Int) + y1) (by omega) (by omega)]
  by_cases hq2 : 4294967296 ≤ q
  · rw [bif_t (by omega), if_pos (.inl hq2), wr_u64 (n := (q : Int) - 1) (by omega) (by omega)]
    by_cases hr2 : 4294967296 ≤ r + y1
    · rw [bif_t (by omega), if_pos hr2]; congr 2 <;> omega
    · rw [bif_f (by omega), if_neg hr2]; congr 2 <;> omega
  · rw [bif_f (by omega)]
    have ht := digit_test h1 h1' h0 hu hu0 hq hr hq2
    by_cases hc : r * 4294967296 + u0 < q * y0
    · have hq0 : 0 < q := Nat.pos_of_ne_zero fun h => by subst h; omega
      rw [bif_t (ht.2 hc), if_pos (.inr hc), wr_u64 (n := (q : Int) - 1) (by omega) (by omega)]
      by_cases hr2 : 4294967296 ≤ r + y1
      · rw [bif_t (by omega), if_pos hr2]; congr 2 <;> omega
      · rw [bif_f (by omega), if_neg hr2]; congr 2 <;> omega
    · rw [bif_f (fun h => hc (ht.1 h)), if_neg (by omega)]
end
end Go.Proofs.YtgjncgiekniniaaGreatDoor.A
end
section
set_option linter.unusedVariables false
set_option linter.unusedSimpArgs false
namespace Go.Proofs.YtgjncgiekniniaaGreatDoor.A
open Go
theorem bv_nat {n : Nat} (h : n < 18446744073709551616) : (BitVec.ofInt (IntKind.bits .u64) (n : Int)).toNat = n := by
  show (BitVec.ofInt 64 (n : Int)).toNat = n
  rw [BitVec.toNat_ofInt]
  omega
theorem and_low {n : Nat} (h : n < 18446744073709551616) : wr .u64 ((BitVec.ofInt (IntKind.bits .u64) (n : Int) &&& BitVec.ofInt (IntKind.bits .u64) (4294967295 : Int)).toNat : Int) = ((n % 4294967296 : Nat) : Int) := by
  rw [BitVec.toNat_and, bv_nat h, show (4294967295 : Int) = ((4294967295 : Nat) : Int) from rfl, bv_nat (by omega), show 4294967295 = 2 ^ 32 - 1 from rfl, Nat.and_two_pow_sub_one_eq_mod, wr_u64 (by omega) (by omega)]
theorem or_add {a b s : Nat} (hb : b < 2 ^ s) (h : a * 2 ^ s + b < 18446744073709551616) : wr .u64 ((BitVec.ofInt (IntKind.bits .u64) ((a * 2 ^ s : Nat) : Int) ||| BitVec.ofInt (IntKind.bits .u64) (b : Int)).toNat : Int) = ((a * 2 ^ s + b : Nat) : Int) := by
  rw [BitVec.toNat_or, bv_nat (by omega), bv_nat (by omega), Nat.mul_comm, ← Nat.two_pow_add_eq_or_of_lt hb, wr_u64 (by omega) (by rw [Nat.mul_comm] at h; omega)]
theorem two_digits {B V Y U u1 u0 : Nat} (hV : V = (U * B + u1) * B + u0) (hY : 0 < Y) (h0 : u0 < B) :
    V / Y = (U * B + u1) / Y * B + ((U * B + u1) % Y * B + u0) / Y ∧ V % Y = ((U * B + u1) % Y * B + u0) % Y := by
  have h1 := Nat.div_add_mod (U * B + u1) Y
  generalize hA : U * B + u1 = A at *
  generalize A / Y = q at *
  generalize A % Y = r at *
  have e : V = (r * B + u0) + Y * (q * B) := by
    rw [hV, ← h1, Nat.add_mul, Nat.mul_assoc]; omega
  rw [e, Nat.add_mul_div_left _ _ hY, Nat.add_mul_mod_self_left]
  exact ⟨by omega, rfl⟩
theorem two_digits' {B V Y U u1 u0 : Nat} (hV : V = (U * B + u1) * B + u0) (hY : 0 < Y) (h0 : u0 < B) (hU : U < Y) (h1 : u1 < B) :
    ∃ q1 U2 q0 U3, (U * B + u1) / Y = q1 ∧ (U2 * B + u0) / Y = q0 ∧ Y * q1 + U2 = U * B + u1 ∧ U2 < Y ∧ Y * q0 + U3 = U2 * B + u0 ∧ U3 < Y ∧ q1 < B ∧ q0 < B ∧ V / Y = q1 * B + q0 ∧ V % Y = U3 := by
  obtain ⟨a, b⟩ := two_digits hV hY h0
  have l : ∀ {u v : Nat}, u < Y → v < B → (u * B + v) / Y < B := fun {u v} hu hv => by
    rw [Nat.div_lt_iff_lt_mul hY]
    have := Nat.mul_le_mul_right B (show u + 1 ≤ Y from hu)
    rw [Nat.add_mul, Nat.one_mul] at this
    rw [Nat.mul_comm B Y]; omega
  have hr := Nat.mod_lt (U * B + u1) hY
  exact ⟨_, _, _, _, rfl, rfl, Nat.div_add_mod _ _, hr, Nat.div_add_mod _ _, Nat.mod_lt _ hY, l hU h1, l hr h0, a, b⟩
theorem moved_parts {hi lo s : Nat} (hs : s ≤ 64) : (hi * 18446744073709551616 + lo) * 2 ^ s = (hi * 2 ^ s + lo / 2 ^ (64 - s)) * 18446744073709551616 + lo * 2 ^ s % 18446744073709551616 := by
  have e : 18446744073709551616 = 2 ^ (64 - s) * 2 ^ s := by rw [← Nat.pow_add, show 64 - s + s = 64 by omega]
  have h : lo / 2 ^ (64 - s) = lo * 2 ^ s / 18446744073709551616 := by
    rw [e, Nat.mul_div_mul_right _ _ (Nat.two_pow_pos s)]
  rw [h, Nat.add_mul, Nat.add_mul, Nat.mul_right_comm, Nat.add_assoc]
  have := Nat.div_add_mod (lo * 2 ^ s) 18446744073709551616
  omega
end Go.Proofs.YtgjncgiekniniaaGreatDoor.A
end
section
set_option linter.unusedVariables false
set_option linter.unusedSimpArgs false
namespace Go.Proofs.YtgjncgiekniniaaGreatDoor.A
open Go
theorem bits_Div64 {hi lo y : Nat} (h : hi < y) (hlo : lo < 18446744073709551616) (hy : y < 18446744073709551616) :
    z59.F hi lo y = some ((((hi * 18446744073709551616 + lo) / y : Nat) : Int), (((hi * 18446744073709551616 + lo) % y : Nat) : Int)) := by
  rcases Nat.eq_zero_or_pos hi with h0 | h0
  · subst h0
    have := div64_small (a := (lo : Int)) (b := (y : Int)) (by omega) (by omega)
    rw [show ((0 : Nat) : Int) = 0 from rfl, this, Nat.zero_mul, Nat.zero_add]
    rfl
  obtain ⟨s, hs, s1, s2, hlead⟩ := bits_Lead (x := y) (by omega) hy
  unfold z59.F
  rw [bif_f (by omega), bif_f (by omega), bif_f (by omega), hlead]
  simp only [Option.bind_some]
  
  have hp := Nat.two_pow_pos s
  have hV := moved_parts (hi := hi) (lo := lo) (s := s) (by omega)
  have hlt : (hi * 18446744073709551616 + lo) * 2 ^ s < y * 2 ^ s * 18446744073709551616 := by
    rw [Nat.mul_right_comm]; exact Nat.mul_lt_mul_of_pos_right (by omega) hp
  have hb : lo / 2 ^ (64 - s) < 2 ^ s := by
    rw [Nat.div_lt_iff_lt_mul (Nat.two_pow_pos _), ← Nat.pow_add, show s + (64 - s) = 64 by omega]; exact hlo
  have hqy := Nat.mul_div_mul_right (hi * 18446744073709551616 + lo) y hp
  have hmy := Nat.mul_mod_mul_right (2 ^ s) (hi * 18446744073709551616 + lo) y
  have e1 : wr .u64 (s : Int) = s := wr_u64 (by omega) (by omega)
  have e4 : wr .u64 ((64 : Int) - s) = ((64 - s : Nat) : Int) := by rw [wr_u64 (by omega) (by omega)]; omega
  have e5 : min (64 - s) 64 = 64 - s := by omega
  have e3 : min s 64 = s := by omega
  have eY : wr .u64 ((y : Int) * 2 ^ s) = ((y * 2 ^ s : Nat) : Int) := by
    rw [show (y : Int) * 2 ^ s = ((y * 2 ^ s : Nat) : Int) by push_cast; rfl, wr_u64 (by omega) (by omega)]
  have eL : wr .u64 ((lo : Int) * 2 ^ s) = ((lo * 2 ^ s % 18446744073709551616 : Nat) : Int) := by
    rw [show (lo : Int) * 2 ^ s = ((lo * 2 ^ s : Nat) : Int) by push_cast; rfl, wr_u64_mod]; rfl
  have hUY : hi * 2 ^ s + lo / 2 ^ (64 - s) < y * 2 ^ s := by
    have : (hi * 2 ^ s + lo / 2 ^ (64 - s)) * 18446744073709551616 < y * 2 ^ s * 18446744073709551616 := by omega
    exact Nat.lt_of_mul_lt_mul_right this
  have hHi := Nat.lt_of_le_of_lt (Nat.le_add_right (hi * 2 ^ s) (lo / 2 ^ (64 - s))) (Nat.lt_trans hUY s2)
  have eH : wr .u64 ((hi : Int) * 2 ^ s) = ((hi * 2 ^ s : Nat) : Int) := by
    rw [show (hi : Int) * 2 ^ s = ((hi * 2 ^ s : Nat) : Int) by push_cast; rfl, wr_u64 (by omega) (by omega)]
  have eO := or_add (a := hi) (s := s) hb (by omega)
  simp only [e1, e4, Int.toNat_natCast, e3, e5, eY, eL, eH, fdiv_pow, eO, show min 32 64 = 32 from rfl]
  generalize hU : hi * 2 ^ s + lo / 2 ^ (64 - s) = U at *
  generalize hYe : y * 2 ^ s = Y at *
  generalize hLe : lo * 2 ^ s % 18446744073709551616 = L at *
  have hL : L < 18446744073709551616 := by rw [← hLe]; exact Nat.mod_lt _ (by omega)
  have aY := and_low s2; have aL := and_low hL
  simp only [aY, aL, show (2 : Nat) ^ 32 = 4294967296 from rfl]
  rw [if_pos (by omega), if_pos (by omega), if_pos (by omega), if_pos (by omega)]
  generalize hy1 : Y / 4294967296 = y1 at *
  generalize hy0 : Y % 4294967296 = y0 at *
  generalize hu1 : L / 4294967296 = u1 at *
  generalize hu0 : L % 4294967296 = u0 at *
  have hYd : Y = y1 * 4294967296 + y0 := by omega
  have hLd : L = u1 * 4294967296 + u0 := by omega
  have b1 : 2147483648 ≤ y1 ∧ y1 < 4294967296 := by omega
  have b0 : y0 < 4294967296 := by omega
  have b2 : u1 < 4294967296 := by omega
  have b3 : u0 < 4294967296 := by omega
  rw [if_neg (by omega)]
  have hYp : 0 < Y := by omega
  obtain ⟨q1, U2, q0, U3, dq1, dq0, m1, m2, m3, m4, hq1, hq0, V1, V2⟩ := two_digits' (B := 4294967296) (V := U * 18446744073709551616 + L) (Y := Y) (U := U) (u1 := u1) (u0 := u0) (by omega) hYp b3 hUY b2
  have first : ∀ {u : Nat}, u < 18446744073709551616 → wr .u64 (Int.tdiv (u : Int) (y1 : Int)) = ((u / y1 : Nat) : Int) ∧ wr .u64 ((u : Int) - wr .u64 (wr .u64 (Int.tdiv (u : Int) (y1 : Int)) * (y1 : Int))) = ((u % y1 : Nat) : Int) := fun {u} hu => by
    have h1 := Nat.div_le_self u y1
    have h2 := Nat.div_add_mod u y1
    have h3 : Int.tdiv (u : Int) (y1 : Int) = ((u / y1 : Nat) : Int) := by rw [tdiv_ediv (by omega)]; rfl
    rw [h3]
    generalize u / y1 = q at *
    generalize u % y1 = r at *
    rw [wr_u64 (n := (q : Int)) (by omega) (by omega)]
    refine ⟨rfl, ?_⟩
    rw [Nat.mul_comm] at h2
    rw [show (q : Int) * (y1 : Int) = ((q * y1 : Nat) : Int) from rfl]
    generalize q * y1 = P at *
    rw [wr_u64 (n := (P : Int)) (by omega) (by omega), wr_u64 (by omega) (by omega)]
    omega
  obtain ⟨f1, f2⟩ := first (u := U) (by omega)
  simp only [f2]
  rw [f1]
  obtain ⟨r1, d1⟩ := div64_l0 (y1 := y1) (y0 := y0) (u := U) (u0 := u1) b1.1 b1.2 b0 (by omega) b2
  rw [d1, ← hYd, dq1]
  simp only [Option.bind_some]
  rw [if_neg (by omega)]
  have eU2 : wr .u64 (wr .u64 (wr .u64 ((U : Int) * 4294967296) + (u1 : Int)) - wr .u64 ((q1 : Int) * (Y : Int))) = (U2 : Int) := by
    rw [show (q1 : Int) * (Y : Int) = ((Y * q1 : Nat) : Int) by push_cast; exact Int.mul_comm _ _, wr_u64_mod, wr_u64_mod, wr_u64_mod, wr_u64_mod]
    generalize Y * q1 = P at m1 ⊢
    clear d1 V1 V2 m3 m4 dq1 dq0 hV hlt hqy hmy
    omega
  simp only [eU2]
  obtain ⟨g1, g2⟩ := first (u := U2) (by omega)
  simp only [g2]
  rw [g1]
  obtain ⟨r2, d2⟩ := div64_l2 (y1 := y1) (y0 := y0) (u := U2) (u0 := u0) b1.1 b1.2 b0 (by omega) b3
  rw [d2, ← hYd, dq0]
  simp only [Option.bind_some]
  rw [if_pos (by omega)]
  have eU3 : wr .u64 (wr .u64 (wr .u64 ((U2 : Int) * 4294967296) + (u0 : Int)) - wr .u64 ((q0 : Int) * (Y : Int))) = (U3 : Int) := by
    rw [show (q0 : Int) * (Y : Int) = ((Y * q0 : Nat) : Int) by push_cast; exact Int.mul_comm _ _, wr_u64_mod, wr_u64_mod, wr_u64_mod, wr_u64_mod]
    generalize Y * q0 = P at m3 ⊢
    clear d1 d2 V1 V2 m1 dq1 dq0 hV hlt hqy hmy
    omega
  rw [eU3, fdiv_pow, wr_u64 (n := (q1 : Int) * 4294967296) (by omega) (by omega), wr_u64 (by omega) (by omega)]
  rw [hV, V1] at hqy
  rw [hV, V2] at hmy
  rw [← hqy, hmy, Nat.mul_div_cancel _ hp]
  rfl
end Go.Proofs.YtgjncgiekniniaaGreatDoor.A
end
section
set_option linter.unusedVariables false
set_option linter.unusedSimpArgs false
namespace Go.Proofs.YtgjncgiekniniaaGreatDoor.A
open Go
theorem by_loop {a : List Int} {b N : Nat} (ha : inB LB a) (hb : 0 < b) (hb' : b < 18446744073709551616) (hl : a.length ≤ 800000000) (hN : (N : Int) = valB LB a) :
    ∀ (k : Nat), k ≤ a.length → ∀ (m : Nat) (q : List Int), (m : Int) = valB LB (a.drop k) → q.length = a.length → inB LB q → valB LB (q.drop k) = ((m / b : Nat) : Int) →
      ∃ q', Runs (fun rec x => z60.l0P a b rec some x) (((m % b : Nat) : Int), (k : Int) - 1, q) (((N % b : Nat) : Int), (-1 : Int), q') ∧ q'.length = a.length ∧ inB LB q' ∧ valB LB q' = ((N / b : Nat) : Int)
  | 0, hk, m, q, hm, hq, hi, hv => by
    have : m = N := by rw [List.drop_zero] at hm; omega
    subst this
    refine ⟨q, .done fun rec => ?_, hq, hi, by rwa [List.drop_zero] at hv⟩
    unfold z60.l0P
    simp only
    rw [bif_f (by omega)]; rfl
  | k + 1, hk, m, q, hm, hq, hi, hv => by
    have hka : k < a.length := by omega
    have hkq : k < q.length := by omega
    have hd := getD_in (B := LB) (by decide) ha k
    obtain ⟨d, hd'⟩ : ∃ d : Nat, a.getD k 0 = (d : Int) := ⟨(a.getD k 0).toNat, by omega⟩
    have hd2 : d < 18446744073709551616 := by rw [hd'] at hd; exact_mod_cast hd.2
    obtain ⟨r, hr⟩ : ∃ r, m % b = r := ⟨_, rfl⟩
    have hrb : r < b := hr ▸ Nat.mod_lt m hb
    obtain ⟨x, hx⟩ : ∃ x, r * 18446744073709551616 + d = x := ⟨_, rfl⟩
    have hxb : x < b * 18446744073709551616 := by omega
    obtain ⟨z, hz⟩ : ∃ z, x / b = z := ⟨_, rfl⟩
    obtain ⟨w, hw⟩ : ∃ w, x % b = w := ⟨_, rfl⟩
    obtain ⟨y, hy⟩ : ∃ y, m / b = y := ⟨_, rfl⟩
    have hq1 : z < 18446744073709551616 := hz ▸ Nat.div_lt_of_lt_mul hxb
    have hmm : b * y + r = m := by rw [← hy, ← hr]; exact Nat.div_add_mod m b
    have hm' : ((d + LB * m : Nat) : Int) = valB LB (a.drop k) := by rw [valB_drop, hd', ← hm, Int.natCast_add, Int.natCast_mul]
    have e : d + LB * m = x + b * (LB * y) := by
      have h4 : b * (LB * y) = LB * (b * y) := by rw [← Nat.mul_assoc, Nat.mul_comm b LB, Nat.mul_assoc]
      have h5 : LB * m = LB * (b * y) + LB * r := by rw [← hmm, Nat.mul_add]
      rw [h4, h5, ← hx, Nat.mul_comm r]; show _ = 18446744073709551616 * r + d + LB * (b * y)
      have : LB * r = 18446744073709551616 * r := rfl
      omega
    have hdiv : (d + LB * m) / b = z + LB * y := by rw [e, Nat.add_mul_div_left _ _ hb, hz]
    have hmod : (d + LB * m) % b = w := by rw [e, Nat.add_mul_mod_self_left, hw]
    have hvq : valB LB ((q.set k (z : Int)).drop k) = (((d + LB * m) / b : Nat) : Int) := by
      rw [valB_drop, drop_set_ge, hv, hdiv, hy]
      have : (q.set k (z : Int)).getD k 0 = (z : Int) := by simp [List.getD, hkq]
      rw [this, Int.natCast_add, Int.natCast_mul]
    obtain ⟨q', r1, r2, r3, r4⟩ := by_loop ha hb hb' hl hN k (by omega) (d + LB * m) (q.set k (z : Int)) hm' (by simp [hq]) (inB_set hi (by show (0 : Int) ≤ (z : Int) ∧ (z : Int) < ((18446744073709551616 : Nat) : Int); omega)) hvq
    rw [hmod] at r1
    refine ⟨q', .step (fun rec => ?_) r1, r2, r3, r4⟩
    have ek : ((k + 1 : Nat) : Int) - 1 = (k : Int) := by omega
    unfold z60.l0P
    simp only
    rw [ek, bif_t (by omega), if_pos (by omega), Int.toNat_natCast, hd', hr, bits_Div64 hrb hd2 hb', hx, hz, hw]
    simp only [Option.bind_some]
    rw [if_pos (by omega), if_pos hkq, wr_i64 (by omega) (by omega)]
theorem quot_by {a b : Nat} (hb : 0 < b) (hb' : b < 18446744073709551616) (ha : (lb a).length ≤ 800000000) : ∃ q, z60.F (lb a) (b : Int) = some (q, ((a % b : Nat) : Int)) ∧ q.length = (lb a).length ∧ inB LB q ∧ valB LB q = ((a / b : Nat) : Int) := by
  obtain ⟨q', r1, r2, r3, r4⟩ := by_loop (a := lb a) (b := b) (N := a) (toB_in bL a) hb hb' ha (by rw [valB_toB bL]) (lb a).length (Nat.le_refl _) 0 (List.replicate (lb a).length 0) (by rw [List.drop_length]; rfl) (by simp) (inB_replicate (by decide) _) (by rw [List.drop_eq_nil_of_le (by simp)]; simp [valB])
  rw [Nat.zero_mod] at r1
  have e : z60.l0 (lb a) (b : Int) ((0 : Int), ((lb a).length : Int) - 1, List.replicate (lb a).length 0) = some (((a % b : Nat) : Int), (-1 : Int), q') := r1.lfp
  refine ⟨q', ?_, r2, r3, r4⟩
  unfold z60.F
  rw [if_pos (by omega), Int.toNat_natCast, wr_i64 (by omega) (by omega), e]
  rfl
theorem DivOK_one {a b : Nat} (hb : 0 < b) (hb' : b < 18446744073709551616) (ha : (lb a).length ≤ 800000000) : DivOK a b := by
  rcases Nat.lt_or_ge a b with h | h
  · exact DivOK_lt h (by omega)
  · have hl : (lb b).length ≤ 1 := toB_len_le bL (by simpa using hb')
    obtain ⟨q, q1, q2, q3, q4⟩ := quot_by hb hb' ha
    unfold DivOK z61.F
    rw [nat_Zero]
    simp only [Option.bind_some]
    rw [bif_f (by omega), nat_Cmp (by omega)]
    simp only [Option.bind_some]
    have : ¬ cmpI (a : Int) b < 0 := by unfold cmpI; rw [if_neg (by omega)]; split <;> omega
    rw [bif_f this, nat_Limbs (by show List.length _ ≤ _; omega), nat_Limbs (by show List.length _ ≤ _; omega)]
    simp only [Option.bind_some]
    rw [lb_one hb hb', List.length_singleton, bif_t (by omega), if_pos (by omega), show [(b : Int)].getD 0 0 = b from rfl, q1]
    simp only [Option.bind_some]
    rw [nat_Of_gen q3 (by show List.length _ ≤ _; omega), q4]
    simp only [Option.bind_some]
    have hm := Nat.mod_lt a hb
    rw [nat_Of1 (by omega)]
    rfl
end Go.Proofs.YtgjncgiekniniaaGreatDoor.A
end
section
set_option linter.unusedVariables false
set_option linter.unusedSimpArgs false
namespace Go.Proofs.YtgjncgiekniniaaGreatDoor.A
open Go
inductive Rem (len : Nat) : Nat → Nat → List Int → Prop
  | stop (j : Nat) (h : len ≤ j) : Rem len 0 j []
  | step (n j : Nat) (ds : List Int) (h : 0 < n ∨ j < len) (hr : Rem len (n / 10) (j + 1) ds) : Rem len n j (((n % 10 : Nat) : Int) :: ds)
def asc (d : Int) : Int := 48 + d
theorem drop_set_here {s : List Int} {i : Nat} {x : Int} (h : i < s.length) : (s.set i x).drop i = x :: s.drop (i + 1) := by
  rw [List.drop_eq_getElem_cons (by simpa using h), drop_set_ge]
  simp
theorem small_loop {len : Nat} (hlen : len ≤ 20) {n j : Nat} {ds : List Int} (h : Rem len n j ds) : n < 18446744073709551616 → j + ds.length ≤ 20 → ∀ s : List Int, s.length = 20 →
    ∃ s', Runs (fun rec x => z110.l0b4P (len : Int) rec some x) ((n : Int), ((20 - j : Nat) : Int), s) ((0 : Int), ((20 - j - ds.length : Nat) : Int), s') ∧ s'.length = 20 ∧ s'.drop (20 - j - ds.length) = ds.reverse.map asc ++ s.drop (20 - j) := by
  induction h with
  | stop j h =>
    intro _ hj s hs
    simp only [List.length_nil, Nat.add_zero] at hj
    refine ⟨s, .done fun rec => ?_, hs, by simp⟩
    unfold z110.l0b4P
    simp only [List.length_nil, Nat.sub_zero]
    rw [bif_f (by omega), wr_i64 (by omega) (by omega), bif_f (by omega)]
    rfl
  | step n j ds h hr ih =>
    intro hn hj s hs
    simp only [List.length_cons] at hj
    have hi : 20 - (j + 1) < s.length := by omega
    obtain ⟨s', r1, r2, r3⟩ := ih (by omega) (by omega) (s.set (20 - (j + 1)) (asc ((n % 10 : Nat) : Int))) (by simpa using hs)
    refine ⟨s', ?_, r2, ?_⟩
    · rw [List.length_cons, show 20 - j - (ds.length + 1) = 20 - (j + 1) - ds.length by omega]
      refine .step (fun rec => ?_) r1
      have e1 : wr .i64 (((20 - j : Nat) : Int) - 1) = ((20 - (j + 1) : Nat) : Int) := by rw [wr_i64 (by omega) (by omega)]; omega
      have e2 : wr .u64 (Int.tdiv (n : Int) 10) = ((n / 10 : Nat) : Int) := by rw [tdiv_ediv (by omega), wr_u64 (by omega) (by omega)]; rfl
      have e3 : wr .u8 (wr .u64 (48 + Int.tmod (n : Int) 10)) = asc ((n % 10 : Nat) : Int) := by
        rw [tmod_emod (by omega), wr_u64 (by omega) (by omega), wr_u8 (by omega) (by omega)]; rfl
      unfold z110.l0b4P
      simp only [e1, e2, e3]
      rcases Nat.eq_zero_or_pos n with h0 | h0
      · have hjl : j < len := h.resolve_left (by omega)
        rw [bif_f (by omega), wr_i64 (by omega) (by omega), bif_t (by omega), if_pos (by omega), Int.toNat_natCast, if_pos hi]
      · rw [bif_t (by omega), if_pos (by omega), Int.toNat_natCast, if_pos hi]
    · rw [List.length_cons, show 20 - j - (ds.length + 1) = 20 - (j + 1) - ds.length by omega, r3, drop_set_here hi, show 20 - (j + 1) + 1 = 20 - j by omega]
      simp
theorem asc_ch {ds : List Int} (h : inB 10 ds) : (ds.map asc).map (fun n => UInt8.ofNat n.toNat) = ds.map ch := by
  rw [List.map_map]
  refine List.map_congr_left fun d hd => ?_
  have := h d hd
  show UInt8.ofNat (48 + d).toNat = UInt8.ofNat (48 + d.toNat)
  rw [show (48 + d).toNat = 48 + d.toNat by omega]
theorem Rem.inB {len n j : Nat} {ds : List Int} (h : Rem len n j ds) : inB 10 ds := by
  induction h with
  | stop => exact inB_nil _
  | step n j ds h hr ih => exact inB_cons.2 ⟨by omega, ih⟩
theorem inB_rev {B : Nat} {l : List Int} (h : inB B l) : inB B l.reverse := fun x hx => h x (by simpa using hx)
theorem digits_small_ok {len n : Nat} {ds : List Int} (hlen : len ≤ 20) (hn : n < 18446744073709551616) (h : Rem len n 0 ds) (hd : ds.length ≤ 20) : z110.F (n : Int) (len : Int) = some (ds.reverse.map ch) := by
  obtain ⟨s', r1, r2, r3⟩ := small_loop hlen h hn (by omega) (List.replicate 20 0) (by simp)
  have e : z110.l0b4 (len : Int) ((n : Int), (20 : Int), List.replicate 20 (0 : Int)) = some ((0 : Int), ((20 - 0 - ds.length : Nat) : Int), s') := r1.lfp
  unfold z110.F
  rw [e]
  simp only [Option.bind_some]
  have hl : (s'.drop (20 - 0 - ds.length)).length = ds.length := by rw [List.length_drop]; omega
  rw [if_pos r2, if_pos (by omega), Int.toNat_natCast, List.take_of_length_le (by rw [hl]; omega), r3]
  simp only [Nat.sub_zero, List.drop_replicate, Nat.sub_self, List.replicate_zero, List.append_nil]
  rw [asc_ch (inB_rev h.inB)]
def lsd : Nat → Nat → List Int
  | 0, _ => []
  | k + 1, n => ((n % 10 : Nat) : Int) :: lsd k (n / 10)
theorem lsd_len : ∀ (k n : Nat), (lsd k n).length = k
  | 0, _ => rfl
  | k + 1, n => by simp [lsd, lsd_len k]
theorem rem_lsd {len : Nat} : ∀ (k n j : Nat), j + k = len → n < 10 ^ k → Rem len n j (lsd k n)
  | 0, n, j, hj, hn => by
    have : n = 0 := by simpa using hn
    subst this; exact .stop j (by omega)
  | k + 1, n, j, hj, hn => .step n j _ (.inr (by omega)) (rem_lsd k (n / 10) (j + 1) (by omega) (by rw [Nat.pow_succ] at hn; omega))
theorem rem_toB {len : Nat} (n : Nat) : ∀ j, (len ≤ j ∨ 0 < n ∧ len ≤ j + 1) → Rem len n j (toB 10 n) := by
  induction n using Nat.strongRecOn with
  | _ n ih =>
    intro j hj
    rcases Nat.eq_zero_or_pos n with h0 | h0
    · subst h0; rw [toB_zero]; exact .stop j (by omega)
    · rw [toB_pos b10 h0]
      exact .step n j _ (.inl h0) (ih _ (Nat.div_lt_self h0 (by decide)) (j + 1) (.inl (by omega)))
theorem toB_groups : ∀ (k low q : Nat), 0 < q → low < 10 ^ k → toB 10 (low + 10 ^ k * q) = lsd k low ++ toB 10 q
  | 0, low, q, hq, hl => by
    have : low = 0 := by simpa using hl
    subst this; simp [lsd]
  | k + 1, low, q, hq, hl => by
    have hp : 0 < 10 ^ k := Nat.pow_pos (by decide)
    have hpq : 0 < 10 ^ k * q := Nat.mul_pos hp hq
    have e : low + 10 ^ (k + 1) * q = low + 10 * (10 ^ k * q) := by rw [Nat.pow_succ, Nat.mul_comm (10 ^ k), Nat.mul_assoc]
    rw [e, toB_pos b10 (by omega), lsd]
    rw [Nat.add_mul_mod_self_left, Nat.add_mul_div_left _ _ (by decide), toB_groups k (low / 10) q hq (by rw [Nat.pow_succ] at hl; omega)]
    rfl
end Go.Proofs.YtgjncgiekniniaaGreatDoor.A
end
section
set_option linter.unusedVariables false
set_option linter.unusedSimpArgs false
namespace Go.Proofs.YtgjncgiekniniaaGreatDoor.A
open Go
inductive Groups : Nat → List (List UInt8) → Prop
  | zero : Groups 0 []
  | last (n : Nat) (h0 : 0 < n) (h : n < 10 ^ 18) : Groups n [(toB 10 n).reverse.map ch]
  | more (low q : Nat) (gs : List (List UInt8)) (hl : low < 10 ^ 18) (h0 : 0 < q) (hg : Groups q gs) : Groups (low + 10 ^ 18 * q) (((lsd 18 low).reverse.map ch) :: gs)
theorem Groups.text {n : Nat} {gs : List (List UInt8)} (h : Groups n gs) : gs.reverse.flatten = (toB 10 n).reverse.map ch := by
  induction h with
  | zero => rw [toB_zero]; rfl
  | last n h0 h => simp
  | more low q gs hl h0 hg ih =>
    rw [List.reverse_cons, List.flatten_append, ih, toB_groups 18 low q h0 hl, List.reverse_append, List.map_append]
    simp
theorem Groups.pos {n : Nat} {gs : List (List UInt8)} (h : Groups n gs) : ∀ g ∈ gs, 1 ≤ g.length := by
  induction h with
  | zero => intro g hg; simp at hg
  | last n h0 h =>
    intro g hg
    simp only [List.mem_singleton] at hg; subst hg
    rw [toB_pos b10 h0]; simp
  | more low q gs hl h0 hg ih =>
    intro g hg
    rcases List.mem_cons.1 hg with rfl | hg
    · simp [lsd_len]
    · exact ih g hg
theorem flat_pos : ∀ {gs : List (List UInt8)}, (∀ g ∈ gs, 1 ≤ g.length) → gs.length ≤ gs.flatten.length
  | [], _ => by simp
  | g :: gs, h => by
    have := h g (by simp)
    have := flat_pos fun g' h' => h g' (List.mem_cons_of_mem _ h')
    simp only [List.length_cons, List.flatten_cons, List.length_append]; omega
theorem Groups.len {n : Nat} {gs : List (List UInt8)} (h : Groups n gs) : gs.length ≤ sz n ∧ gs.flatten.length = sz n := by
  have ht := congrArg List.length h.text
  have e : gs.reverse.flatten.length = gs.flatten.length := by
    simp only [List.length_flatten, List.map_reverse, List.sum_reverse]
  rw [e] at ht
  have ht : gs.flatten.length = sz n := by rw [ht]; unfold sz; simp
  exact ⟨by rw [← ht]; exact flat_pos h.pos, ht⟩
theorem print_low (l : List Int) (hl : l.length ≤ 1) : z111.l2 l (((l.length : Nat) : Int)) ((0 : Int), (0 : Int)) = some (l.getD 0 0, (l.length : Int)) := by
  match l, hl with
  | [], _ =>
    refine (Runs.done fun rec => ?_ : Runs (fun rec x => z111.l2P [] _ rec some x) _ _).lfp
    unfold z111.l2P
    simp only [List.length_nil]
    rw [bif_f (by omega)]; rfl
  | [x], _ =>
    refine (Runs.step (y := (x, (1 : Int))) (fun rec => ?_) (Runs.done fun rec => ?_) : Runs (fun rec x' => z111.l2P [x] _ rec some x') _ _).lfp
    · unfold z111.l2P
      simp only [List.length_singleton]
      rw [bif_t (by omega), if_pos (by omega), wr_i64 (by omega) (by omega)]; rfl
    · unfold z111.l2P
      simp only [List.length_singleton]
      rw [bif_f (by omega)]; rfl
theorem lb_getD {n : Nat} (h : n < 18446744073709551616) : (lb n).getD 0 0 = (n : Int) ∧ (lb n).length ≤ 1 := by
  rcases Nat.eq_zero_or_pos n with rfl | h0
  · rw [lb_zero]; simp
  · rw [lb_one h0 h]; simp
theorem print_j {low : Nat} {len : Nat} {ds : List Int} (hlen : len ≤ 20) (hl : low < 18446744073709551616) (hr : Rem len low 0 ds) (hd : ds.length ≤ 20) {gs : List (List UInt8)} (hg : gs.length ≤ 800000000) {rec done : (List Int × List (List UInt8)) → Option (List Int × List (List UInt8))} {y : Int} {r : List Int × List Int × Int} :
    z111.j1010a rec done ((low : Int), y) (len : Int) gs r = rec (r.1, gs ++ [ds.reverse.map ch]) := by
  unfold z111.j1010a
  rw [digits_small_ok hlen hl hr hd]
  simp only [Option.bind_some, List.length_singleton]
  rw [if_pos (by omega)]
theorem print_groups : ∀ (n : Nat), sz n ≤ 100000000 → ∀ gs : List (List UInt8), gs.length + sz n ≤ 700000000 → ∃ l, Groups n l ∧ Runs (fun rec x => z111.l0P rec some x) (lb n, gs) ([], gs ++ l) := by
  intro n
  induction n using Nat.strongRecOn with
  | _ n ih =>
    intro hs gs hg
    obtain ⟨U, hU⟩ : ∃ U, U = 1000000000000000000 := ⟨_, rfl⟩
    have hU10 : 10 ^ 18 = U := by rw [hU]
    rcases Nat.eq_zero_or_pos n with h0 | h0
    · subst h0
      refine ⟨[], .zero, .done fun rec => ?_⟩
      unfold z111.l0P
      simp only [nat_Zero, Option.bind_some]
      rw [lb_zero, List.append_nil]; rfl
    · have hUp : 0 < U := by omega
      have hdm := Nat.div_add_mod n U
      have hml := Nat.mod_lt n hUp
      have hdl : n / U ≤ n := Nat.div_le_self _ _
      have hD : DivOK n U := DivOK_one hUp (by omega) (by have := lb_sz n; omega)
      have hqlt : n / U < n := Nat.div_lt_self h0 (by omega)
      obtain ⟨q, hq⟩ : ∃ q, n / U = q := ⟨_, rfl⟩
      obtain ⟨low, hlow⟩ : ∃ low, n % U = low := ⟨_, rfl⟩
      unfold DivOK at hD
      rw [hq] at hdm hdl hD hqlt; rw [hlow] at hdm hml hD
      have hsq : sz q ≤ sz n := sz_mono hdl
      obtain ⟨g1, g2⟩ := lb_getD (n := low) (by omega)
      have hof : z34.F [(1000000000000000000 : Int)] = some (lb U) := by rw [nat_Of1 (by omega), hU]; rfl
      have hl2 := print_low (lb low) g2
      rw [g1] at hl2
      have body : ∀ {rec done : (List Int × List (List UInt8)) → Option (List Int × List (List UInt8))}, z111.l0P rec done (lb n, gs) =
          (bif decide (q = 0) then z111.j1010a rec done ((low : Int), ((lb low).length : Int)) 1 gs (lb q, lb low, 0) else z111.j1010a rec done ((low : Int), ((lb low).length : Int)) 18 gs (lb q, lb low, 0)) := fun {rec done} => by
        unfold z111.l0P
        simp only [nat_Zero, Option.bind_some]
        rw [decide_eq_false (by omega), Bool.not_false, cond_true, hof]
        simp only [Option.bind_some]
        rw [hD]
        simp only [Option.bind_some]
        rw [nat_Limbs (by show List.length _ ≤ _; omega)]
        simp only [Option.bind_some]
        rw [hl2]
        simp only [Option.bind_some, nat_Zero]
      rcases Nat.eq_zero_or_pos q with hq0 | hq0
      · subst hq0
        have hn : n = low := by omega
        subst hn
        have hsz : sz n ≤ 18 := sz_le (by rw [hU10]; exact hml)
        refine ⟨[(toB 10 n).reverse.map ch], .last n h0 (by rw [hU10]; exact hml), .step (y := ([], gs ++ [(toB 10 n).reverse.map ch])) (fun rec => ?_) (.done fun rec => ?_)⟩
        · rw [body, bif_t rfl]
          refine (print_j (len := 1) (by omega) (by omega) (rem_toB n 0 (.inr ⟨h0, by omega⟩)) (by show sz n ≤ 20; omega) (by omega)).trans ?_
          rw [lb_zero]
        · unfold z111.l0P
          rw [← lb_zero]
          simp only [nat_Zero, Option.bind_some]
          rw [lb_zero]; rfl
      · obtain ⟨l, l1, l2⟩ := ih q hqlt (by omega) (gs ++ [(lsd 18 low).reverse.map ch]) (by
          have h1 : sz q < sz n := by
            have := congrArg List.length (toB_groups 18 low q hq0 (by rw [hU10]; exact hml))
            rw [List.length_append, lsd_len, hU10, show low + U * q = n by omega] at this
            unfold sz; omega
          simp only [List.length_append, List.length_singleton]; omega)
        have hgn : Groups n (((lsd 18 low).reverse.map ch) :: l) := by
          have := Groups.more low q l (by rw [hU10]; exact hml) hq0 l1
          rwa [hU10, show low + U * q = n by omega] at this
        refine ⟨_, hgn, .step (y := (lb q, gs ++ [(lsd 18 low).reverse.map ch])) (fun rec => ?_) (by rw [show gs ++ ((lsd 18 low).reverse.map ch) :: l = (gs ++ [(lsd 18 low).reverse.map ch]) ++ l by simp]; exact l2)⟩
        rw [body, bif_f (by omega)]
        exact print_j (len := 18) (by omega) (by omega) (rem_lsd 18 low 0 (by omega) (by rw [hU10]; exact hml)) (by rw [lsd_len]; omega) (by omega)
def byts (s : List UInt8) : List Int := s.map fun c => (c.toNat : Int)
theorem byts_append (a b : List UInt8) : byts (a ++ b) = byts a ++ byts b := by simp [byts]
theorem byts_byte (s : List UInt8) : (byts s).all isByte = true := by
  rw [List.all_eq_true]
  intro x hx
  obtain ⟨c, _, rfl⟩ := List.mem_map.1 hx
  have := c.toNat_lt
  simp [isByte]; omega
theorem byts_back (s : List UInt8) : (byts s).map (fun n => UInt8.ofNat n.toNat) = s := by
  unfold byts
  rw [List.map_map]
  conv => rhs; rw [← List.map_id s]
  exact List.map_congr_left fun c _ => by simp
theorem byts_len (s : List UInt8) : (byts s).length = s.length := by simp [byts]
theorem print_build {gs : List (List UInt8)} (hg : gs.length ≤ 800000000) (hs : gs.flatten.length ≤ 100000000) : ∀ (k : Nat), k ≤ gs.length → ∀ acc : List UInt8, acc.length + (gs.take k).flatten.length ≤ 100000000 →
    ∃ i, Runs (fun rec x => z111.l4P gs rec some x) ((k : Int) - 1, byts acc) (i, byts (acc ++ (gs.take k).reverse.flatten))
  | 0, hk, acc, ha => ⟨-1, by
    refine .done fun rec => ?_
    unfold z111.l4P
    simp only
    rw [bif_f (by omega)]; simp⟩
  | k + 1, hk, acc, ha => by
    have hk' : k < gs.length := by omega
    have hget : gs.getD k [] = gs[k] := by simp [List.getD, hk']
    have htk : gs.take (k + 1) = gs.take k ++ [gs[k]] := by rw [List.take_add_one, List.getElem?_eq_getElem hk']; rfl
    have hfl : (gs.take (k + 1)).flatten.length = (gs.take k).flatten.length + gs[k].length := by rw [htk, List.flatten_append, List.length_append, List.flatten_singleton]
    obtain ⟨i, hi⟩ := print_build hg hs k (by omega) (acc ++ gs[k]) (by rw [List.length_append]; omega)
    refine ⟨i, .step (fun rec => ?_) (by rw [htk, List.reverse_append, List.reverse_singleton, List.flatten_append, List.flatten_singleton, ← List.append_assoc]; exact hi)⟩
    unfold z111.l4P
    simp only
    rw [show ((k + 1 : Nat) : Int) - 1 = (k : Int) by omega, bif_t (by omega), if_pos (by omega), Int.toNat_natCast, if_pos hk', hget]
    change (if ((byts acc).length + (byts gs[k]).length) * 1 ≤ 140737488355328 then _ else none) = _
    rw [byts_len, byts_len, if_pos (by omega), wr_i64 (by omega) (by omega), byts_append]
    rfl
theorem digits_Print {n : Nat} (hs : sz n ≤ 100000000) : z111.F (lb n) = some (txt n) := by
  unfold z111.F
  rw [nat_Zero]
  simp only [Option.bind_some]
  rcases Nat.eq_zero_or_pos n with h0 | h0
  · subst h0; rfl
  rw [bif_f (by omega)]
  obtain ⟨gs, g1, g2⟩ := print_groups n hs [] (by simp only [List.length_nil]; omega)
  have e0 : z111.l0 (lb n, []) = some ([], gs) := g2.lfp
  obtain ⟨l1, l2⟩ := g1.len
  have ht := g1.text
  have hn : 0 < gs.length := by
    cases gs with
    | nil => exfalso; cases g1; omega
    | cons => simp
  rw [e0]
  simp only [Option.bind_some]
  obtain ⟨k, hk⟩ : ∃ k, gs.length = k + 1 := ⟨gs.length - 1, by omega⟩
  have hk' : k < gs.length := by omega
  have hget : gs.getD k [] = gs[k] := by simp [List.getD, hk']
  have htk : gs = gs.take k ++ [gs[k]] := by
    have := List.take_add_one (l := gs) (i := k)
    rw [List.getElem?_eq_getElem hk', List.take_of_length_le (by omega)] at this; exact this
  have hfl : gs.flatten.length = (gs.take k).flatten.length + gs[k].length := by
    conv => lhs; rw [htk]
    rw [List.flatten_append, List.length_append, List.flatten_singleton]
  rw [hk, wr_i64 (n := ((k + 1 : Nat) : Int) - 1) (by omega) (by omega), show ((k + 1 : Nat) : Int) - 1 = (k : Int) by omega, bif_t (by omega), if_pos (by omega), Int.toNat_natCast, if_pos (by omega), hget]
  change (if (0 + (byts gs[k]).length) * 1 ≤ 140737488355328 then ((z111.l4 gs (wr .i64 ((k : Int) - 1), [] ++ byts gs[k])).bind _) else none) = _
  rw [byts_len, if_pos (by omega), wr_i64 (by omega) (by omega), List.nil_append]
  obtain ⟨i, hi⟩ := print_build (gs := gs) (by omega) (by omega) k (by omega) gs[k] (by omega)
  have e4 : z111.l4 gs ((k : Int) - 1, byts gs[k]) = some (i, byts (gs[k] ++ (gs.take k).reverse.flatten)) := hi.lfp
  have hall : gs[k] ++ (gs.take k).reverse.flatten = gs.reverse.flatten := by
    conv => rhs; rw [htk]
    rw [List.reverse_append, List.reverse_singleton, List.flatten_append, List.flatten_singleton]
  rw [e4, hall]
  simp only [Option.bind_some]
  have hlen : gs.reverse.flatten.length = sz n := by rw [ht]; unfold sz; simp
  have hszp : 0 < sz n := by omega
  rw [byts_len, if_pos (by omega), if_pos ⟨trivial, by omega, byts_byte _⟩, byts_back, ht]
  unfold txt
  rw [if_neg (by omega)]
end Go.Proofs.YtgjncgiekniniaaGreatDoor.A
end
section
set_option linter.unusedVariables false
set_option linter.unusedSimpArgs false
namespace Go.Proofs.YtgjncgiekniniaaGreatDoor.A
open Go
def itxt (z : Int) : List UInt8 := if z < 0 then 45 :: txt z.natAbs else txt z.natAbs
def qtxt (q : Rat) : List UInt8 := if q.den = 1 then itxt q.num else itxt q.num ++ [47] ++ txt q.den
theorem txt_sz (n : Nat) : (txt n).length ≤ sz n + 1 := by
  unfold txt; split
  · simp
  · unfold sz; simp
theorem itxt_sz (z : Int) : (itxt z).length ≤ sz z.natAbs + 2 := by
  have := txt_sz z.natAbs
  unfold itxt; split
  · simp only [List.length_cons]; omega
  · omega
theorem whole_Print {z : Int} (hs : sz z.natAbs ≤ 100000000) : z112.F (lb z.natAbs) (neg z) = some (itxt z) := by
  have := txt_sz z.natAbs
  unfold z112.F itxt
  by_cases h : z < 0
  · rw [bif_t h, digits_Print hs, if_pos h]
    simp only [Option.bind_some]
    rw [if_pos (by simp only [List.length_singleton]; omega)]; rfl
  · rw [bif_f h, digits_Print hs, if_neg h]; rfl
theorem ref04_Text {z : Int} (hs : sz z.natAbs ≤ 100000000) : z7.F (dg z.natAbs) (neg z) = some (itxt z) := by
  have h1 := txt_sz z.natAbs
  have h2 := dg_sz z.natAbs
  exact ref04_Print (by omega) (by omega)
theorem frac_Print {q : Rat} (hn : sz q.num.natAbs ≤ 100000000) (hd : sz q.den ≤ 100000000) : z113.F (fr q).1 (fr q).2.1 (fr q).2.2 = some (qtxt q) := by
  have h1 := itxt_sz q.num
  have h2 := txt_sz q.den
  show z113.F (lb q.num.natAbs) (neg q.num) (lb (q.den - 1)) = _
  have hp := q.den_pos
  unfold z113.F qtxt
  rw [nat_Zero, whole_Print hn]
  simp only [Option.bind_some]
  by_cases h : q.den = 1
  · rw [bif_t (by omega), if_pos h]
  · rw [bif_f (by omega), if_neg h, if_pos (by simp only [List.length_singleton]; omega), frac_Den q _ _ (by omega)]
    simp only [Option.bind_some]
    rw [digits_Print hd]
    simp only [Option.bind_some]
    rw [if_pos (by simp only [List.length_append, List.length_singleton]; omega)]
theorem ref05_Text {q : Rat} (hn : sz q.num.natAbs ≤ 100000000) (hd : sz q.den ≤ 100000000) : z117.F (rf q).1 (rf q).2.1 (rf q).2.2 = some (qtxt q) := by
  have h1 := itxt_sz q.num
  have h2 := txt_sz q.den
  have h3 := dg_sz q.den
  show z117.F (dg q.num.natAbs) (neg q.num) (dg q.den) = _
  have hp := q.den_pos
  have hj : z117.j2 (dg q.den) (itxt q.num) = some (itxt q.num ++ [47] ++ txt q.den) := by
    unfold z117.j2
    rw [ref01_Print (by omega)]
    simp only [Option.bind_some]
    rw [if_pos (by simp only [List.length_singleton]; omega), if_pos (by simp only [List.length_append, List.length_singleton]; omega)]
  have e : dg q.den = ((q.den % 10000 : Nat) : Int) :: dg (q.den / 10000) := toB_pos b4 hp
  have e1 : ((dg q.den).getD 0 0) = ((q.den % 10000 : Nat) : Int) := by rw [e]; rfl
  have hl := dg_len0 (q.den / 10000)
  have e2 : (dg q.den).length = (dg (q.den / 10000)).length + 1 := by rw [e]; rfl
  unfold z117.F qtxt
  rw [ref04_Text hn]
  simp only [Option.bind_some]
  rw [hj, e1]
  by_cases h : (((dg q.den).length : Nat) : Int) = 1
  · rw [bif_t h, if_pos (by omega)]
    by_cases h' : ((q.den % 10000 : Nat) : Int) = 1
    · rw [bif_t h', if_pos (by omega)]
    · rw [bif_f h', if_neg (by omega)]
  · rw [bif_f h, if_neg (by omega)]
theorem mMoney_sz (s : List UInt8) : sz (mMoney s).1.natAbs ≤ 31 := by
  unfold mMoney
  have hm : ∀ e : Int, sz (Int.natAbs ((0 : Int), e).1) ≤ 31 := fun e => by show sz 0 ≤ 31; rw [sz_zero]; omega
  split
  · exact hm _
  · split
    · exact hm _
    · rename_i h; exact sz_le (by
        have : (10 : Int) ^ 30 = 1000000000000000000000000000000 := by decide
        rw [this] at h
        simp only; omega)
theorem mRate_sz (s : List UInt8) : sz (mRate s).1.num.natAbs ≤ 100 ∧ sz (mRate s).1.den ≤ 100 := by
  obtain ⟨hb1, hb2⟩ := mDec_bound s
  have h0 : sz (Rat.num 0).natAbs ≤ 100 ∧ sz (Rat.den 0) ≤ 100 := by
    show sz 0 ≤ 100 ∧ sz 1 ≤ 100
    exact ⟨by rw [sz_zero]; omega, Nat.le_trans (sz_le (k := 1) (by decide)) (by omega)⟩
  unfold mRate
  generalize mDec s = d at *
  obtain ⟨c, sc, e⟩ := d
  simp only at *
  by_cases h : e ≠ 0
  · rw [if_pos h]; exact h0
  rw [if_neg h]
  by_cases h2 : c < 0 ∨ 1000 * ((10 ^ sc : Nat) : Int) < c ∨ 12 < sc
  · rw [if_pos h2]; exact h0
  rw [if_neg h2]
  have hp12 : 10 ^ sc ≤ 10 ^ 12 := Nat.pow_le_pow_right (by decide) (by omega)
  have hp0 : 0 < 10 ^ sc := Nat.pow_pos (by decide)
  have n1 := mkRat_num_le c hp0
  have n2 := mkRat_den_le c hp0
  have hd0 := (mkRat c (10 ^ sc)).den_pos
  generalize mkRat c (10 ^ sc) = q at *
  have e1 : q / 100 = mkRat q.num (q.den * 100) := by
    rw [rat_div, show (100 : Rat).den = 1 from rfl, show (100 : Rat).num = 100 from rfl, ← Rat.divInt_ofNat]
    simp
  have m1 := mkRat_num_le q.num (show 0 < q.den * 100 by omega)
  have m2 := mkRat_den_le q.num (show 0 < q.den * 100 by omega)
  rw [e1]
  show sz (mkRat q.num (q.den * 100)).num.natAbs ≤ 100 ∧ sz (mkRat q.num (q.den * 100)).den ≤ 100
  exact ⟨Nat.le_trans (sz_le (k := 20) (by omega)) (by omega), Nat.le_trans (sz_le (k := 20) (by omega)) (by omega)⟩
def w0 : List UInt8 := [97, 110, 110, 117, 105, 116, 121]
def w1 : List UInt8 := [108, 105, 110, 101, 97, 114]
def w2 : List UInt8 := [98, 117, 108, 108, 101, 116]
def wIdx (s : List UInt8) : Int := if s = w0 then 0 else if s = w1 then 1 else if s = w2 then 2 else -1
theorem index_words (s : List UInt8) : z114.F [w0, w1, w2] s = some (wIdx s) := by
  have step : ∀ (i : Nat) (w : List UInt8), ([w0, w1, w2] : List (List UInt8))[i]? = some w → ∀ rec : Int → Option (Int ⊕ Int), z114.l0P [w0, w1, w2] s 3 rec some (i : Int) = if s = w then some (.inr (i : Int)) else rec ((i + 1 : Nat) : Int) := fun i w hw rec => by
    have hi : i < 3 := by
      rcases Nat.lt_or_ge i 3 with h | h
      · exact h
      · rw [List.getElem?_eq_none (by simpa using h)] at hw; simp at hw
    unfold z114.l0P
    rw [bif_t (by omega), if_pos (by simp; omega), Int.toNat_natCast, List.getD_eq_getElem?_getD, hw]
    simp only [Option.getD_some]
    rw [wr_i64 (by omega) (by omega)]
    by_cases h : s = w
    · rw [bif_t h, if_pos h]
    · rw [bif_f h, if_neg h]; rfl
  have hend : ∀ rec : Int → Option (Int ⊕ Int), z114.l0P [w0, w1, w2] s 3 rec some 3 = some (.inl 3) := fun rec => by
    unfold z114.l0P
    rw [bif_f (by omega)]
  have key : ∃ o, z114.l0 [w0, w1, w2] s 3 0 = some o ∧ (match o with | .inl _ => (-1 : Int) | .inr q => q) = wIdx s := by
    unfold wIdx
    by_cases h0 : s = w0
    · exact ⟨.inr 0, (Runs.done fun rec => by have := step 0 w0 rfl rec; rw [if_pos h0] at this; exact this : Runs (fun rec x => z114.l0P [w0, w1, w2] s 3 rec some x) 0 _).lfp, by rw [if_pos h0]⟩
    · by_cases h1 : s = w1
      · exact ⟨.inr 1, (Runs.step (y := 1) (fun rec => by have := step 0 w0 rfl rec; rw [if_neg h0] at this; exact this) (Runs.done fun rec => by have := step 1 w1 rfl rec; rw [if_pos h1] at this; exact this) : Runs (fun rec x => z114.l0P [w0, w1, w2] s 3 rec some x) 0 _).lfp, by rw [if_neg h0, if_pos h1]⟩
      · by_cases h2 : s = w2
        · exact ⟨.inr 2, (Runs.step (y := 1) (fun rec => by have := step 0 w0 rfl rec; rw [if_neg h0] at this; exact this) (Runs.step (y := 2) (fun rec => by have := step 1 w1 rfl rec; rw [if_neg h1] at this; exact this) (Runs.done fun rec => by have := step 2 w2 rfl rec; rw [if_pos h2] at this; exact this)) : Runs (fun rec x => z114.l0P [w0, w1, w2] s 3 rec some x) 0 _).lfp, by rw [if_neg h0, if_neg h1, if_pos h2]⟩
        · exact ⟨.inl 3, (Runs.step (y := 1) (fun rec => by have := step 0 w0 rfl rec; rw [if_neg h0] at this; exact this) (Runs.step (y := 2) (fun rec => by have := step 1 w1 rfl rec; rw [if_neg h1] at this; exact this) (Runs.step (y := 3) (fun rec => by have := step 2 w2 rfl rec; rw [if_neg h2] at this; exact this) (Runs.done hend))) : Runs (fun rec x => z114.l0P [w0, w1, w2] s 3 rec some x) 0 _).lfp, by rw [if_neg h0, if_neg h1, if_neg h2]⟩
  obtain ⟨o, h1, h2⟩ := key
  unfold z114.F
  show ((z114.l0 [w0, w1, w2] s 3 0).bind _) = _
  rw [h1]
  simp only [Option.bind_some]
  rw [← h2]
  cases o <;> rfl
theorem terms_Of (s : List UInt8) : z115.F s = some ((if (0 : Int) > wIdx s then (0 : Int) else wIdx s), decide (wIdx s ≥ 0)) := by
  unfold z115.F
  show ((z114.F [w0, w1, w2] s).bind _) = _
  rw [index_words]
  rfl
def t12 : Tm := ⟨[49, 48, 48], [53], 0, 0, 0, 2024, 1, 1, 1, 12⟩
theorem t12_ok : mCheck t12 = 0 := by decide +kernel
theorem rate425 : mRate [52, 46, 50, 53] = (mkRat 17 400, 0) := by decide +kernel
theorem rate1000 : (mRate [49, 48, 48, 48, 46, 49]).2 = 18 := by decide +kernel
theorem money1 : (mMoney [45, 49]).2 = 19 := by decide +kernel
theorem txt_two {n : Nat} (h0 : 10 ≤ n) (h : n < 100) : txt n = [ch ((n / 10 : Nat) : Int), ch ((n % 10 : Nat) : Int)] := by
  unfold txt
  rw [if_neg (by omega), toB_pos b10 (by omega), toB_pos b10 (by omega), Nat.div_eq_of_lt (by omega : n / 10 < 10), toB_zero, Nat.mod_eq_of_lt (by omega : n / 10 < 10)]; rfl
theorem txt_three {n : Nat} (h0 : 100 ≤ n) (h : n < 1000) : txt n = [ch ((n / 10 / 10 : Nat) : Int), ch ((n / 10 % 10 : Nat) : Int), ch ((n % 10 : Nat) : Int)] := by
  unfold txt
  rw [if_neg (by omega), toB_pos b10 (by omega), toB_pos b10 (by omega), toB_pos b10 (by omega), Nat.div_eq_of_lt (by omega : n / 10 / 10 < 10), toB_zero, Nat.mod_eq_of_lt (by omega : n / 10 / 10 < 10)]; rfl
theorem q425 : qtxt (mkRat 17 400) = [49, 55, 47, 52, 48, 48] := by
  have e1 : (mkRat 17 400).num = 17 := by decide +kernel
  have e2 : (mkRat 17 400).den = 400 := by decide +kernel
  unfold qtxt itxt
  rw [e1, e2, if_neg (by decide), if_neg (by decide), show Int.natAbs 17 = 17 from rfl, txt_two (by decide) (by decide), txt_three (by decide) (by decide)]
  rfl
theorem law14_wakes : z116.F = some true := by
  have r1 := terms_Rate [52, 46, 50, 53]
  have r2 := terms_Rate [49, 48, 48, 48, 46, 49]
  have r3 := terms_Money [45, 49]
  have r4 := terms_Of w1
  have r6 := terms_Check t12
  have r7 := terms_Check tNone
  rw [t12_ok] at r6
  rw [tNone_bad] at r7
  rw [rate425] at r1
  rw [rate1000] at r2
  rw [money1] at r3
  have hz := mRate_sz [52, 46, 50, 53]
  rw [rate425] at hz
  have r5 := frac_Print (q := mkRat 17 400) (Nat.le_trans hz.1 (by decide)) (Nat.le_trans hz.2 (by decide))
  rw [q425] at r5
  unfold t12 at r6
  unfold tNone at r7
  simp only at r6 r7
  unfold z116.F
  rw [r1]
  simp only [Option.bind_some]
  rw [r2]
  simp only [Option.bind_some]
  rw [r3]
  simp only [Option.bind_some]
  rw [show ([108, 105, 110, 101, 97, 114] : List UInt8) = w1 from rfl, r4]
  simp only [Option.bind_some]
  rw [r5]
  simp only [Option.bind_some, decide_true, cond_true]
  rw [r6]
  simp only [Option.bind_some, decide_true, cond_true]
  rw [r7]
  rfl
end Go.Proofs.YtgjncgiekniniaaGreatDoor.A
end
section
set_option linter.unusedVariables false
set_option linter.unusedSimpArgs false
namespace Go.Proofs.YtgjncgiekniniaaGreatDoor.A
open Go
theorem cut_at (m : Int) (hm : 0 ≤ m) (s : List UInt8) : ((0 : Int) ≤ (if m < (s.length : Int) then m else (s.length : Int)) ∧ (if m < (s.length : Int) then m else (s.length : Int)) ≤ ((s).length : Int)) ∧ (if m < (s.length : Int) then m else (s.length : Int)).toNat ≤ m.toNat := by
  split <;> omega
theorem texts_law {a0 : List UInt8} : z118.F a0 = some true := by
  have hm := cut_at 200 (by decide) a0
  unfold z118.F
  rw [if_pos hm.1]
  have hk := hm.2
  have hk : (if (200 : Int) < (a0.length : Int) then (200 : Int) else (a0.length : Int)).toNat ≤ 200 := hk
  generalize (if (200 : Int) < (a0.length : Int) then (200 : Int) else (a0.length : Int)).toNat = k at *
  have hs : (a0.take k).length ≤ 1000000 := by rw [List.length_take]; omega
  generalize a0.take k = s at *
  have h1 := mMoney_sz s
  have h2 := mRate_sz s
  rw [terms_Money, ref14_Money s hs]
  simp only [Option.bind_some, wr4]
  rw [terms_Rate, ref14_Rate]
  simp only [Option.bind_some]
  rw [law14_wakes]
  simp only [Option.bind_some, cond_true, decide_true]
  rw [whole_Print (by omega), ref04_Text (by omega)]
  simp only [Option.bind_some, cond_true, decide_true]
  rw [frac_Print (by omega) (by omega), ref05_Text (by omega) (by omega)]
  simp only [Option.bind_some, decide_true]
end Go.Proofs.YtgjncgiekniniaaGreatDoor.A
end
section
set_option linter.unusedVariables false
namespace Go.Proofs.YtgjncgiekniniaaGreatDoor.A
open Go
namespace TermsTexts
theorem law (a0 : List UInt8) (h0 : a0.length ≤ maxLen) : z118.F a0 = some true :=
  texts_law
end TermsTexts
end Go.Proofs.YtgjncgiekniniaaGreatDoor.A
end
section
set_option linter.unusedVariables false
set_option linter.unusedSimpArgs false
set_option maxRecDepth 100000
namespace Go.Proofs.YtgjncgiekniniaaGreatDoor.A
open Go Go.RowKit Go.ChangeShapes Go.WideShapes Go.ChangeAt
noncomputable section
namespace TermsTexts
theorem wide : atsOf Tryz.prog 8 Tryz.f5.params.toList = some [(.one (.sc .s))] := by kernel_rfl
theorem readable : Tryz.f5.params.toList.all (fun t => Tryz.prog.readableRec t && decide (t < Tryz.prog.types.size)) = true := by kernel_rfl
noncomputable def args0 : Array Value := #[.string ⟨#[]⟩]
theorem laid_met (os : Os) : laidMet Tryz.prog Rows.termsTextsRow.laid ((laidWorld os).forCall (fun _ _ => 0) ⟨#[], args0, []⟩).memory :=
  laidMet_of_run' 12 (by kernel_rfl) (by kernel_rfl)
theorem reads (os : Os) {H : Type} (enc : TypeId × Value → H) : ∃ ds places, DataW.whole enc Tryz.prog ((laidWorld os).forCall (fun _ _ => 0) ⟨#[], args0, []⟩).memory Tryz.f5.params.toList Rows.termsTextsSpec.vars false args0.toList 12 = some (ds, [], places) :=
  ⟨[.lit (.string [])], [], by kernel_rfl⟩
theorem plainly (vs : List V) (h : okAL [(.one (.sc .s))] vs) : ∃ p r, SoundC Tryz.prog 5 vs p ∧ p.m = some r ∧ p.enc r = .bool true := by
  obtain ⟨_, _, rfl, ⟨a0, rfl, h0⟩, rfl⟩ := h
  exact ⟨⟨Bool, z118.F a0, z118.enc⟩, true, z118.sound _ _ (by kernel_rfl), law a0 h0, rfl⟩
theorem specFn {H : Type} (ds : List (DataW H)) (h : ds.length = Tryz.f5.params.toList.length) : Rows.termsTextsSpec.fn H ds = { results := [.lit (.bool true)], args := ds } := by
  have h : ds.length = 1 := h.trans (by kernel_rfl)
  match ds, h with
  | [d0], _ => rfl
theorem clos : Tryz.prog.closure 5 = [5, 36, 76, 160, 223, 260, 161, 200, 250, 249, 251, 253, 276, 252, 255, 279, 289, 277, 287, 278, 288, 292, 283, 290, 293, 285, 284, 254, 158, 222, 185, 164, 227, 268, 183, 99, 184, 104, 91, 28, 114, 195, 247, 74, 90, 110, 24, 100, 186, 146, 212, 245, 273, 187, 37, 60, 152, 113, 115, 196, 103, 192, 235, 116, 117, 63, 35, 85, 170, 234, 171, 172, 197, 38, 118, 198, 248, 275, 286, 291, 199, 201, 69, 119, 202, 120, 121, 203, 204, 156, 122, 123, 176, 92, 163, 226, 162, 188, 224, 261, 262, 280, 225, 263, 264, 265, 266, 267, 281, 68, 124, 157, 130, 39, 125, 205, 206, 256, 221, 208, 126, 127, 128, 207, 131, 129, 40, 46, 137, 136, 41, 25, 101, 189, 190, 246, 274, 191, 44, 133, 47, 209, 228, 257, 149, 214, 215, 134, 142, 210, 258, 259, 26, 102, 42] := by kernel_rfl
theorem inPlace : (Rows.termsTextsRow.inPlace == Tryz.prog.inPlace 5) = true := by unfold Program.inPlace; rw [clos]; kernel_rfl
theorem unfollowed : (Rows.termsTextsRow.unfollowed == Tryz.prog.unfollowed 5) = true := by unfold Program.unfollowed; rw [clos]; kernel_rfl
theorem recurses : (Rows.termsTextsRow.recurses == Tryz.prog.recurses 5) = true := by unfold Program.recurses Program.unfollowed; rw [clos]; kernel_rfl
theorem named : (Rows.termsTextsRow.named == Tryz.prog.varsNamed 5) = true := by unfold Program.varsNamed; rw [clos]; kernel_rfl
theorem number : Tryz.prog.funcNamed "chattel/chattellaw14.TermsTexts" = some 5 := by kernel_rfl
theorem goes : false = Rows.termsTextsRow.goesBy Tryz.prog := by
  have h : Tryz.prog.goes 5 = false := by unfold Program.goes Program.unfollowed; rw [clos]; kernel_rfl
  have e : Rows.termsTextsRow.goesBy Tryz.prog = ((Tryz.prog.funcNamed "chattel/chattellaw14.TermsTexts").any Tryz.prog.goes || false) := by kernel_rfl
  rw [e, number]
  simp [h]
theorem j_wf : Rows.termsTextsRow.wf (OpenSpec.ofChange (OpenSpec.ofChange Rows.termsTextsSpec).bare) = true := by kernel_rfl
theorem j_params : (Tryz.f5.params.all (Tryz.pinned.checked.prog.readableRec ·)) = true := by kernel_rfl
theorem j_vars : namedTie Tryz.pinned.checked.prog Rows.termsTextsRow.named (OpenSpec.ofChange Rows.termsTextsSpec).bare.vars = true := by kernel_rfl
theorem j_stops : (Rows.termsTextsRow.stops == []) = true := by kernel_rfl
theorem j_knobs : (Rows.termsTextsRow.knobs == []) = true := by kernel_rfl
theorem j_maps : (Rows.termsTextsRow.maps == (Tryz.f5.params.toList ++ DataSpec.varTypes Tryz.pinned.checked.prog (OpenSpec.ofChange Rows.termsTextsSpec).bare.plain).any (Tryz.pinned.checked.prog.mapsRec ·)) = true := by kernel_rfl
theorem j_ifaces : (Rows.termsTextsRow.ifaces == (Tryz.f5.params.toList ++ DataSpec.varTypes Tryz.pinned.checked.prog (OpenSpec.ofChange Rows.termsTextsSpec).bare.plain).any (Tryz.pinned.checked.prog.ifacesRec ·)) = true := by kernel_rfl
theorem j_mapsOut : (Rows.termsTextsRow.mapsOut == Tryz.pinned.checked.prog.mapsAmong Tryz.f5.resultTypes.toList) = true := by kernel_rfl
theorem j_loops : (Rows.termsTextsRow.loops == (Tryz.f5.params.toList ++ DataSpec.varTypes Tryz.pinned.checked.prog (OpenSpec.ofChange Rows.termsTextsSpec).bare.plain).any (Tryz.pinned.checked.prog.loopsFrom ·)) = true := by kernel_rfl
theorem j_wideKeys : (Rows.termsTextsRow.wideKeys == (Tryz.f5.params.toList ++ DataSpec.varTypes Tryz.pinned.checked.prog (OpenSpec.ofChange Rows.termsTextsSpec).bare.plain ++ Tryz.f5.resultTypes.toList).any (Tryz.pinned.checked.prog.wideKeysFrom ·)) = true := by kernel_rfl
theorem j_varsRead : (OpenSpec.ofChange Rows.termsTextsSpec).bare.vars.all (Tryz.pinned.checked.prog.varReadable ·) = true := by kernel_rfl
theorem j_results : (Tryz.f5.resultTypes.all fun t => Tryz.pinned.checked.prog.readableRec t && decide (t < Tryz.pinned.checked.prog.types.size)) = true := by kernel_rfl
theorem j_ifacesOut : (Rows.termsTextsRow.ifacesOut == Tryz.f5.resultTypes.toList.any (Tryz.pinned.checked.prog.ifacesRec ·)) = true := by kernel_rfl
theorem j_loopsOut : (Rows.termsTextsRow.loopsOut == Tryz.f5.resultTypes.toList.any (Tryz.pinned.checked.prog.loopsFrom ·)) = true := by kernel_rfl
theorem j_plainKeys : (Rows.termsTextsRow.plainKeys == Tryz.pinned.checked.prog.plainKeys) = true := by kernel_rfl
theorem j_short : Rows.termsTextsRow.shortTexts.isNone = true := by kernel_rfl
theorem j_lift : (Rows.termsTextsRow.lifted == Tryz.pinned.checked.prog.liftsFinal) = true := by kernel_rfl
theorem j_make : (Tryz.pinned.checked.prog.make == some Rows.termsTextsRow.make) = true := by kernel_rfl
theorem j_kinds : (Rows.termsTextsRow.kinds == (if Rows.termsTextsRow.domain.isEmpty then [] else Tryz.f5.params.toList.map fun t => match Tryz.pinned.checked.prog.underlying t with | some (.int k) => some k | _ => none)) = true := by kernel_rfl
theorem j_pinned : (Rows.termsTextsRow.pinned == Rows.termsTextsRow.pinnedBy) = true := by kernel_rfl
theorem j_veiled : (Rows.termsTextsRow.veiled == (Tryz.f5.params.toList ++ DataSpec.varTypes Tryz.pinned.checked.prog (OpenSpec.ofChange Rows.termsTextsSpec).bare.plain ++ Tryz.f5.resultTypes.toList).any (Tryz.pinned.checked.prog.veiledRec ·)) = true := by kernel_rfl
theorem j_veiledFits : Rows.termsTextsRow.veiledFits Tryz.pinned.checked.prog Tryz.f5.params.toList (Tryz.f5.params.toList ++ DataSpec.varTypes Tryz.pinned.checked.prog (OpenSpec.ofChange Rows.termsTextsSpec).bare.plain ++ Tryz.f5.resultTypes.toList) = true := by kernel_rfl
theorem joined : joinedFacts Tryz.pinned.checked.prog 5 Tryz.f5 (OpenSpec.ofChange Rows.termsTextsSpec).bare Rows.termsTextsRow = true := by
  unfold joinedFacts
  simp only [Bool.and_eq_true]
  and_intros
  · exact j_wf
  · exact laidOut
  · exact rowed
  · exact j_params
  · exact j_vars
  · exact j_stops
  · exact noStops
  · exact j_knobs
  · exact noKnobs
  · exact inPlace
  · exact unfollowed
  · exact recurses
  · exact named
  · exact j_maps
  · exact j_ifaces
  · exact j_mapsOut
  · exact j_loops
  · exact j_wideKeys
  · exact j_varsRead
  · exact j_results
  · exact j_ifacesOut
  · exact j_loopsOut
  · exact j_plainKeys
  · exact j_short
  · exact heard
  · exact enterable
  · exact j_lift
  · exact j_make
  · exact j_kinds
  · exact j_pinned
  · exact j_veiled
  · exact j_veiledFits
theorem lifted (os : Os) (started : os.Started) (H : Type) (enc : TypeId × Value → H) (F : Stop.Interp) :
    ReturnsInHanded {} Tryz.checked os 5 .any ((OpenSpec.ofChange Rows.termsTextsSpec).preRow enc Tryz.prog Tryz.f5 Rows.termsTextsRow.domain false Rows.termsTextsRow.laid) (((OpenSpec.ofChange Rows.termsTextsSpec).at F).post enc Tryz.prog Tryz.f5 false true false false) := by
  obtain ⟨ds0, places, hx⟩ := reads os enc
  refine returnsInHanded_of_row (C := Tryz.checked) (s := OpenSpec.ofChange Rows.termsTextsSpec) own started (by kernel_rfl) Tryz.func5
    (witness_row_at (enc := enc) (C := Tryz.checked) false (laidWorld os) args0 rfl (by kernel_rfl) (by kernel_rfl) (by kernel_rfl)
      (OpenSpec.preRow_of_cond 12 hx (by kernel_rfl) (fun k hk => by cases hk) (by kernel_rfl) (laid_met os))) ?_
  intro W base args ds gs before hval hW _ _ _ hL _ _
  exact law_contract fun5 laidOut readable wide (tb := 4) (by kernel_rfl) (by kernel_rfl) rfl specFn plainly W base args ds gs before hval hW
theorem wrapped : Tryz.f5.isWrapper Tryz.pinned.checked.prog Rows.termsTextsRow.wrapper Rows.termsTextsRow.mainSum := by
  unfold Func.isWrapper; first | (rw [if_pos (by decide +kernel)]; kernel_rfl) | (rw [if_neg (by decide +kernel)]; exact ⟨rfl, rfl⟩)
theorem origin : Tryz.f5.isInstance Tryz.pinned.checked.prog Rows.termsTextsRow.origin Rows.termsTextsRow.targs := of_decide_eq_true (by kernel_rfl)
theorem said : Rows.TermsTextsSaid :=
  OpenClaim.holds_of_cond 5 Tryz.f5 rfl rfl rfl rfl rfl rfl rfl ⟨rfl, rfl, rfl, rfl, rfl⟩ rfl rfl rfl rfl rfl number Tryz.func5 joined origin wrapped
    (fun os started H enc _ F => by rw [OpenClaim.pre_eq_preRow]; exact lifted os started H enc F)
theorem plainRow (f : FuncId) (fn : Func) (hf : Tryz.pinned.checked.prog.funcNamed "chattel/chattellaw14.TermsTexts" = some f) (hfn : Tryz.pinned.checked.prog.funcs[f]? = some fn) :
    false = Tryz.pinned.checked.prog.looks [] ∧ ∀ (j : Nat) t, fn.params[j]? = some t → Tryz.pinned.checked.prog.wantsStandIn t = false := by
  obtain rfl : f = 5 := Option.some.inj (number.symm.trans hf) |>.symm
  obtain rfl : fn = Tryz.f5 := (Option.some.inj (Tryz.func5.symm.trans hfn)).symm
  refine ⟨looksOff, fun j t ht => ?_⟩
  have hall : Tryz.f5.params.toList.all (fun t => !Tryz.prog.wantsStandIn t) = true := by kernel_rfl
  have := List.all_eq_true.1 hall t (by simpa using Array.mem_of_getElem? ht)
  exact Bool.not_eq_true' _ |>.mp this
theorem card : Rows.TermsTextsCardSaid :=
  Claim7.holds_tied_plain_at .later [] _ _ _ _ said (fun _ h => by cases h) (by kernel_rfl) (fun _ h => by cases h) termsTexts_row_tie rfl ⟨rfl, rfl⟩ main rfl plainRow goes
end TermsTexts
end
end Go.Proofs.YtgjncgiekniniaaGreatDoor.A
end
