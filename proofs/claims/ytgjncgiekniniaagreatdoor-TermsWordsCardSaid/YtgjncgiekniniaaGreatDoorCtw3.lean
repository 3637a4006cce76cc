/- TermsWords.card: part 3 of the proof. -/
import Derived.Test.YtgjncgiekniniaaGreatDoorCtw2
import Derived.Deep.DeepHandedRow
import Derived.Lib.LaidTab
section
set_option linter.unusedVariables false
namespace Go.Proofs.YtgjncgiekniniaaGreatDoor.A
open Go
def Runs {σ R : Type} (F : (σ → Option R) → σ → Option R) (x : σ) (r : R) : Prop :=
  (∃ n, iterF F n x = some r) ∧ ∀ n, iterF F n x = none ∨ iterF F n x = some r
theorem Runs.done {σ R : Type} {F : (σ → Option R) → σ → Option R} {x : σ} {r : R} (h : ∀ rec, F rec x = some r) : Runs F x r := by
  refine ⟨⟨1, h _⟩, fun n => ?_⟩
  cases n with
  | zero => exact .inl rfl
  | succ n => exact .inr (h _)
theorem Runs.step {σ R : Type} {F : (σ → Option R) → σ → Option R} {x y : σ} {r : R} (h : ∀ rec, F rec x = rec y) (hy : Runs F y r) : Runs F x r := by
  obtain ⟨⟨m, hm⟩, ha⟩ := hy
  refine ⟨⟨m + 1, by rw [← hm]; exact h _⟩, fun n => ?_⟩
  cases n with
  | zero => exact .inl rfl
  | succ n => have := ha n; rw [← h (iterF F n)] at this; exact this
theorem Runs.lfp {σ R : Type} {F : (σ → Option R) → σ → Option R} {x : σ} {r : R} (h : Runs F x r) : A.lfp F x = some r := by
  obtain ⟨⟨m, hm⟩, ha⟩ := h
  unfold A.lfp
  have hex : ∃ n, (iterF F n x).isSome := ⟨m, by rw [hm]; rfl⟩
  rw [dif_pos hex]
  rcases ha (Classical.choose hex) with h0 | h0
  · have := Classical.choose_spec hex
    rw [h0] at this; simp at this
  · exact h0
theorem wr_i64 {n : Int} (h1 : -9223372036854775808 ≤ n) (h2 : n < 9223372036854775808) : wr .i64 n = n := by
  simp only [wr, IntKind.wrap, IntKind.signed, IntKind.bits]
  simp; omega
theorem wr_u64 {n : Int} (h1 : 0 ≤ n) (h2 : n < 18446744073709551616) : wr .u64 n = n := by
  simp only [wr, IntKind.wrap, IntKind.signed, IntKind.bits]
  simp; omega
theorem wr_u64_mod (n : Int) : wr .u64 n = n % 18446744073709551616 := by
  simp [wr, IntKind.wrap, IntKind.signed, IntKind.bits]
theorem wr_u8 {n : Int} (h1 : 0 ≤ n) (h2 : n < 256) : wr .u8 n = n := by
  simp only [wr, IntKind.wrap, IntKind.signed, IntKind.bits]
  simp; omega
theorem tdiv_ediv {a b : Int} (h : 0 ≤ a) : Int.tdiv a b = a / b := Int.tdiv_eq_ediv_of_nonneg h
theorem tmod_emod {a b : Int} (h : 0 ≤ a) : Int.tmod a b = a % b := Int.tmod_eq_emod_of_nonneg h
end Go.Proofs.YtgjncgiekniniaaGreatDoor.A
end
section
set_option linter.unusedVariables false
set_option linter.unusedSimpArgs false
namespace Go.Proofs.YtgjncgiekniniaaGreatDoor.A
open Go
def toB (B n : Nat) : List Int := if h : 2 ≤ B ∧ 0 < n then ((n % B : Nat) : Int) :: toB B (n / B) else []
termination_by n
decreasing_by exact Nat.div_lt_self h.2 h.1
def valB (B : Nat) : List Int → Int
  | [] => 0
  | x :: l => x + B * valB B l
theorem toB_zero (B : Nat) : toB B 0 = [] := by unfold toB; rw [dif_neg]; omega
theorem toB_pos {B n : Nat} (hB : 2 ≤ B) (hn : 0 < n) : toB B n = ((n % B : Nat) : Int) :: toB B (n / B) := by
  rw [toB]; rw [dif_pos ⟨hB, hn⟩]
def inB (B : Nat) (l : List Int) : Prop := ∀ x ∈ l, 0 ≤ x ∧ x < B
theorem inB_cons {B : Nat} {x : Int} {l : List Int} : inB B (x :: l) ↔ (0 ≤ x ∧ x < B) ∧ inB B l := by simp [inB]
theorem inB_nil (B : Nat) : inB B [] := by simp [inB]
theorem toB_in {B : Nat} (hB : 2 ≤ B) (n : Nat) : inB B (toB B n) := by
  induction n using Nat.strongRecOn with
  | _ n ih =>
    rcases Nat.eq_zero_or_pos n with rfl | hn
    · rw [toB_zero]; exact inB_nil B
    · rw [toB_pos hB hn, inB_cons]
      refine ⟨⟨by omega, ?_⟩, ih _ (Nat.div_lt_self hn hB)⟩
      exact_mod_cast Nat.mod_lt n (by omega)
theorem valB_toB {B : Nat} (hB : 2 ≤ B) (n : Nat) : valB B (toB B n) = n := by
  induction n using Nat.strongRecOn with
  | _ n ih =>
    rcases Nat.eq_zero_or_pos n with rfl | hn
    · rw [toB_zero]; rfl
    · rw [toB_pos hB hn, valB, ih _ (Nat.div_lt_self hn hB)]
      exact_mod_cast Nat.mod_add_div n B
theorem valB_nonneg {B : Nat} : ∀ {l : List Int}, inB B l → 0 ≤ valB B l
  | [], _ => Int.le_refl 0
  | x :: l, h => by
    rw [inB_cons] at h
    have := valB_nonneg h.2
    have := Int.mul_nonneg (Int.natCast_nonneg B) this
    unfold valB; omega
theorem valB_lt {B : Nat} (hB : 2 ≤ B) : ∀ {l : List Int}, inB B l → valB B l < (B ^ l.length : Nat)
  | [], _ => by simp [valB]
  | x :: l, h => by
    rw [inB_cons] at h
    have h1 := valB_lt hB h.2
    have h2 : (B : Int) * (valB B l + 1) ≤ B * (B ^ l.length : Nat) := Int.mul_le_mul_of_nonneg_left (by omega) (by omega)
    have h3 : (B : Int) * (valB B l + 1) = B * valB B l + B := by rw [Int.mul_add, Int.mul_one]
    have h4 : ((B ^ (x :: l).length : Nat) : Int) = B * (B ^ l.length : Nat) := by
      rw [List.length_cons, Nat.pow_succ, Nat.mul_comm]; exact_mod_cast rfl
    rw [h4]; unfold valB; omega
theorem valB_append (B : Nat) : ∀ (l l' : List Int), valB B (l ++ l') = valB B l + (B ^ l.length : Nat) * valB B l'
  | [], l' => by simp [valB]
  | x :: l, l' => by
    rw [List.cons_append, valB, valB, valB_append B l l', List.length_cons, Nat.pow_succ, Nat.mul_comm (B ^ l.length) B, Int.natCast_mul, Int.mul_add, Int.mul_assoc, Int.add_assoc]
theorem toB_of {B : Nat} (hB : 2 ≤ B) : ∀ {l : List Int}, inB B l → (∀ h : l ≠ [], l.getLast h ≠ 0) → l = toB B (valB B l).toNat
  | [], _, _ => by simp [valB, toB_zero]
  | x :: l, h, hl => by
    rw [inB_cons] at h
    have hn := valB_nonneg h.2
    have ih := toB_of hB h.2 fun hne => by have := hl (by simp); rwa [List.getLast_cons hne] at this
    have hpos : 0 < (valB B (x :: l)).toNat := by
      have hm := Int.mul_nonneg (Int.natCast_nonneg B) hn
      unfold valB
      by_cases hx : x = 0
      · have hne : l ≠ [] := fun e => by subst e; exact hl (by simp) (by simpa using hx)
        have : 0 < valB B l := by
          rcases Int.lt_or_eq_of_le hn with h0 | h0
          · exact h0
          · rw [← h0] at ih; simp [toB_zero] at ih; exact absurd ih hne
        have := Int.mul_pos (show (0 : Int) < B by omega) this
        omega
      · omega
    have e1 : (valB B (x :: l)).toNat = x.toNat + B * (valB B l).toNat := by
      have hv : valB B (x :: l) = x + B * valB B l := rfl
      rw [hv]
      have hm := Int.mul_nonneg (Int.natCast_nonneg B) hn
      have : ((B * (valB B l).toNat : Nat) : Int) = B * valB B l := by rw [Int.natCast_mul, Int.toNat_of_nonneg hn]
      omega
    have hx : x.toNat < B := by omega
    rw [toB_pos hB hpos, e1, Nat.add_mul_mod_self_left, Nat.mod_eq_of_lt hx, Nat.add_mul_div_left _ _ (by omega), Nat.div_eq_of_lt hx, Nat.zero_add, ← ih, Int.toNat_of_nonneg h.1.1]
theorem toB_last {B : Nat} (hB : 2 ≤ B) (n : Nat) : ∀ h : toB B n ≠ [], (toB B n).getLast h ≠ 0 := by
  induction n using Nat.strongRecOn with
  | _ n ih =>
    intro h
    rcases Nat.eq_zero_or_pos n with rfl | hn
    · exact absurd (toB_zero B) h
    · have e := toB_pos hB hn
      simp only [e]
      by_cases hq : toB B (n / B) = []
      · simp only [hq, List.getLast_singleton]
        have h0 : n / B = 0 := by
          rcases Nat.eq_zero_or_pos (n / B) with h0 | h0
          · exact h0
          · rw [toB_pos hB h0] at hq; simp at hq
        have : n < B := by
          rcases Nat.lt_or_ge n B with h1 | h1
          · exact h1
          · have := Nat.div_pos h1 (by omega); omega
        rw [Nat.mod_eq_of_lt this]; omega
      · rw [List.getLast_cons hq]
        exact ih _ (Nat.div_lt_self hn hB) hq
theorem toB_nil {B n : Nat} (hB : 2 ≤ B) : toB B n = [] ↔ n = 0 := by
  constructor
  · intro h
    rcases Nat.eq_zero_or_pos n with h0 | h0
    · exact h0
    · rw [toB_pos hB h0] at h; simp at h
  · rintro rfl; exact toB_zero B
theorem toB_len_lt {B n : Nat} (hB : 2 ≤ B) : n < B ^ (toB B n).length := by
  have := valB_lt hB (toB_in hB n)
  rw [valB_toB hB] at this
  exact_mod_cast this
theorem toB_len_le {B : Nat} (hB : 2 ≤ B) : ∀ {k n : Nat}, n < B ^ k → (toB B n).length ≤ k
  | 0, n, h => by have : n = 0 := by simpa using h
                  subst this; simp [toB_zero]
  | k + 1, n, h => by
    rcases Nat.eq_zero_or_pos n with rfl | hn
    · simp [toB_zero]
    · rw [toB_pos hB hn, List.length_cons]
      have : n / B < B ^ k := Nat.div_lt_of_lt_mul (by rw [Nat.pow_succ, Nat.mul_comm] at h; exact h)
      have := toB_len_le hB this
      omega
theorem toB_len_ge {B n : Nat} (hB : 2 ≤ B) (hn : 0 < n) : B ^ ((toB B n).length - 1) ≤ n := by
  rcases Nat.lt_or_ge n (B ^ ((toB B n).length - 1)) with h | h
  · have h1 := toB_len_le hB h
    have h2 : toB B n ≠ [] := fun e => by rw [toB_nil hB] at e; omega
    have := List.length_pos_iff.2 h2
    omega
  · exact h
end Go.Proofs.YtgjncgiekniniaaGreatDoor.A
end
section
set_option linter.unusedVariables false
set_option linter.unusedSimpArgs false
namespace Go.Proofs.YtgjncgiekniniaaGreatDoor.A
open Go
theorem bif_t {α : Type} {p : Prop} [Decidable p] {a b : α} (h : p) : (bif decide p then a else b) = a := by simp [h]
theorem bif_f {α : Type} {p : Prop} [Decidable p] {a b : α} (h : ¬ p) : (bif decide p then a else b) = b := by simp [h]
abbrev short {α : Type} (l : List α) : Prop := l.length ≤ 1000000000
theorem valB_take_succ {B : Nat} {l : List Int} {n : Nat} (h : n < l.length) : valB B (l.take (n + 1)) = valB B (l.take n) + (B ^ n : Nat) * l[n] := by
  rw [List.take_succ_eq_append_getElem h, valB_append, List.length_take, Nat.min_eq_left (by omega)]
  simp [valB]
theorem getD_eq {l : List Int} {n : Nat} (h : n < l.length) : l.getD n 0 = l[n] := by simp [List.getD, h]
theorem ref01_Trim_gen {B : Nat} (hB : 2 ≤ B) {l : List Int} (hl : inB B l) (hs : short l) : z6.F l = some (toB B (valB B l).toNat) := by
  have key : ∀ n : Nat, n ≤ l.length → ∃ m : Nat, m ≤ n ∧ Runs (fun rec x => z6.l0b6P l rec some x) (n : Int) (m : Int) ∧ valB B (l.take m) = valB B (l.take n) ∧ (m = 0 ∨ l.getD (m - 1) 0 ≠ 0) := by
    intro n
    induction n with
    | zero => exact fun _ => ⟨0, Nat.le_refl 0, .done fun rec => by simp [z6.l0b6P], rfl, .inl rfl⟩
    | succ n ih =>
      intro hn
      have hs' : l.length ≤ 1000000000 := hs
      have e : wr .i64 (((n + 1 : Nat) : Int) - 1) = (n : Int) := by rw [wr_i64] <;> omega
      have e0 : ((n + 1 : Nat) : Int) > 0 := by omega
      have e1 : (0 : Int) ≤ (n : Int) ∧ (n : Int) < (l.length : Int) := by omega
      by_cases hz : l.getD n 0 = 0
      · obtain ⟨m, h1, h2, h3, h4⟩ := ih (by omega)
        refine ⟨m, by omega, .step (fun rec => ?_) h2, ?_, h4⟩
        · unfold z6.l0b6P
          rw [bif_t e0, e, if_pos e1, Int.toNat_natCast, bif_t hz]
        · rw [h3, valB_take_succ (show n < l.length by omega), ← getD_eq, hz]; simp
      · refine ⟨n + 1, Nat.le_refl _, .done fun rec => ?_, rfl, .inr (by simpa using hz)⟩
        unfold z6.l0b6P
        rw [bif_t e0, e, if_pos e1, Int.toNat_natCast, bif_f hz]
  obtain ⟨m, h1, h2, h3, h4⟩ := key l.length (Nat.le_refl _)
  unfold z6.F z6.l0b6
  rw [h2.lfp]
  simp only [Option.bind_some]
  rw [if_pos (by omega), Int.toNat_natCast]
  rw [List.take_length] at h3
  rw [← h3]
  congr 1
  apply toB_of hB (fun x hx => hl x (List.mem_of_mem_take hx))
  intro hne
  rcases h4 with rfl | h4
  · simp at hne
  · rw [List.getLast_eq_getElem]
    have hm : 0 < m := by
      rcases Nat.eq_zero_or_pos m with h0 | h0
      · subst h0; simp at hne
      · exact h0
    rw [getD_eq (by omega)] at h4
    simp only [List.length_take, List.getElem_take]
    have : min m l.length - 1 = m - 1 := by omega
    simp only [this]
    exact h4
end Go.Proofs.YtgjncgiekniniaaGreatDoor.A
end
section
set_option linter.unusedVariables false
set_option linter.unusedSimpArgs false
namespace Go.Proofs.YtgjncgiekniniaaGreatDoor.A
open Go
def ch (d : Int) : UInt8 := UInt8.ofNat (48 + d.toNat)
def txt (n : Nat) : List UInt8 := if n = 0 then [48] else (toB 10 n).reverse.map ch
theorem b10 : 2 ≤ 10 := by decide
theorem ch_toNat {d : Int} (h0 : 0 ≤ d) (h : d < 10) : (ch d).toNat = 48 + d.toNat := by
  unfold ch; rw [UInt8.toNat_ofNat']; omega
end Go.Proofs.YtgjncgiekniniaaGreatDoor.A
end
section
set_option linter.unusedVariables false
set_option linter.unusedSimpArgs false
namespace Go.Proofs.YtgjncgiekniniaaGreatDoor.A
open Go
theorem valB_set {B : Nat} : ∀ {l : List Int} {j : Nat} {x : Int}, j < l.length → valB B (l.set j x) = valB B l + (x - l.getD j 0) * (B ^ j : Nat)
  | y :: l, 0, x, _ => by simp [valB]; omega
  | y :: l, j + 1, x, h => by
    have := valB_set (B := B) (l := l) (j := j) (x := x) (by simpa using h)
    rw [List.set_cons_succ, valB, valB, this, List.getD_cons_succ, Nat.pow_succ, Nat.mul_comm (B ^ j) B, Int.natCast_mul, Int.mul_add, Int.add_assoc]
    congr 2
    rw [Int.mul_left_comm]
theorem inB_set {B : Nat} {l : List Int} {j : Nat} {x : Int} (h : inB B l) (hx : 0 ≤ x ∧ x < B) : inB B (l.set j x) := fun y hy => by
  rcases List.mem_or_eq_of_mem_set hy with h1 | rfl
  · exact h y h1
  · exact hx
theorem valB_drop {B : Nat} : ∀ (l : List Int) (k : Nat), valB B (l.drop k) = l.getD k 0 + B * valB B (l.drop (k + 1))
  | [], k => by simp [valB]
  | x :: l, 0 => by simp [valB]
  | x :: l, k + 1 => by rw [List.drop_succ_cons, List.drop_succ_cons, List.getD_cons_succ]; exact valB_drop l k
theorem getD_in {B : Nat} (hB : 0 < B) {l : List Int} (h : inB B l) (k : Nat) : 0 ≤ l.getD k 0 ∧ l.getD k 0 < B := by
  by_cases hk : k < l.length
  · rw [getD_eq hk]; exact h _ (List.getElem_mem hk)
  · simp [List.getD, List.getElem?_eq_none (show l.length ≤ k by omega)]; omega
theorem inB_take {B : Nat} {l : List Int} (h : inB B l) (k : Nat) : inB B (l.take k) := fun x hx => h x (List.mem_of_mem_take hx)
theorem valB_replicate (B : Nat) : ∀ n : Nat, valB B (List.replicate n (0 : Int)) = 0
  | 0 => rfl
  | n + 1 => by rw [List.replicate_succ, valB, valB_replicate B n]; simp
theorem inB_replicate {B : Nat} (hB : 0 < B) (n : Nat) : inB B (List.replicate n (0 : Int)) := fun x hx => by
  rw [List.mem_replicate] at hx; rw [hx.2]; omega
end Go.Proofs.YtgjncgiekniniaaGreatDoor.A
end
section
set_option linter.unusedVariables false
set_option linter.unusedSimpArgs false
namespace Go.Proofs.YtgjncgiekniniaaGreatDoor.A
open Go
def cmpI (m n : Int) : Int := if m < n then -1 else if m = n then 0 else 1
theorem valB_take_lt {B : Nat} (hB : 2 ≤ B) {l : List Int} (h : inB B l) {k : Nat} (hk : k ≤ l.length) : valB B (l.take k) < (B ^ k : Nat) := by
  have := valB_lt hB (inB_take h k)
  rwa [List.length_take, Nat.min_eq_left hk] at this
theorem cmp_part {B : Nat} (hB : 2 ≤ B) {a b : List Int} (ha : inB B a) (hb : inB B b) {k : Nat} (hka : k < a.length) (hkb : k < b.length) :
    (a[k] < b[k] → valB B (a.take (k + 1)) < valB B (b.take (k + 1))) ∧ (a[k] = b[k] → (valB B (a.take (k + 1)) - valB B (b.take (k + 1)) = valB B (a.take k) - valB B (b.take k))) := by
  rw [valB_take_succ hka, valB_take_succ hkb]
  have h1 := valB_take_lt hB ha (k := k) (by omega)
  have h2 := valB_nonneg (inB_take hb k)
  refine ⟨fun h => ?_, fun h => by rw [h]; omega⟩
  have h3 : ((B ^ k : Nat) : Int) * (a[k] + 1) ≤ (B ^ k : Nat) * b[k] := Int.mul_le_mul_of_nonneg_left (by omega) (by omega)
  rw [Int.mul_add, Int.mul_one] at h3
  omega
theorem toB_lt_of_len {B m n : Nat} (hB : 2 ≤ B) (h : (toB B m).length < (toB B n).length) : m < n := by
  have h1 := toB_len_lt (n := m) hB
  have hn : 0 < n := by
    rcases Nat.eq_zero_or_pos n with rfl | h0
    · rw [toB_zero] at h; simp at h
    · exact h0
  have h2 := toB_len_ge hB hn
  have h3 : B ^ (toB B m).length ≤ B ^ ((toB B n).length - 1) := Nat.pow_le_pow_right (by omega) (by omega)
  omega
end Go.Proofs.YtgjncgiekniniaaGreatDoor.A
end
section
set_option linter.unusedVariables false
set_option linter.unusedSimpArgs false
namespace Go.Proofs.YtgjncgiekniniaaGreatDoor.A
open Go
def tv : Int → List UInt8 → Int
  | acc, [] => acc
  | acc, b :: s => tv (10 * acc + (b.toNat : Int) - 48) s
def digit (b : UInt8) : Prop := 48 ≤ b.toNat ∧ b.toNat ≤ 57
def digits (s : List UInt8) : Prop := ∀ b ∈ s, digit b
theorem tv_append : ∀ (s t : List UInt8) (a : Int), tv a (s ++ t) = tv (tv a s) t
  | [], _, _ => rfl
  | b :: s, t, a => tv_append s t _
theorem tv_acc : ∀ (s : List UInt8) (a : Int), tv a s = a * (10 ^ s.length : Nat) + tv 0 s
  | [], a => by simp [tv]
  | b :: s, a => by
    have h1 := tv_acc s (10 * a + (b.toNat : Int) - 48)
    have h2 := tv_acc s (10 * 0 + (b.toNat : Int) - 48)
    show tv (10 * a + (b.toNat : Int) - 48) s = a * _ + tv (10 * 0 + (b.toNat : Int) - 48) s
    rw [h1, h2, List.length_cons, Nat.pow_succ, Int.natCast_mul]
    generalize ((10 ^ s.length : Nat) : Int) = p
    grind
theorem tv_bound : ∀ {s : List UInt8}, digits s → 0 ≤ tv 0 s ∧ tv 0 s < (10 ^ s.length : Nat)
  | [], _ => by simp [tv]
  | b :: s, h => by
    have hb := h b (by simp)
    have ih := tv_bound (s := s) fun x hx => h x (by simp [hx])
    have e : tv 0 (b :: s) = ((b.toNat : Int) - 48) * (10 ^ s.length : Nat) + tv 0 s := by
      show tv (10 * 0 + (b.toNat : Int) - 48) s = _
      rw [tv_acc]; simp
    have hp : (0 : Int) ≤ (10 ^ s.length : Nat) := Int.natCast_nonneg _
    unfold digit at hb
    have h1 : 0 ≤ ((b.toNat : Int) - 48) * (10 ^ s.length : Nat) := Int.mul_nonneg (by omega) hp
    have h2 : ((b.toNat : Int) - 48) * (10 ^ s.length : Nat) ≤ 9 * (10 ^ s.length : Nat) := Int.mul_le_mul_of_nonneg_right (by omega) hp
    rw [e, List.length_cons, Nat.pow_succ, Int.natCast_mul]
    omega
end Go.Proofs.YtgjncgiekniniaaGreatDoor.A
end
section
set_option linter.unusedVariables false
set_option linter.unusedSimpArgs false
namespace Go.Proofs.YtgjncgiekniniaaGreatDoor.A
open Go
theorem tv_rev : ∀ {l : List Int}, inB 10 l → tv 0 (l.reverse.map ch) = valB 10 l
  | [], _ => rfl
  | x :: l, h => by
    rw [inB_cons] at h
    rw [List.reverse_cons, List.map_append, tv_append, tv_rev h.2]
    show 10 * valB 10 l + ((ch x).toNat : Int) - 48 = x + 10 * valB 10 l
    rw [ch_toNat h.1.1 h.1.2]; omega
theorem txt_digits (n : Nat) : digits (txt n) := by
  unfold txt
  split
  · intro b hb; simp at hb; subst hb; unfold digit; decide
  · intro b hb
    rw [List.mem_map] at hb
    obtain ⟨d, hd, rfl⟩ := hb
    have := toB_in b10 n d (List.mem_reverse.1 hd)
    unfold digit
    rw [ch_toNat this.1 this.2]; omega
theorem tv_txt (n : Nat) : tv 0 (txt n) = n := by
  unfold txt
  split
  · rename_i h; subst h; decide
  · rw [tv_rev (toB_in b10 n), valB_toB b10]
theorem txt_ne (n : Nat) : txt n ≠ [] := by
  unfold txt
  split
  · simp
  · rename_i h
    simp only [ne_eq, List.map_eq_nil_iff, List.reverse_eq_nil_iff]
    exact fun e => h ((toB_nil b10).1 e)
theorem txt_head {n : Nat} (hn : n ≠ 0) : ∃ b s, txt n = b :: s ∧ b.toNat ≠ 48 := by
  have h := toB_last b10 n (fun e => hn ((toB_nil b10).1 e))
  have hne : toB 10 n ≠ [] := fun e => hn ((toB_nil b10).1 e)
  have hin := toB_in b10 n _ (List.getLast_mem hne)
  refine ⟨ch ((toB 10 n).getLast hne), ((toB 10 n).dropLast.reverse.map ch), ?_, ?_⟩
  · unfold txt
    rw [if_neg hn]
    conv => lhs; rw [← List.dropLast_concat_getLast hne]
    rw [List.reverse_append]; rfl
  · rw [ch_toNat hin.1 hin.2]; omega
theorem txt_len {n k : Nat} (h : n < 10 ^ k) (hk : 0 < k) : (txt n).length ≤ k := by
  unfold txt
  split
  · show 1 ≤ k; omega
  · rw [List.length_map, List.length_reverse]; exact toB_len_le b10 h
end Go.Proofs.YtgjncgiekniniaaGreatDoor.A
end
section
set_option linter.unusedVariables false
set_option linter.unusedSimpArgs false
namespace Go.Proofs.YtgjncgiekniniaaGreatDoor.A
open Go
abbrev neg (z : Int) : Bool := decide (z < 0)
theorem cmpI_sub (x y : Int) : cmpI (x - y) 0 = cmpI x y := by
  unfold cmpI; split <;> split <;> (try split) <;> (try split) <;> first | rfl | omega
end Go.Proofs.YtgjncgiekniniaaGreatDoor.A
end
section
set_option linter.unusedVariables false
set_option linter.unusedSimpArgs false
namespace Go.Proofs.YtgjncgiekniniaaGreatDoor.A
open Go
abbrev LB : Nat := 18446744073709551616
abbrev lb (n : Nat) : List Int := toB LB n
theorem bL : 2 ≤ LB := by decide
theorem lb_len0 (n : Nat) : (((lb n).length : Nat) : Int) = 0 ↔ n = 0 := by
  constructor
  · intro h; exact (toB_nil bL).1 (List.length_eq_zero_iff.1 (Int.ofNat_eq_zero.1 h))
  · rintro rfl; simp [lb, toB_zero]
theorem nat_Zero (n : Nat) : z7.F (lb n) = some (decide (n = 0)) := by
  unfold z7.F; congr 1; exact decide_eq_decide.2 (lb_len0 n)
theorem nat_limb {l : List Int} {i : Nat} : z10.F l (i : Int) = some (l.getD i 0) := by
  unfold z10.F
  by_cases h : (i : Int) ≥ (l.length : Int)
  · rw [bif_t h]
    have : l.getD i 0 = 0 := by simp [List.getD, List.getElem?_eq_none (show l.length ≤ i by omega)]
    rw [this]
  · rw [bif_f h, if_pos (by omega), Int.toNat_natCast]
theorem nat_trim {l : List Int} (hl : inB LB l) (hs : short l) : z11.F l = some (lb (valB LB l).toNat) := by
  have h := ref01_Trim_gen bL hl hs
  unfold z6.F at h
  unfold z11.F
  have e : z11.l0b6 l = z6.l0b6 l := rfl
  rw [e]
  revert h
  cases z6.l0b6 l ((l.length : Nat) : Int) with
  | none => exact id
  | some o =>
    simp only [Option.bind_some]
    intro h
    split at h
    · rename_i hc
      rw [if_pos ⟨hc.1, Int.le_refl _, hc.2⟩]; exact h
    · simp at h
theorem cmp_int (x y : Int) : z14.F x y = some (cmpI x y) := by
  unfold z14.F z13.F cmpI
  simp only [Option.bind_some, decide_true, Bool.not_true, cond_false]
  by_cases h : x < y
  · rw [bif_t h, if_pos h]
  · rw [bif_f h, if_neg h]
    by_cases h' : x > y
    · rw [bif_t h', if_neg (by omega)]
    · rw [bif_f h', if_pos (by omega)]
theorem cmp_u64 (x y : Int) : z16.F x y = some (cmpI x y) := cmp_int x y
theorem natcmp_loop {a b : List Int} (ha : inB LB a) (hb : inB LB b) (hl : a.length = b.length) (hal : a.length ≤ 900000000) : ∀ k : Nat, k ≤ a.length →
    ∃ o : Int ⊕ Int, Runs (fun rec x => z17.l0P a b rec some x) ((k : Int) - 1) o ∧ (match o with | .inl _ => (0 : Int) | .inr q => q) = cmpI (valB LB (a.take k)) (valB LB (b.take k))
  | 0, _ => ⟨.inl (-1), .done fun rec => by unfold z17.l0P; rw [bif_f (by omega)]; rfl, by simp [cmpI, valB]⟩
  | k + 1, hk => by
    have hka : k < a.length := by omega
    have hkb : k < b.length := by omega
    have e0 : ((k + 1 : Nat) : Int) - 1 = (k : Int) := by omega
    obtain ⟨p1, p2⟩ := cmp_part bL ha hb hka hkb
    obtain ⟨p3, _⟩ := cmp_part bL hb ha hkb hka
    have c1 : (0 : Int) ≤ (k : Int) ∧ (k : Int) < (a.length : Int) := by omega
    have c2 : (0 : Int) ≤ (k : Int) ∧ (k : Int) < (b.length : Int) := by omega
    rw [e0]
    by_cases h : a[k] = b[k]
    · obtain ⟨o, r1, r2⟩ := natcmp_loop ha hb hl hal k (by omega)
      refine ⟨o, .step (fun rec => ?_) r1, ?_⟩
      · unfold z17.l0P
        rw [bif_t (by omega), Int.toNat_natCast, getD_eq hka, getD_eq hkb, if_pos c1, if_pos c2, cmp_u64]
        simp only [Option.bind_some]
        have : cmpI a[k] b[k] = 0 := by unfold cmpI; rw [if_neg (by omega), if_pos h]
        rw [this, wr_i64 (by omega) (by omega)]
        rfl
      · rw [r2]
        have := p2 h
        unfold cmpI
        split <;> split <;> (try split) <;> (try split) <;> first | rfl | omega
    · refine ⟨.inr (cmpI a[k] b[k]), .done fun rec => ?_, ?_⟩
      · unfold z17.l0P
        rw [bif_t (by omega), Int.toNat_natCast, getD_eq hka, getD_eq hkb, if_pos c1, if_pos c2, cmp_u64]
        simp only [Option.bind_some]
        have : ¬ cmpI a[k] b[k] = 0 := by unfold cmpI; split <;> (try split) <;> omega
        rw [decide_eq_false this]
        rfl
      · rcases Int.lt_or_gt_of_ne h with h' | h'
        · have := p1 h'
          unfold cmpI; rw [if_pos h', if_pos this]
        · have := p3 h'
          unfold cmpI; rw [if_neg (by omega), if_neg (by omega), if_neg (by omega), if_neg (by omega)]
theorem nat_Cmp {m n : Nat} (hl : (lb m).length ≤ 900000000) : z17.F (lb m) (lb n) = some (cmpI m n) := by
  unfold z17.F
  rw [cmp_int]
  simp only [Option.bind_some]
  by_cases he : (lb m).length = (lb n).length
  · have e1 : cmpI ((lb m).length : Int) ((lb n).length : Int) = 0 := by unfold cmpI; rw [if_neg (by omega), if_pos (by omega)]
    rw [e1]
    simp only [decide_true, Bool.not_true, cond_false]
    obtain ⟨o, r1, r2⟩ := natcmp_loop (a := lb m) (b := lb n) (toB_in bL m) (toB_in bL n) he hl (lb m).length (Nat.le_refl _)
    rw [wr_i64 (by omega) (by omega)]
    unfold z17.l0
    rw [r1.lfp]
    simp only [Option.bind_some]
    rw [List.take_length, he, List.take_length, valB_toB bL, valB_toB bL] at r2
    rw [← r2]
    cases o <;> rfl
  · rcases Nat.lt_or_gt_of_ne he with h | h
    · have := toB_lt_of_len bL h
      have e1 : cmpI ((lb m).length : Int) ((lb n).length : Int) = -1 := by unfold cmpI; rw [if_pos (by omega)]
      have e2 : cmpI (m : Int) n = -1 := by unfold cmpI; rw [if_pos (by omega)]
      rw [e1, e2]; rfl
    · have := toB_lt_of_len bL h
      have e1 : cmpI ((lb m).length : Int) ((lb n).length : Int) = 1 := by unfold cmpI; rw [if_neg (by omega), if_neg (by omega)]
      have e2 : cmpI (m : Int) n = 1 := by unfold cmpI; rw [if_neg (by omega), if_neg (by omega)]
      rw [e1, e2]; rfl
end Go.Proofs.YtgjncgiekniniaaGreatDoor.A
end
section
set_option linter.unusedVariables false
set_option linter.unusedSimpArgs false
namespace Go.Proofs.YtgjncgiekniniaaGreatDoor.A
open Go
theorem and_mask (a : Int) (h0 : 0 ≤ a) : wr .u64 ((BitVec.ofInt (IntKind.bits .u64) a &&& BitVec.ofInt (IntKind.bits .u64) (4294967295 : Int)).toNat : Int) = a % 4294967296 := by
  have e : (BitVec.ofInt (IntKind.bits .u64) a &&& BitVec.ofInt (IntKind.bits .u64) (4294967295 : Int)).toNat = (a % 4294967296).toNat := by
    rw [BitVec.toNat_and]
    have e1 : (BitVec.ofInt (IntKind.bits .u64) (4294967295 : Int)).toNat = 2 ^ 32 - 1 := rfl
    have e2 : (BitVec.ofInt (IntKind.bits .u64) a).toNat = (a % 18446744073709551616).toNat := by
      rw [BitVec.toNat_ofInt]; rfl
    rw [e1, Nat.and_two_pow_sub_one_eq_mod, e2]
    omega
  rw [e, wr_u64 (by omega) (by omega)]; omega
theorem shr32 (a : Int) : Int.fdiv a (2 ^ (min 32 (64 : Nat))) = a / 4294967296 := by
  rw [Int.fdiv_eq_ediv_of_nonneg _ (by decide)]; rfl
theorem mul64 {a b : Int} (ha : 0 ≤ a ∧ a < 18446744073709551616) (hb : 0 ≤ b ∧ b < 18446744073709551616) : z27.F a b = some (a * b / 18446744073709551616, a * b % 18446744073709551616) := by
  unfold z27.F
  simp only [shr32]
  rw [and_mask a ha.1, and_mask b hb.1]
  generalize hx1 : a / 4294967296 = x1
  generalize hx0 : a % 4294967296 = x0
  generalize hy1 : b / 4294967296 = y1
  generalize hy0 : b % 4294967296 = y0
  have ea : a = 4294967296 * x1 + x0 := by omega
  have eb : b = 4294967296 * y1 + y0 := by omega
  have bx1 : 0 ≤ x1 ∧ x1 ≤ 4294967295 := by omega
  have bx0 : 0 ≤ x0 ∧ x0 ≤ 4294967295 := by omega
  have by1 : 0 ≤ y1 ∧ y1 ≤ 4294967295 := by omega
  have by0 : 0 ≤ y0 ∧ y0 ≤ 4294967295 := by omega
  have m00 : 0 ≤ x0 * y0 ∧ x0 * y0 ≤ 4294967295 * 4294967295 := ⟨Int.mul_nonneg bx0.1 by0.1, Int.mul_le_mul bx0.2 by0.2 by0.1 (by decide)⟩
  have m10 : 0 ≤ x1 * y0 ∧ x1 * y0 ≤ 4294967295 * 4294967295 := ⟨Int.mul_nonneg bx1.1 by0.1, Int.mul_le_mul bx1.2 by0.2 by0.1 (by decide)⟩
  have m01 : 0 ≤ x0 * y1 ∧ x0 * y1 ≤ 4294967295 * 4294967295 := ⟨Int.mul_nonneg bx0.1 by1.1, Int.mul_le_mul bx0.2 by1.2 by1.1 (by decide)⟩
  have m11 : 0 ≤ x1 * y1 ∧ x1 * y1 ≤ 4294967295 * 4294967295 := ⟨Int.mul_nonneg bx1.1 by1.1, Int.mul_le_mul bx1.2 by1.2 by1.1 (by decide)⟩
  have eab : a * b = 18446744073709551616 * (x1 * y1) + 4294967296 * (x1 * y0) + 4294967296 * (x0 * y1) + x0 * y0 := by rw [ea, eb]; grind
  rw [eab]
  generalize x0 * y0 = p00 at *
  generalize x1 * y0 = p10 at *
  generalize x0 * y1 = p01 at *
  generalize x1 * y1 = p11 at *
  rw [wr_u64 (n := p00) (by omega) (by omega), wr_u64 (n := p10) (by omega) (by omega), wr_u64 (n := p01) (by omega) (by omega), wr_u64 (n := p11) (by omega) (by omega)]
  rw [wr_u64 (n := p10 + p00 / 4294967296) (by omega) (by omega)]
  rw [and_mask _ (by omega)]
  rw [wr_u64 (n := p11 + (p10 + p00 / 4294967296) / 4294967296) (by omega) (by omega)]
  rw [wr_u64 (n := (p10 + p00 / 4294967296) % 4294967296 + p01) (by omega) (by omega)]
  rw [wr_u64 (n := p11 + (p10 + p00 / 4294967296) / 4294967296 + ((p10 + p00 / 4294967296) % 4294967296 + p01) / 4294967296) (by omega) (by omega)]
  rw [wr_u64_mod]
  congr 2; omega
theorem add64 {x y c : Int} (hx : 0 ≤ x) (hy : 0 ≤ y) (hc : 0 ≤ c ∧ c ≤ 1) : z0.F x y c = some ((x + y + c) % 18446744073709551616, (x + y + c) / 18446744073709551616) := by
  unfold z0.F; rw [if_pos (by omega)]
end Go.Proofs.YtgjncgiekniniaaGreatDoor.A
end
section
set_option linter.unusedVariables false
set_option linter.unusedSimpArgs false
namespace Go.Proofs.YtgjncgiekniniaaGreatDoor.A
open Go
theorem getD_set_ne {s : List Int} {i j : Nat} {x : Int} (h : i ≠ j) : (s.set i x).getD j 0 = s.getD j 0 := by
  simp [List.getD, List.getElem?_set_ne h]
theorem getD_replicate (n j : Nat) : (List.replicate n (0 : Int)).getD j 0 = 0 := by
  simp only [List.getD, List.getElem?_replicate]; split <;> rfl
theorem natadd_loop {a b : List Int} {n : Nat} (ha : inB LB a) (hb : inB LB b) (hn : n ≤ 900000000) (han : a.length < n) (hbn : b.length < n) :
    ∀ (f i : Nat) (c : Int) (s : List Int), i + f = n → s.length = n → inB LB s → (∀ j, i ≤ j → s.getD j 0 = 0) → 0 ≤ c ∧ c ≤ 1 →
      valB LB s + (c + valB LB (a.drop i) + valB LB (b.drop i)) * (LB ^ i : Nat) = valB LB a + valB LB b →
      ∃ c' s', Runs (fun rec x => z12.l0P (n : Int) a b rec some x) (c, (i : Int), s) (c', (n : Int), s') ∧ inB LB s' ∧ s'.length = n ∧ (0 ≤ c' ∧ c' ≤ 1) ∧ valB LB s' + c' * (LB ^ n : Nat) = valB LB a + valB LB b
  | 0, i, c, s, hf, hl, hs, hz, hc, hv => by
    have : i = n := by omega
    subst this
    refine ⟨c, s, .done fun rec => ?_, hs, hl, hc, ?_⟩
    · unfold z12.l0P
      simp only
      rw [bif_f (by omega)]
    · rw [List.drop_eq_nil_of_le (by omega), List.drop_eq_nil_of_le (by omega)] at hv
      simpa [valB] using hv
  | f + 1, i, c, s, hf, hl, hs, hz, hc, hv => by
    have hLB : ((LB : Nat) : Int) = 18446744073709551616 := rfl
    have h1 := getD_in (B := LB) (by decide) ha i
    have h2 := getD_in (B := LB) (by decide) hb i
    have hi : i < s.length := by omega
    obtain ⟨c', s', r1, r2, r3, r4, r5⟩ := natadd_loop ha hb hn han hbn f (i + 1) ((a.getD i 0 + b.getD i 0 + c) / 18446744073709551616) (s.set i ((a.getD i 0 + b.getD i 0 + c) % 18446744073709551616)) (by omega) (by simp [hl]) (inB_set hs (by omega))
      (fun j hj => by rw [getD_set_ne (by omega)]; exact hz j (by omega)) (by omega) (by
        rw [valB_set hi, hz i (Nat.le_refl _), ← hv, valB_drop a i, valB_drop b i, Nat.pow_succ, Nat.mul_comm (LB ^ i) LB, Int.natCast_mul]
        generalize hx : a.getD i 0 + b.getD i 0 + c = x
        have e2 : x = 18446744073709551616 * (x / 18446744073709551616) + x % 18446744073709551616 := (Int.mul_ediv_add_emod x _).symm
        have e3 : ((LB : Nat) : Int) = 18446744073709551616 := rfl
        rw [e3]
        generalize x / 18446744073709551616 = q at *
        generalize x % 18446744073709551616 = m at *
        subst e2
        generalize ((LB ^ i : Nat) : Int) = p
        generalize valB LB (a.drop (i + 1)) = w
        generalize valB LB (b.drop (i + 1)) = w'
        generalize a.getD i 0 = u at *
        generalize b.getD i 0 = v at *
        have hc' : c = 18446744073709551616 * q + m - u - v := by omega
        subst hc'
        grind)
    refine ⟨c', s', .step (fun rec => ?_) r1, r2, r3, r4, r5⟩
    unfold z12.l0P
    simp only [nat_limb, Option.bind_some]
    rw [bif_t (by omega), add64 h1.1 h2.1 hc]
    simp only [Option.bind_some]
    rw [if_pos (by omega), Int.toNat_natCast, if_pos hi, wr_i64 (by omega) (by omega)]
    rfl
theorem lb_lt {n k : Nat} (h : (lb n).length ≤ k) : n < LB ^ k := Nat.lt_of_lt_of_le (toB_len_lt bL) (Nat.pow_le_pow_right (by decide) h)
theorem nat_Add {m n : Nat} (hl : (lb m).length + (lb n).length ≤ 800000000) : z12.F (lb m) (lb n) = some (lb (m + n)) := by
  unfold z12.F
  generalize hk : max (lb m).length (lb n).length = k
  have e0 : (if (((lb n).length : Nat) : Int) > (((lb m).length : Nat) : Int) then (((lb n).length : Nat) : Int) else (((lb m).length : Nat) : Int)) = (k : Int) := by split <;> omega
  have e1 : wr .i64 ((k : Int) + 1) = ((k + 1 : Nat) : Int) := by rw [wr_i64 (by omega) (by omega)]; omega
  rw [e0, e1, if_pos (by omega), Int.toNat_natCast, List.length_replicate]
  obtain ⟨c', s', r1, r2, r3, r4, r5⟩ := natadd_loop (a := lb m) (b := lb n) (n := k + 1) (toB_in bL m) (toB_in bL n) (by omega) (by omega) (by omega) (k + 1) 0 0 (List.replicate (k + 1) 0) (by omega) (by simp) (inB_replicate (by decide) _)
    (fun j _ => getD_replicate _ j) (by omega) (by rw [valB_replicate]; simp)
  have e : z12.l0 ((k + 1 : Nat) : Int) (lb m) (lb n) ((0 : Int), (0 : Int), List.replicate (k + 1) 0) = some (c', ((k + 1 : Nat) : Int), s') := r1.lfp
  rw [e]
  simp only [Option.bind_some]
  rw [valB_toB bL, valB_toB bL] at r5
  have hm : m < LB ^ k := lb_lt (by omega)
  have hn : n < LB ^ k := lb_lt (by omega)
  have hc : c' = 0 := by
    rcases (show c' = 0 ∨ c' = 1 by omega) with h | h
    · exact h
    · exfalso
      subst h
      have := valB_nonneg r2
      have e3 : ((LB ^ (k + 1) : Nat) : Int) = (LB ^ k : Nat) * 18446744073709551616 := by rw [Nat.pow_succ, Int.natCast_mul]; rfl
      rw [e3] at r5
      omega
  subst hc
  rw [nat_trim r2 (by show List.length _ ≤ _; omega)]
  simp only [Option.bind_some]
  congr 2; omega
theorem natsub_loop {a b : List Int} (ha : inB LB a) (hb : inB LB b) (hal : a.length ≤ 900000000) :
    ∀ (f i : Nat) (c : Int) (s : List Int), i + f = a.length → s.length = a.length → inB LB s → (∀ j, i ≤ j → s.getD j 0 = 0) → 0 ≤ c ∧ c ≤ 1 →
      valB LB s - c * (LB ^ i : Nat) = valB LB (a.take i) - valB LB (b.take i) →
      ∃ c' s', Runs (fun rec x => z18.l0P (a.length : Int) a b rec some x) (c, (i : Int), s) (c', (a.length : Int), s') ∧ inB LB s' ∧ s'.length = a.length ∧ (0 ≤ c' ∧ c' ≤ 1) ∧ valB LB s' - c' * (LB ^ a.length : Nat) = valB LB a - valB LB (b.take a.length)
  | 0, i, c, s, hf, hl, hs, hz, hc, hv => by
    have : i = a.length := by omega
    subst this
    refine ⟨c, s, .done fun rec => ?_, hs, hl, hc, by rwa [List.take_length] at hv⟩
    unfold z18.l0P
    simp only
    rw [bif_f (by omega)]
  | f + 1, i, c, s, hf, hl, hs, hz, hc, hv => by
    have hi : i < a.length := by omega
    have his : i < s.length := by omega
    have hLB : ((LB : Nat) : Int) = 18446744073709551616 := rfl
    have h1 := getD_in (B := LB) (by decide) ha i
    have h2 := getD_in (B := LB) (by decide) hb i
    have eb : valB LB (b.take (i + 1)) = valB LB (b.take i) + (LB ^ i : Nat) * b.getD i 0 := by
      by_cases hb' : i < b.length
      · rw [valB_take_succ hb', getD_eq hb']
      · rw [List.take_of_length_le (by omega), List.take_of_length_le (by omega)]
        simp [List.getD, List.getElem?_eq_none (show b.length ≤ i by omega)]
    have hsub : z1.F (a.getD i 0) (b.getD i 0) c = some ((a.getD i 0 - b.getD i 0 - c) % 18446744073709551616, if a.getD i 0 < b.getD i 0 + c then 1 else 0) := by
      unfold z1.F; rw [if_pos (by omega)]
    obtain ⟨c', s', r1, r2, r3, r4, r5⟩ := natsub_loop ha hb hal f (i + 1) (if a.getD i 0 < b.getD i 0 + c then 1 else 0) (s.set i ((a.getD i 0 - b.getD i 0 - c) % 18446744073709551616)) (by omega) (by simp [hl]) (inB_set hs (by omega))
      (fun j hj => by rw [getD_set_ne (by omega)]; exact hz j (by omega)) (by split <;> omega) (by
        rw [valB_set his, hz i (Nat.le_refl _), valB_take_succ hi, eb, Nat.pow_succ, Nat.mul_comm (LB ^ i) LB, Int.natCast_mul, ← getD_eq hi]
        have e3 : ((LB : Nat) : Int) = 18446744073709551616 := rfl
        rw [e3]
        have e4 : (a.getD i 0 - b.getD i 0 - c) % 18446744073709551616 = a.getD i 0 - b.getD i 0 - c + (if a.getD i 0 < b.getD i 0 + c then 1 else 0) * 18446744073709551616 := by split <;> omega
        rw [e4]
        generalize (if a.getD i 0 < b.getD i 0 + c then (1 : Int) else 0) = q
        generalize ((LB ^ i : Nat) : Int) = p at *
        grind)
    refine ⟨c', s', .step (fun rec => ?_) r1, r2, r3, r4, r5⟩
    unfold z18.l0P
    simp only [nat_limb, Option.bind_some]
    rw [bif_t (by omega), if_pos (by omega), Int.toNat_natCast, hsub]
    simp only [Option.bind_some]
    rw [if_pos (by omega), if_pos his, wr_i64 (by omega) (by omega)]
    rfl
theorem nat_Sub {m n : Nat} (hl : (lb m).length ≤ 800000000) : z18.F (lb m) (lb n) = some (if n ≤ m then (lb (m - n), true) else ([], false)) := by
  unfold z18.F
  rw [nat_Cmp (by omega)]
  simp only [Option.bind_some]
  by_cases h : n ≤ m
  · have h0 : ¬ cmpI (m : Int) n < 0 := by unfold cmpI; split <;> (try split) <;> omega
    rw [bif_f h0, if_pos h, if_pos (by omega), Int.toNat_natCast, List.length_replicate]
    obtain ⟨c', s', r1, r2, r3, r4, r5⟩ := natsub_loop (a := lb m) (b := lb n) (toB_in bL m) (toB_in bL n) (by omega) (lb m).length 0 0 (List.replicate (lb m).length 0) (by omega) (by simp) (inB_replicate (by decide) _)
      (fun j _ => getD_replicate _ j) (by omega) (by rw [valB_replicate]; simp [valB])
    have hlen : (lb n).length ≤ (lb m).length := by
      rcases Nat.lt_or_ge (lb m).length (lb n).length with h' | h'
      · have := toB_lt_of_len bL h'; omega
      · exact h'
    rw [List.take_of_length_le hlen, valB_toB bL, valB_toB bL] at r5
    have h1 := valB_lt bL r2
    rw [r3] at h1
    have hc : c' = 0 := by
      rcases (show c' = 0 ∨ c' = 1 by omega) with h | h
      · exact h
      · subst h; omega
    subst hc
    have e : z18.l0 ((lb m).length : Int) (lb m) (lb n) ((0 : Int), (0 : Int), List.replicate (lb m).length 0) = some ((0 : Int), ((lb m).length : Int), s') := r1.lfp
    rw [e]
    simp only [Option.bind_some]
    rw [nat_trim r2 (by show List.length _ ≤ _; omega)]
    simp only [Option.bind_some]
    congr 3; omega
  · have h0 : cmpI (m : Int) n < 0 := by unfold cmpI; rw [if_pos (by omega)]; decide
    rw [bif_t h0, if_neg h]
end Go.Proofs.YtgjncgiekniniaaGreatDoor.A
end
section
set_option linter.unusedVariables false
set_option linter.unusedSimpArgs false
namespace Go.Proofs.YtgjncgiekniniaaGreatDoor.A
open Go
theorem nat_Of_gen {l : List Int} (hl : inB LB l) (hs : short l) : z26.F l = some (lb (valB LB l).toNat) := by
  have hs' : l.length ≤ 1000000000 := hs
  unfold z26.F
  rw [if_pos (by omega), nat_trim hl hs]; rfl
theorem nat_Of1 {x : Int} (h : 0 ≤ x ∧ x < 18446744073709551616) : z26.F [x] = some (lb x.toNat) := by
  rw [nat_Of_gen (inB_cons.2 ⟨h, inB_nil _⟩) (by show [x].length ≤ _; simp)]
  simp [valB]
theorem nat_Limbs {l : List Int} (hs : short l) : z48.F l = some l := by
  have hs' : l.length ≤ 1000000000 := hs
  unfold z48.F
  rw [if_pos (by omega)]
theorem natmul_inner {x : Int} {a : List Int} {off tot : Nat} (hx : 0 ≤ x ∧ x < 18446744073709551616) (ha : inB LB a) (ht : tot ≤ 1800000000) (hot : off + a.length < tot) :
    ∀ (f i : Nat) (c : Int) (s : List Int), i + f = a.length → s.length = tot → inB LB s → 0 ≤ c ∧ c < 18446744073709551616 →
      ∃ c' s', Runs (fun rec y => z28.l0aP x off (tot - off) a (a.length : Int) rec some y) (c, (i : Int), s) (c', (a.length : Int), s') ∧ inB LB s' ∧ s'.length = tot ∧ (0 ≤ c' ∧ c' < 18446744073709551616) ∧
        (∀ j, off + a.length ≤ j → s'.getD j 0 = s.getD j 0) ∧ valB LB s' + c' * (LB ^ (off + a.length) : Nat) = valB LB s + (c + x * valB LB (a.drop i)) * (LB ^ (off + i) : Nat)
  | 0, i, c, s, hf, hl, hs, hc => by
    have : i = a.length := by omega
    subst this
    refine ⟨c, s, .done fun rec => ?_, hs, hl, hc, fun j _ => rfl, ?_⟩
    · unfold z28.l0aP
      simp only
      rw [bif_f (by omega)]
    · rw [List.drop_eq_nil_of_le (Nat.le_refl _)]; simp [valB]
  | f + 1, i, c, s, hf, hl, hs, hc => by
    have hi : i < a.length := by omega
    have his : off + i < s.length := by omega
    have h1 := getD_in (B := LB) (by decide) ha i
    have h2 := getD_in (B := LB) (by decide) hs (off + i)
    have h1' : 0 ≤ a.getD i 0 ∧ a.getD i 0 < 18446744073709551616 := h1
    have h2' : 0 ≤ s.getD (off + i) 0 ∧ s.getD (off + i) 0 < 18446744073709551616 := h2
    have hp : 0 ≤ x * a.getD i 0 ∧ x * a.getD i 0 ≤ 18446744073709551615 * 18446744073709551615 := ⟨Int.mul_nonneg hx.1 h1'.1, Int.mul_le_mul (by omega) (by omega) h1'.1 (by decide)⟩
    obtain ⟨c', s', r1, r2, r3, r4, r5, r6⟩ := natmul_inner hx ha ht hot f (i + 1) ((x * a.getD i 0 + c + s.getD (off + i) 0) / 18446744073709551616) (s.set (off + i) ((x * a.getD i 0 + c + s.getD (off + i) 0) % 18446744073709551616))
      (by omega) (by simp [hl]) (inB_set hs (by show 0 ≤ _ ∧ _ < (18446744073709551616 : Int); omega)) (by omega)
    refine ⟨c', s', .step (fun rec => ?_) r1, r2, r3, r4, fun j hj => ?_, ?_⟩
    · unfold z28.l0aP
      simp only
      rw [bif_t (by omega), if_pos (by omega), Int.toNat_natCast, mul64 hx h1']
      simp only [Option.bind_some]
      rw [add64 (by omega) hc.1 (by omega)]
      simp only [Option.bind_some]
      rw [if_pos (by omega), if_pos his, add64 h2'.1 (by omega) (by omega)]
      simp only [Option.bind_some]
      rw [if_pos (by omega), if_pos his]
      generalize x * a.getD i 0 = p at hp ⊢
      generalize s.getD (off + i) 0 = u at h2' ⊢
      rw [wr_u64 (n := p / 18446744073709551616 + _) (by omega) (by omega), wr_u64 (by omega) (by omega), wr_i64 (by omega) (by omega)]
      congr 2
      · omega
      · congr 2; omega
    · rw [r5 j hj, getD_set_ne (by omega)]
    · rw [r6, valB_set his, valB_drop a i]
      have e1 : ((LB ^ (off + (i + 1)) : Nat) : Int) = 18446744073709551616 * (LB ^ (off + i) : Nat) := by
        rw [← Nat.add_assoc, Nat.pow_succ, Nat.mul_comm, Int.natCast_mul]; rfl
      rw [e1]
      have e3 : ((LB : Nat) : Int) = 18446744073709551616 := rfl
      rw [e3]
      generalize hy : x * a.getD i 0 + c + s.getD (off + i) 0 = y
      have e2 : y = 18446744073709551616 * (y / 18446744073709551616) + y % 18446744073709551616 := (Int.mul_ediv_add_emod y _).symm
      generalize y / 18446744073709551616 = q at *
      generalize y % 18446744073709551616 = m at *
      generalize ((LB ^ (off + i) : Nat) : Int) = p
      generalize valB LB (a.drop (i + 1)) = w
      generalize valB LB s = z
      generalize s.getD (off + i) 0 = u at *
      generalize a.getD i 0 = v at *
      have hc' : c = 18446744073709551616 * q + m - u - x * v := by omega
      subst hc'
      grind
theorem natmul_outer {a b : List Int} {tot : Nat} (ha : inB LB a) (hb : inB LB b) (ht : tot ≤ 1800000000) (hab : tot = a.length + b.length + 1) :
    ∀ (f i : Nat) (s : List Int), i + f = b.length → s.length = tot → inB LB s → (∀ j, i + a.length ≤ j → s.getD j 0 = 0) → valB LB s = valB LB a * valB LB (b.take i) →
      ∃ s', Runs (fun rec y => z28.l0P b (b.length : Int) a rec some y) ((i : Int), s) ((b.length : Int), s') ∧ inB LB s' ∧ s'.length = tot ∧ valB LB s' = valB LB a * valB LB b
  | 0, i, s, hf, hl, hs, hz, hv => by
    have : i = b.length := by omega
    subst this
    refine ⟨s, .done fun rec => ?_, hs, hl, by rwa [List.take_length] at hv⟩
    unfold z28.l0P
    simp only
    rw [bif_f (by omega)]
  | f + 1, i, s, hf, hl, hs, hz, hv => by
    have hi : i < b.length := by omega
    have hx := getD_in (B := LB) (by decide) hb i
    have hx' : 0 ≤ b.getD i 0 ∧ b.getD i 0 < 18446744073709551616 := hx
    obtain ⟨c, s1, r1, r2, r3, r4, r5, r6⟩ := natmul_inner (x := b.getD i 0) (a := a) (off := i) (tot := tot) hx' ha ht (by omega) a.length 0 0 s (by omega) hl hs (by omega)
    have e0 : z28.l0a (b.getD i 0) i (tot - i) a (a.length : Int) ((0 : Int), (0 : Int), s) = some (c, (a.length : Int), s1) := r1.lfp
    have hz1 : s1.getD (i + a.length) 0 = 0 := by rw [r5 _ (Nat.le_refl _)]; exact hz _ (Nat.le_refl _)
    have hi1 : i + a.length < s1.length := by omega
    obtain ⟨s', q1, q2, q3, q4⟩ := natmul_outer ha hb ht hab f (i + 1) (s1.set (i + a.length) c) (by omega) (by simp [r3]) (inB_set r2 r4)
      (fun j hj => by rw [getD_set_ne (by omega), r5 j (by omega)]; exact hz j (by omega)) (by
        rw [valB_set hi1, hz1, valB_take_succ hi, Int.mul_add, ← hv, ← getD_eq hi]
        simp only [List.drop_zero, Nat.add_zero, Int.zero_add] at r6
        generalize ((LB ^ (i + a.length) : Nat) : Int) = p at *
        generalize ((LB ^ i : Nat) : Int) = p2 at *
        grind)
    refine ⟨s', .step (fun rec => ?_) q1, q2, q3, q4⟩
    unfold z28.l0P
    simp only
    rw [bif_t (by omega), if_pos (by omega), if_pos (by omega), Int.toNat_natCast, hl, e0]
    simp only [Option.bind_some, Int.toNat_natCast]
    rw [if_pos (by omega), if_pos hi1, if_pos (by omega), if_pos hi1, hz1, wr_i64 (by omega) (by omega), wr_u64 (by omega) (by omega), Int.zero_add]
    rfl
theorem nat_Mul_gen {a b : List Int} (ha : inB LB a) (hb : inB LB b) (hl : a.length + b.length ≤ 800000000) : z28.F a b = some (lb (valB LB a * valB LB b).toNat) := by
  obtain ⟨s', r1, r2, r3, r4⟩ := natmul_outer (tot := a.length + b.length + 1) ha hb (by omega) rfl b.length 0 (List.replicate (a.length + b.length + 1) 0) (by omega) (by simp) (inB_replicate (by decide) _)
    (fun j _ => getD_replicate _ j) (by rw [valB_replicate]; simp [valB])
  have e0 : z28.l0 b (b.length : Int) a ((0 : Int), List.replicate (a.length + b.length + 1) 0) = some ((b.length : Int), s') := r1.lfp
  have e1 : wr .i64 (wr .i64 ((a.length : Int) + (b.length : Int)) + 1) = ((a.length + b.length + 1 : Nat) : Int) := by
    rw [wr_i64 (n := (a.length : Int) + (b.length : Int)) (by omega) (by omega), wr_i64 (by omega) (by omega)]; omega
  unfold z28.F
  rw [e1, if_pos (by omega), Int.toNat_natCast, e0]
  simp only [Option.bind_some]
  rw [nat_trim r2 (by show List.length _ ≤ _; omega), r4]
  rfl
theorem nat_Mul {m n : Nat} (hl : (lb m).length + (lb n).length ≤ 800000000) : z28.F (lb m) (lb n) = some (lb (m * n)) := by
  rw [nat_Mul_gen (toB_in bL m) (toB_in bL n) hl, valB_toB bL, valB_toB bL]
  congr 2
end Go.Proofs.YtgjncgiekniniaaGreatDoor.A
end
section
set_option linter.unusedVariables false
set_option linter.unusedSimpArgs false
namespace Go.Proofs.YtgjncgiekniniaaGreatDoor.A
open Go
theorem whole_Of (n : Nat) (b : Bool) : z9.F (lb n) b = some (lb n, b && decide (0 < n)) := by
  unfold z9.F
  cases b
  · rfl
  · rw [nat_Zero]
    simp only [cond_true, Bool.true_and, Option.bind_some]
    congr 2
    by_cases h : n = 0
    · subst h; rfl
    · rw [decide_eq_false h, decide_eq_true (by omega : 0 < n)]; rfl
theorem whole_Of' {z : Int} {b : Bool} (h : (b = true ∧ z ≤ 0) ∨ (b = false ∧ 0 ≤ z)) : z9.F (lb z.natAbs) b = some (lb z.natAbs, neg z) := by
  rw [whole_Of]
  congr 2
  rcases h with ⟨rfl, h⟩ | ⟨rfl, h⟩
  · rw [Bool.true_and]; exact decide_eq_decide.2 (by omega)
  · rw [Bool.false_and]; symm; exact decide_eq_false (by omega)
theorem whole_at {z : Int} {n : Nat} {b : Bool} (hn : n = z.natAbs) (h : (b = true ∧ z ≤ 0) ∨ (b = false ∧ 0 ≤ z)) : z9.F (lb n) b = some (lb z.natAbs, neg z) := by
  subst hn; exact whole_Of' h
theorem whole_From {z : Int} (h : -9223372036854775808 ≤ z ∧ z < 9223372036854775808) : z36.F z = some (lb z.natAbs, neg z) := by
  unfold z36.F
  by_cases hz : z < 0
  · have e : wr .u64 (0 - wr .u64 z) = ((z.natAbs : Nat) : Int) := by rw [wr_u64_mod z, wr_u64_mod]; omega
    rw [bif_t hz, e, nat_Of1 (by omega)]
    simp only [Option.bind_some, Int.toNat_natCast]
    rw [whole_Of' (z := z) (.inl ⟨rfl, by omega⟩)]; rfl
  · have e : wr .u64 z = ((z.natAbs : Nat) : Int) := by rw [wr_u64 (by omega) (by omega)]; omega
    rw [bif_f hz, e, nat_Of1 (by omega)]
    simp only [Option.bind_some, Int.toNat_natCast]
    rw [whole_Of' (z := z) (.inr ⟨rfl, by omega⟩)]; rfl
theorem whole_Neg (z : Int) : z20.F (lb z.natAbs) (neg z) = some (lb (-z).natAbs, neg (-z)) := by
  unfold z20.F
  rw [whole_at (z := -z) (by omega) (by by_cases h : z < 0; exact .inr ⟨by simp [neg, h], by omega⟩; exact .inl ⟨by simp [neg, h], by omega⟩)]
  rfl
theorem whole_Sign (z : Int) : z8.F (lb z.natAbs) (neg z) = some (cmpI z 0) := by
  unfold z8.F cmpI
  rw [nat_Zero]
  simp only [Option.bind_some]
  by_cases h0 : z = 0
  · subst h0; rfl
  · rw [bif_f (by omega)]
    by_cases h : z < 0
    · rw [bif_t h, if_pos h]
    · rw [bif_f h, if_neg h, if_neg h0]
theorem whole_Add {x y : Int} (hl : (lb x.natAbs).length + (lb y.natAbs).length ≤ 800000000) : z19.F (lb x.natAbs) (neg x) (lb y.natAbs) (neg y) = some (lb (x + y).natAbs, neg (x + y)) := by
  unfold z19.F
  by_cases hs : neg x = neg y
  · have hs' : (x < 0 ↔ y < 0) := by simpa [neg] using hs
    rw [bif_t hs, nat_Add hl]
    simp only [Option.bind_some]
    rw [whole_at (z := x + y) (by omega) (by by_cases hx : x < 0; exact .inl ⟨decide_eq_true hx, by omega⟩; exact .inr ⟨decide_eq_false hx, by omega⟩)]
    rfl
  · have hs' : ¬ (x < 0 ↔ y < 0) := by simpa [neg] using hs
    rw [bif_f hs, nat_Sub (by omega)]
    simp only [Option.bind_some]
    by_cases hc : y.natAbs ≤ x.natAbs
    · rw [if_pos hc]
      simp only [cond_true]
      rw [whole_at (z := x + y) (by omega) (by by_cases hx : x < 0; exact .inl ⟨decide_eq_true hx, by omega⟩; exact .inr ⟨decide_eq_false hx, by omega⟩)]
      rfl
    · rw [if_neg hc]
      simp only [cond_false]
      rw [nat_Sub (by omega), if_pos (by omega)]
      simp only [Option.bind_some]
      rw [whole_at (z := x + y) (by omega) (by by_cases hy : y < 0; exact .inl ⟨decide_eq_true hy, by omega⟩; exact .inr ⟨decide_eq_false hy, by omega⟩)]
      rfl
theorem whole_Sub {x y : Int} (hl : (lb x.natAbs).length + (lb y.natAbs).length ≤ 800000000) : z21.F (lb x.natAbs) (neg x) (lb y.natAbs) (neg y) = some (lb (x - y).natAbs, neg (x - y)) := by
  unfold z21.F
  rw [whole_Neg]
  simp only [Option.bind_some]
  rw [whole_Add (by rw [Int.natAbs_neg]; exact hl)]
  rfl
theorem whole_Cmp {x y : Int} (hl : (lb x.natAbs).length + (lb y.natAbs).length ≤ 800000000) : z22.F (lb x.natAbs) (neg x) (lb y.natAbs) (neg y) = some (cmpI x y) := by
  unfold z22.F
  rw [whole_Sub hl]
  simp only [Option.bind_some]
  rw [whole_Sign, cmpI_sub]
  rfl
theorem neg_mul (x y : Int) : ((!decide (neg x = neg y)) && decide (0 < x.natAbs * y.natAbs)) = neg (x * y) := by
  have h0 : 0 < x.natAbs * y.natAbs ↔ x ≠ 0 ∧ y ≠ 0 := by
    constructor
    · intro h; exact ⟨by rintro rfl; simp at h, by rintro rfl; simp at h⟩
    · rintro ⟨h1, h2⟩; exact Nat.mul_pos (by omega) (by omega)
  rw [Bool.eq_iff_iff]
  simp only [Bool.and_eq_true, Bool.not_eq_true', decide_eq_true_eq, decide_eq_false_iff_not, h0]
  rcases Int.lt_trichotomy x 0 with hx | hx | hx <;> rcases Int.lt_trichotomy y 0 with hy | hy | hy
  · have := Int.mul_pos_of_neg_of_neg hx hy; simp [hx, hy]; omega
  · subst hy; simp
  · have := Int.mul_neg_of_neg_of_pos hx hy; simp [hx]; omega
  · subst hx; simp
  · subst hx; simp
  · subst hx; simp
  · have := Int.mul_neg_of_pos_of_neg hx hy; simp [hy]; omega
  · subst hy; simp
  · have := Int.mul_pos hx hy; simp; omega
theorem whole_Mul {x y : Int} (hl : (lb x.natAbs).length + (lb y.natAbs).length ≤ 800000000) : z42.F (lb x.natAbs) (neg x) (lb y.natAbs) (neg y) = some (lb (x * y).natAbs, neg (x * y)) := by
  unfold z42.F
  rw [nat_Mul hl]
  simp only [Option.bind_some]
  rw [whole_Of, neg_mul, Int.natAbs_mul]
  rfl
end Go.Proofs.YtgjncgiekniniaaGreatDoor.A
end
section
set_option linter.unusedVariables false
set_option linter.unusedSimpArgs false
namespace Go.Proofs.YtgjncgiekniniaaGreatDoor.A
open Go
def sz (n : Nat) : Nat := (toB 10 n).length
theorem sz_lt (n : Nat) : n < 10 ^ sz n := toB_len_lt b10
theorem sz_le {n k : Nat} (h : n < 10 ^ k) : sz n ≤ k := toB_len_le b10 h
theorem sz_mono {m n : Nat} (h : m ≤ n) : sz m ≤ sz n := sz_le (Nat.lt_of_le_of_lt h (sz_lt n))
theorem lb_sz (n : Nat) : (lb n).length ≤ sz n := toB_len_le bL (Nat.lt_of_lt_of_le (sz_lt n) (Nat.pow_le_pow_left (by decide) _))
theorem sz_mul (m n : Nat) : sz (m * n) ≤ sz m + sz n := sz_le (by rw [Nat.pow_add]; exact Nat.mul_lt_mul_of_lt_of_le (sz_lt m) (Nat.le_of_lt (sz_lt n)) (Nat.pow_pos (by decide)))
theorem sz_zero : sz 0 = 0 := by simp [sz, toB_zero]
theorem lb_zero : lb 0 = [] := toB_zero LB
def isD (b : UInt8) : Bool := decide (48 ≤ b.toNat) && decide (b.toNat ≤ 57)
def digs (s : List UInt8) : Bool := s.all isD
theorem digs_iff {s : List UInt8} : digs s = true ↔ digits s := by simp [digs, digits, digit, isD]
theorem beq_u8 (b c : UInt8) : (b == c) = decide (b.toNat = c.toNat) := by
  rw [Bool.eq_iff_iff]; simp [UInt8.toNat_inj]
theorem has_digit (b : UInt8) : ([48, 49, 50, 51, 52, 53, 54, 55, 56, 57] : List UInt8).contains b = isD b := by
  rw [Bool.eq_iff_iff]
  simp only [List.contains_cons, List.contains_nil, beq_u8, isD]
  simp
  omega
theorem dropWhile_nil_iff {α : Type} {p : α → Bool} : ∀ {l : List α}, l.dropWhile p = [] ↔ ∀ x ∈ l, p x = true
  | [] => by simp
  | a :: l => by
    by_cases h : p a = true
    · rw [List.dropWhile_cons_of_pos h, dropWhile_nil_iff (l := l)]; simp [h]
    · rw [List.dropWhile_cons_of_neg h]; simp [h]
theorem trim_nil (s cs : List UInt8) : Lib.trimS s cs = [] ↔ ∀ b ∈ s, cs.contains b = true := by
  unfold Lib.trimS Lib.trimLeftS Lib.trimRightS
  rw [dropWhile_nil_iff]
  constructor
  · intro h
    cases he : s.reverse.dropWhile (cs.contains ·) with
    | nil =>
      rw [dropWhile_nil_iff] at he
      exact fun b hb => he b (List.mem_reverse.2 hb)
    | cons x l =>
      have h1 := List.head?_dropWhile_not (cs.contains ·) s.reverse
      rw [he] at h1
      have h2 := h x (by rw [he]; simp)
      simp only [List.head?_cons] at h1
      rw [h2] at h1; simp at h1
  · intro h
    have he : s.reverse.dropWhile (cs.contains ·) = [] := dropWhile_nil_iff.2 fun b hb => h b (List.mem_reverse.1 hb)
    rw [he]; simp
theorem trim_digits (s : List UInt8) (hs : s.length ≤ 9223372036854775807) : ∃ r, z3.F s [48, 49, 50, 51, 52, 53, 54, 55, 56, 57] = some r ∧ decide (r = []) = digs s := by
  unfold z3.F
  rw [if_pos ⟨hs, by decide, by decide⟩]
  refine ⟨_, rfl, ?_⟩
  rw [Bool.eq_iff_iff, decide_eq_true_iff, trim_nil, digs, List.all_eq_true]
  simp only [has_digit]
def numOK (s : List UInt8) : Bool := !decide (s = []) && digs s && !(decide (1 < s.length) && decide ((s.getD 0 0).toNat = 48))
def mDigits (s : List UInt8) : Nat × Int := if 4096 < s.length then (0, 7) else if numOK s then ((tv 0 s).toNat, 0) else (0, 5)
theorem decode_ascii {s : List UInt8} {i : Nat} (hi : i < s.length) (h : (s.getD i 0).toNat < 128) : Utf8.decode ⟨s.toArray⟩ i = ((s.getD i 0).toNat, 1) := by
  have e : (ByteArray.mk s.toArray).get! (i + 0) = s.getD i 0 := by
    show s.toArray[i + 0]! = _
    simp [List.getD, hi]
  unfold Utf8.decode
  simp only [e]
  rw [if_pos h]
theorem wr_i32 {n : Int} (h1 : -2147483648 ≤ n) (h2 : n < 2147483648) : wr .i32 n = n := by
  simp only [wr, IntKind.wrap, IntKind.signed, IntKind.bits]
  simp; omega
theorem parse_l2 {s : List UInt8} (hs : digits s) (hl : s.length ≤ 18) : ∀ (f i : Nat) (d : Int), i + f = s.length → 0 ≤ d ∧ d < (10 ^ i : Nat) →
    Runs (fun rec x => z29.l2P s rec some x) (d, i) (tv d (s.drop i), s.length)
  | 0, i, d, hf, _ => by
    have : i = s.length := by omega
    subst this
    refine .done fun rec => ?_
    unfold z29.l2P
    simp only
    rw [if_neg (by omega), List.drop_eq_nil_of_le (Nat.le_refl _)]
    rfl
  | f + 1, i, d, hf, hd => by
    have hi : i < s.length := by omega
    have hb := hs s[i] (List.getElem_mem hi)
    unfold digit at hb
    have eg : s.getD i 0 = s[i] := by simp [List.getD, hi]
    have hp : (10 ^ i : Nat) ≤ 10 ^ 17 := Nat.pow_le_pow_right (by decide) (by omega)
    have hp' : ((10 ^ i : Nat) : Int) ≤ 100000000000000000 := Int.ofNat_le.2 hp
    have ih := parse_l2 hs hl f (i + 1) (10 * d + (s[i].toNat : Int) - 48) (by omega) ⟨by omega, by rw [Nat.pow_succ, Int.natCast_mul]; omega⟩
    rw [List.drop_eq_getElem_cons hi]
    refine .step (fun rec => ?_) ih
    unfold z29.l2P
    simp only
    rw [if_pos hi, decode_ascii hi (by rw [eg]; omega), eg]
    simp only
    rw [wr_i32 (by omega) (by omega), wr_u64 (n := (s[i].toNat : Int) - 48) (by omega) (by omega), wr_u64 (n := 10 * d) (by omega) (by omega), wr_u64 (by omega) (by omega)]
    congr 2; omega
theorem parse_body {s : List UInt8} {n j k : Nat} (hs : digits s) (hk : k ≤ s.length) (hk' : k ≤ 18) (hn : n < 10 ^ j) (hj : j ≤ 8192) {R : Type} (rec done : (List UInt8 × Bool × List Int) → Option R) :
    z29.j5011a rec done (k : Int) s (lb n) = rec (s.drop k, false, lb (n * 1000000000000000000 + (tv 0 (s.take k)).toNat)) := by
  have hds : digits (s.take k) := fun b hb => hs b (List.mem_of_mem_take hb)
  have hlen : (s.take k).length = k := by rw [List.length_take]; omega
  have htb := tv_bound hds
  rw [hlen] at htb
  have hp : (10 ^ k : Nat) ≤ 10 ^ 18 := Nat.pow_le_pow_right (by decide) hk'
  have hp' : ((10 ^ k : Nat) : Int) ≤ 1000000000000000000 := Int.ofNat_le.2 hp
  have r := parse_l2 hds (by omega) (s.take k).length 0 0 (by omega) ⟨Int.le_refl 0, by decide⟩
  have er : z29.l2a (s.take k) ((0 : Int), 0) = some (tv 0 (s.take k), (s.take k).length) := r.lfp
  obtain ⟨U, hU⟩ : ∃ U : Nat, 1000000000000000000 = U := ⟨_, rfl⟩
  have hU' : Int.toNat 1000000000000000000 = U := by omega
  have hUs : sz U ≤ 19 := sz_le (by omega)
  have hsn := Nat.le_trans (lb_sz n) (sz_le hn)
  have hsu := Nat.le_trans (lb_sz U) hUs
  have hsm := Nat.le_trans (lb_sz (n * U)) (Nat.le_trans (sz_mul n U) (Nat.add_le_add (sz_le hn) hUs))
  have hst := Nat.le_trans (lb_sz (tv 0 (s.take k)).toNat) (sz_le (k := 18) (by omega))
  have e1 : z26.F [(1000000000000000000 : Int)] = some (lb U) := by rw [nat_Of1 (by omega), hU']
  have e2 : z26.F [tv 0 (s.take k)] = some (lb (tv 0 (s.take k)).toNat) := nat_Of1 (by omega)
  have e3 : z28.F (lb n) (lb U) = some (lb (n * U)) := nat_Mul (by omega)
  have e4 : z12.F (lb (n * U)) (lb (tv 0 (s.take k)).toNat) = some (lb (n * U + (tv 0 (s.take k)).toNat)) := nat_Add (by omega)
  have e5 : (0 : Int) ≤ (k : Int) ∧ (k : Int) ≤ ((s.length : Nat) : Int) := by omega
  rw [hU]
  unfold z29.j5011a
  rw [if_pos e5, Int.toNat_natCast, er]
  simp only [Option.bind_some]
  rw [e1]
  simp only [Option.bind_some]
  rw [e3]
  simp only [Option.bind_some]
  rw [e2]
  simp only [Option.bind_some]
  rw [e4]
  simp only [Option.bind_some]
  rw [if_pos e5]
theorem parse_loop : ∀ (m : Nat) (s : List UInt8), s.length ≤ m → digits s → ∀ (n j : Nat) (first : Bool), n < 10 ^ j → j + s.length ≤ 8192 → ((first = true ∧ n = 0) ∨ (first = false ∧ s.length % 18 = 0)) →
    ∃ f', Runs (fun rec x => z29.l0aaP rec some x) (s, first, lb n) ([], f', lb (tv n s).toNat)
  | 0, s, hm, hs, n, j, first, hn, hj, hf => by
    have : s = [] := List.length_eq_zero_iff.1 (by omega)
    subst this
    refine ⟨first, .done fun rec => ?_⟩
    simp [z29.l0aaP, tv]
  | m + 1, s, hm, hs, n, j, first, hn, hj, hf => by
    by_cases hne : s = []
    · subst hne
      refine ⟨first, .done fun rec => ?_⟩
      simp [z29.l0aaP, tv]
    · have hpos : 0 < s.length := List.length_pos_iff.2 hne
      have key : ∃ k : Nat, 0 < k ∧ k ≤ s.length ∧ k ≤ 18 ∧ (n = 0 ∨ k = 18) ∧ (s.length - k) % 18 = 0 ∧
          ∀ rec, z29.l0aaP rec some (s, first, lb n) = z29.j5011a rec some (k : Int) s (lb n) := by
        have hd : (!decide (s = ([] : List UInt8))) = true := by rw [decide_eq_false hne]; rfl
        rcases hf with ⟨rfl, hn0⟩ | ⟨rfl, h18⟩
        · have em : Int.tmod (s.length : Int) 18 = ((s.length % 18 : Nat) : Int) := by rw [tmod_emod (by omega)]; rfl
          by_cases h0 : s.length % 18 = 0
          · refine ⟨18, by omega, by omega, by omega, .inr rfl, by omega, fun rec => ?_⟩
            unfold z29.l0aaP
            simp only [hd, Bool.not_true, cond_true, cond_false]
            rw [em, bif_t (by omega)]; rfl
          · refine ⟨s.length % 18, by omega, Nat.mod_le _ _, by omega, .inl hn0, by omega, fun rec => ?_⟩
            unfold z29.l0aaP
            simp only [hd, Bool.not_true, cond_true, cond_false]
            rw [em, bif_f (by omega)]
        · refine ⟨18, by omega, by omega, by omega, .inr rfl, by omega, fun rec => ?_⟩
          unfold z29.l0aaP
          simp only [hd, Bool.not_false, cond_true]
          rfl
      obtain ⟨k, k0, k1, k2, k3, k4, k5⟩ := key
      have hds : digits (s.take k) := fun b hb => hs b (List.mem_of_mem_take hb)
      have hdd : digits (s.drop k) := fun b hb => hs b (List.mem_of_mem_drop hb)
      have hlen : (s.take k).length = k := by rw [List.length_take]; omega
      have htb := tv_bound hds
      rw [hlen] at htb
      have htv : tv n (s.take k) = ((n * 1000000000000000000 + (tv 0 (s.take k)).toNat : Nat) : Int) := by
        rw [tv_acc, hlen]
        rcases k3 with h | h
        · subst h; simp; omega
        · subst h
          have : ((10 ^ 18 : Nat) : Int) = 1000000000000000000 := rfl
          rw [this]; omega
      have hn' : n * 1000000000000000000 + (tv 0 (s.take k)).toNat < 10 ^ (j + k) := by
        have hp0 : 0 < 10 ^ j := Nat.pow_pos (by decide)
        rcases k3 with h | h
        · subst h
          have : 10 ^ k ≤ 10 ^ (j + k) := Nat.pow_le_pow_right (by decide) (by omega)
          omega
        · subst h
          have e18 : (10 ^ (j + 18) : Nat) = 10 ^ j * 1000000000000000000 := by rw [Nat.pow_add]
          have e18' : ((10 ^ 18 : Nat) : Int) = 1000000000000000000 := rfl
          rw [e18]
          have : (n + 1) * 1000000000000000000 ≤ 10 ^ j * 1000000000000000000 := Nat.mul_le_mul_right _ hn
          omega
      obtain ⟨f', r⟩ := parse_loop m (s.drop k) (by rw [List.length_drop]; omega) hdd (n * 1000000000000000000 + (tv 0 (s.take k)).toNat) (j + k) false hn' (by rw [List.length_drop]; omega) (.inr ⟨rfl, by rw [List.length_drop]; exact k4⟩)
      refine ⟨f', .step (y := (s.drop k, false, lb (n * 1000000000000000000 + (tv 0 (s.take k)).toNat))) (fun rec => ?_) ?_⟩
      · rw [k5, parse_body hs k1 k2 hn (by omega)]
      · have e : tv n s = tv ((n * 1000000000000000000 + (tv 0 (s.take k)).toNat : Nat) : Int) (s.drop k) := by
          conv => lhs; rw [← List.take_append_drop k s]
          rw [tv_append, htv]
        rw [e]; exact r
theorem digits_Parse (s : List UInt8) : z29.F s = some (lb (mDigits s).1, (mDigits s).2) := by
  unfold z29.F mDigits
  by_cases h1 : 4096 < s.length
  · rw [bif_t (by omega), if_pos h1, lb_zero]
  · rw [bif_f (by omega), if_neg h1]
    by_cases h2 : s = []
    · subst h2; rw [bif_t rfl]; simp [numOK, lb_zero]
    · rw [bif_f h2]
      obtain ⟨r, t1, t2⟩ := trim_digits s (by omega)
      rw [t1]
      simp only [Option.bind_some]
      rw [t2]
      cases hd : digs s with
      | false => simp [numOK, hd, lb_zero]
      | true =>
        have hds := digs_iff.1 hd
        obtain ⟨f', r⟩ := parse_loop s.length s (Nat.le_refl _) hds 0 0 true (by decide) (by omega) (.inl ⟨rfl, rfl⟩)
        rw [lb_zero] at r
        have er : z29.l0aa (s, true, []) = some ([], f', lb (tv ((0 : Nat) : Int) s).toNat) := r.lfp
        simp only [Bool.not_true, cond_false]
        rw [er]
        have hpos : 0 < s.length := List.length_pos_iff.2 h2
        by_cases h3 : 1 < s.length
        · rw [bif_t (by omega), if_pos (by omega)]
          by_cases h4 : (s.getD 0 0).toNat = 48
          · rw [bif_t (by omega)]
            have : numOK s = false := by simp [numOK, h3]; intro _ _ ; simpa [List.getD] using h4
            rw [this]; simp [lb_zero]
          · rw [bif_f (by omega)]
            have : numOK s = true := by simp only [numOK, decide_eq_false h2, hd, decide_eq_false h4]; simp
            rw [this]; rfl
        · rw [bif_f (by omega)]
          have : numOK s = true := by simp only [numOK, decide_eq_false h2, hd, decide_eq_false h3]; simp
          rw [this]; rfl
theorem and_one (a : Int) (h0 : 0 ≤ a) (h1 : a < 9223372036854775808) : wr .i64 ((BitVec.ofInt (IntKind.bits .i64) a &&& BitVec.ofInt (IntKind.bits .i64) (1 : Int)).toNat : Int) = a % 2 := by
  have e : (BitVec.ofInt (IntKind.bits .i64) a &&& BitVec.ofInt (IntKind.bits .i64) (1 : Int)).toNat = (a % 2).toNat := by
    rw [BitVec.toNat_and]
    have e1 : (BitVec.ofInt (IntKind.bits .i64) (1 : Int)).toNat = 2 ^ 1 - 1 := rfl
    have e2 : (BitVec.ofInt (IntKind.bits .i64) a).toNat = (a % 18446744073709551616).toNat := by
      rw [BitVec.toNat_ofInt]; rfl
    rw [e1, Nat.and_two_pow_sub_one_eq_mod, e2]
    omega
  rw [e, wr_i64 (by omega) (by omega)]; omega
theorem shr1 (a : Int) : Int.fdiv a (2 ^ (min 1 (64 : Nat))) = a / 2 := by
  rw [Int.fdiv_eq_ediv_of_nonneg _ (by decide)]; rfl
theorem power_loop : ∀ (f t n out : Nat), t ≤ f → t < 9223372036854775808 → sz out + t * sz n ≤ 800000000 →
    ∃ n', Runs (fun rec x => z31.l0P rec some x) ((t : Int), lb n, lb out) ((0 : Int), n', lb (out * n ^ t))
  | 0, t, n, out, hf, ht, hb => by
    have : t = 0 := by omega
    subst this
    refine ⟨lb n, .done fun rec => ?_⟩
    simp [z31.l0P]
  | f + 1, t, n, out, hf, ht, hb => by
    rcases Nat.eq_zero_or_pos t with h0 | h0
    · subst h0
      refine ⟨lb n, .done fun rec => ?_⟩
      simp [z31.l0P]
    · have hn := lb_sz n
      have ho := lb_sz out
      have hsq := sz_mul n n
      have hon := sz_mul out n
      have e2 : (t : Int) / 2 = ((t / 2 : Nat) : Int) := by omega
      have em : (t : Int) % 2 = ((t % 2 : Nat) : Int) := by omega
      have hq : t * sz n = 2 * (t / 2 * sz n) + t % 2 * sz n := by
        conv => lhs; rw [← Nat.div_add_mod t 2]
        rw [Nat.add_mul, Nat.mul_assoc]
      have hq2 : t / 2 * sz (n * n) ≤ 2 * (t / 2 * sz n) := by
        have := Nat.mul_le_mul_left (t / 2) hsq
        have e : t / 2 * (sz n + sz n) = 2 * (t / 2 * sz n) := by rw [Nat.mul_add]; omega
        omega
      have hpow : n ^ t = n ^ (t % 2) * (n * n) ^ (t / 2) := by
        rw [← Nat.pow_two, ← Nat.pow_mul, ← Nat.pow_add]; congr 1; omega
      by_cases hodd : t % 2 = 1
      · rw [hodd, Nat.one_mul] at hq
        by_cases h1 : 1 < t
        · have hge : 1 ≤ t / 2 := by omega
          have hge' : sz n ≤ t / 2 * sz n := Nat.le_mul_of_pos_left _ hge
          obtain ⟨n', r⟩ := power_loop f (t / 2) (n * n) (out * n) (by omega) (by omega) (by omega)
          refine ⟨n', .step (fun rec => ?_) (by rw [hpow, hodd, Nat.pow_one, ← Nat.mul_assoc]; exact r)⟩
          unfold z31.l0P
          simp only
          rw [bif_t (by omega), and_one _ (by omega) (by omega), em, hodd, bif_t (by omega), nat_Mul (by omega)]
          simp only [Option.bind_some]
          rw [bif_t (by omega), nat_Mul (by omega), shr1, e2]
          rfl
        · have ht1 : t = 1 := by omega
          subst ht1
          obtain ⟨n', r⟩ := power_loop f 0 n (out * n) (by omega) (by omega) (by omega)
          refine ⟨n', .step (fun rec => ?_) (by simpa using r)⟩
          unfold z31.l0P
          simp only
          rw [bif_t (by omega), and_one _ (by omega) (by omega), bif_t (by decide), nat_Mul (by omega)]
          simp only [Option.bind_some]
          rw [bif_f (by omega), shr1]
          rfl
      · have h2 : t % 2 = 0 := by omega
        rw [h2, Nat.zero_mul, Nat.add_zero] at hq
        have hge : 1 ≤ t / 2 := by omega
        have hge' : sz n ≤ t / 2 * sz n := Nat.le_mul_of_pos_left _ hge
        obtain ⟨n', r⟩ := power_loop f (t / 2) (n * n) out (by omega) (by omega) (by omega)
        refine ⟨n', .step (fun rec => ?_) (by rw [hpow, h2, Nat.pow_zero, Nat.one_mul]; exact r)⟩
        unfold z31.l0P
        simp only
        rw [bif_t (by omega), and_one _ (by omega) (by omega), em, h2, bif_f (by omega), bif_t (by omega), nat_Mul (by omega)]
        simp only [Option.bind_some]
        rw [shr1, e2]
theorem digits_power {n t : Nat} (ht : t < 9223372036854775808) (h : t * sz n ≤ 700000000) : z31.F (lb n) (t : Int) = some (lb (n ^ t)) := by
  have h1 : sz 1 ≤ 1 := sz_le (by decide)
  obtain ⟨n', r⟩ := power_loop t t n 1 (Nat.le_refl _) ht (by omega)
  have e : z31.l0 ((t : Int), lb n, lb 1) = some ((0 : Int), n', lb (1 * n ^ t)) := r.lfp
  unfold z31.F
  rw [nat_Of1 (by omega)]
  simp only [Option.bind_some]
  rw [show Int.toNat 1 = 1 from rfl, e, Nat.one_mul]
  rfl
theorem digits_Ten {t : Nat} (ht : t ≤ 4096) : z32.F (t : Int) = some (lb (10 ^ t), 0) := by
  have h1 : sz 10 ≤ 2 := sz_le (by decide)
  have h2 := Nat.mul_le_mul_left t h1
  unfold z32.F
  rw [bif_f (by omega), bif_f (by omega), nat_Of1 (by omega)]
  simp only [Option.bind_some]
  rw [show Int.toNat 10 = 10 from rfl, digits_power (by omega) (by omega)]
  rfl
end Go.Proofs.YtgjncgiekniniaaGreatDoor.A
end
section
set_option linter.unusedVariables false
set_option linter.unusedSimpArgs false
namespace Go.Proofs.YtgjncgiekniniaaGreatDoor.A
open Go
def DivOK (a b : Nat) : Prop := z53.F (lb a) (lb b) = some (lb (a / b), lb (a % b), 0)
def DivTo (M : Nat) : Prop := ∀ x y, x ≤ M → y ≤ M → 0 < y → DivOK x y
theorem cmpI_lt0 {m n : Int} : cmpI m n < 0 ↔ m < n := by unfold cmpI; split <;> (try split) <;> omega
theorem cmpI_gt0 {m n : Int} : cmpI m n > 0 ↔ n < m := by unfold cmpI; split <;> (try split) <;> omega
theorem cmpI_eq0 {m n : Int} : cmpI m n = 0 ↔ m = n := by unfold cmpI; split <;> (try split) <;> omega
theorem lb_one {a : Nat} (h0 : 0 < a) (h : a < 18446744073709551616) : lb a = [(a : Int)] := by
  show toB LB a = _
  rw [toB_pos bL h0, Nat.mod_eq_of_lt h, Nat.div_eq_of_lt h, toB_zero]
theorem div64_small {a b : Int} (ha : 0 ≤ a ∧ a < 18446744073709551616) (hb : 0 < b) : z51.F 0 a b = some (a / b, a % b) := by
  unfold z51.F
  rw [bif_f (by omega), bif_f (by omega), bif_t rfl, if_neg (by omega), if_neg (by omega), tdiv_ediv ha.1, tmod_emod ha.1]
  have h1 := Int.ediv_nonneg ha.1 (Int.le_of_lt hb)
  have h2 := Int.ediv_le_self b ha.1
  rw [wr_u64 h1 (by omega)]
theorem quot_by_small {a b : Int} (ha : 0 ≤ a ∧ a < 18446744073709551616) (hb : 0 < b) : z52.F [a] b = some ([a / b], a % b) := by
  have h0 : z52.l0 [a] b ((0 : Int), (0 : Int), [(0 : Int)]) = some (a % b, (-1 : Int), [a / b]) := by
    refine (Runs.step (y := (a % b, (-1 : Int), [a / b])) (fun rec => ?_) (Runs.done fun rec => ?_) : Runs (fun rec x => z52.l0P [a] b rec some x) _ _).lfp
    · unfold z52.l0P
      simp only [List.length_singleton]
      rw [bif_t (by omega), if_pos (by omega), show [a].getD (Int.toNat 0) 0 = a from rfl, div64_small ha hb]
      rfl
    · unfold z52.l0P
      simp only
      rw [bif_f (by omega)]
  unfold z52.F
  simp only [List.length_singleton]
  rw [if_pos (by omega)]
  show ((z52.l0 [a] b ((0 : Int), wr .i64 0, [(0 : Int)])).bind _) = _
  rw [wr_i64 (by omega) (by omega), h0]
  rfl
theorem DivOK_lt {a b : Nat} (h : a < b) (hs : (lb a).length ≤ 900000000) : DivOK a b := by
  unfold DivOK z53.F
  rw [nat_Zero]
  simp only [Option.bind_some]
  rw [bif_f (by omega), nat_Cmp hs]
  simp only [Option.bind_some]
  have : cmpI (a : Int) b < 0 := by unfold cmpI; rw [if_pos (by omega)]; decide
  rw [bif_t this, Nat.div_eq_of_lt h, Nat.mod_eq_of_lt h, lb_zero]
theorem DivOK_small {a b : Nat} (ha : a < 18446744073709551616) (hb : 0 < b) : DivOK a b := by
  have hl : (lb a).length ≤ 1 := toB_len_le bL (by simpa using ha)
  rcases Nat.lt_or_ge a b with h | h
  · exact DivOK_lt h (by omega)
  · unfold DivOK z53.F
    rw [nat_Zero]
    simp only [Option.bind_some]
    rw [bif_f (by omega), nat_Cmp (by omega)]
    simp only [Option.bind_some]
    have : ¬ cmpI (a : Int) b < 0 := by unfold cmpI; rw [if_neg (by omega)]; split <;> omega
    rw [bif_f this, lb_one (by omega) ha, lb_one hb (by omega), nat_Limbs (by show List.length _ ≤ _; simp), nat_Limbs (by show List.length _ ≤ _; simp)]
    simp only [Option.bind_some, List.length_singleton]
    rw [bif_t (by omega), if_pos (by omega), show [(b : Int)].getD 0 0 = b from rfl, quot_by_small (by omega) (by omega)]
    simp only [Option.bind_some]
    have b1 : a / b ≤ a := Nat.div_le_self a b
    have b2 : a % b ≤ a := Nat.mod_le a b
    obtain ⟨q, hq⟩ : ∃ q, a / b = q := ⟨_, rfl⟩
    obtain ⟨m, hm⟩ : ∃ m, a % b = m := ⟨_, rfl⟩
    have e1 : ((a : Int) / b) = (q : Int) := by rw [← hq]; rfl
    have e2 : ((a : Int) % b) = (m : Int) := by rw [← hm]; rfl
    rw [hq] at b1 ⊢
    rw [hm] at b2 ⊢
    rw [e1, e2, nat_Of1 (by omega)]
    simp only [Option.bind_some]
    rw [nat_Of1 (by omega)]
    rfl
theorem quot_Gcd {M : Nat} (hD : DivTo M) {a b : Nat} (ha : a ≤ M) (hb : b ≤ M) : z54.F (lb a) (lb b) = some (lb (Nat.gcd a b)) := by
  have key : ∀ (f a b : Nat), b < f → a ≤ M → b ≤ M → Runs (fun rec x => z54.l0P rec some x) (lb a, lb b) (lb (Nat.gcd a b), []) := by
    intro f
    induction f with
    | zero => intro a b h; omega
    | succ f ih =>
      intro a b h ha hb
      rcases Nat.eq_zero_or_pos b with h0 | h0
      · subst h0
        refine .done fun rec => ?_
        unfold z54.l0P
        simp only [nat_Zero, Option.bind_some]
        rw [Nat.gcd_zero_right, lb_zero]; rfl
      · have hm := Nat.mod_lt a h0
        have hmm := Nat.mod_le a b
        have e : Nat.gcd a b = Nat.gcd b (a % b) := by rw [Nat.gcd_comm, Nat.gcd_rec, Nat.gcd_comm]
        rw [e]
        refine .step (fun rec => ?_) (ih b (a % b) (by omega) hb (by omega))
        unfold z54.l0P
        simp only [nat_Zero, Option.bind_some]
        rw [decide_eq_false (by omega), Bool.not_false, cond_true, hD a b ha hb h0]
        rfl
  unfold z54.F
  have e : z54.l0 (lb a, lb b) = some (lb (Nat.gcd a b), []) := (key (b + 1) a b (by omega) ha hb).lfp
  rw [e]; rfl
theorem cmpI_neg (z : Int) : decide (cmpI z 0 < 0) = neg z := by
  unfold cmpI; apply decide_eq_decide.2; split <;> (try split) <;> omega
theorem abs_ediv {z : Int} {g : Nat} (h : g ∣ z.natAbs) (h0 : 0 < g) : (z / (g : Int)).natAbs = z.natAbs / g ∧ (z / (g : Int) < 0 ↔ z < 0) := by
  obtain ⟨k, hk⟩ := Int.ofNat_dvd_left.2 h
  subst hk
  have hg : (g : Int) ≠ 0 := by omega
  rw [Int.mul_ediv_cancel_left _ hg, Int.natAbs_mul, Int.natAbs_natCast, Nat.mul_div_cancel_left _ h0]
  refine ⟨rfl, ?_⟩
  constructor
  · intro h; exact Int.mul_neg_of_pos_of_neg (by omega) h
  · intro h
    rcases Int.lt_or_le k 0 with h' | h'
    · exact h'
    · have := Int.mul_nonneg (show (0 : Int) ≤ g by omega) h'; omega
theorem frac_made {M : Nat} (hD : DivTo M) {num : Int} {den : Nat} (h0 : 0 < den) (hn : num.natAbs ≤ M) (hd : den ≤ M) (hs : sz den ≤ 700000000) :
    z55.F (lb num.natAbs) (neg num) (lb den) = some (lb (mkRat num den).num.natAbs, neg (mkRat num den).num, lb ((mkRat num den).den - 1)) := by
  have hg : 0 < Nat.gcd num.natAbs den := Nat.gcd_pos_of_pos_right _ h0
  have hgd : Nat.gcd num.natAbs den ≤ den := Nat.gcd_le_right _ h0
  have hdv := Nat.gcd_dvd_right num.natAbs den
  have hdv2 := Nat.gcd_dvd_left num.natAbs den
  have hp : 0 < den / Nat.gcd num.natAbs den := Nat.div_pos hgd hg
  have hle : den / Nat.gcd num.natAbs den ≤ den := Nat.div_le_self _ _
  have hsz := Nat.le_trans (lb_sz _) (Nat.le_trans (sz_mono hle) hs)
  obtain ⟨q1, q2⟩ := abs_ediv hdv2 hg
  unfold z55.F z47.F
  simp only [Option.bind_some]
  rw [quot_Gcd hD hn hd]
  simp only [Option.bind_some]
  rw [Rat.num_mkRat, Rat.den_mkRat, if_neg (by omega), if_neg (by omega), Nat.gcd_comm den]
  generalize Nat.gcd num.natAbs den = g at *
  have d1 : z53.F (lb num.natAbs) (lb g) = _ := hD _ _ hn (by omega) hg
  have d2 : z53.F (lb den) (lb g) = _ := hD _ _ hd (by omega) hg
  rw [d1]
  simp only [Option.bind_some]
  rw [d2]
  simp only [Option.bind_some]
  rw [nat_Of1 (by omega)]
  simp only [Option.bind_some]
  rw [show Int.toNat 1 = 1 from rfl, nat_Sub (by omega), if_pos (by omega)]
  simp only [Option.bind_some]
  rw [whole_Sign]
  simp only [Option.bind_some]
  rw [cmpI_neg, whole_at (z := num / (g : Int)) q1.symm (by
    have hz : num / (g : Int) < 0 ↔ num < 0 := q2
    by_cases h : num < 0
    · exact .inl ⟨decide_eq_true h, by omega⟩
    · exact .inr ⟨decide_eq_false h, by omega⟩)]
  rfl
abbrev fr (q : Rat) : List Int × Bool × List Int := (lb q.num.natAbs, neg q.num, lb (q.den - 1))
theorem frac_Of {M : Nat} (hD : DivTo M) {num den : Int} (h0 : den ≠ 0) (hn : num.natAbs ≤ M) (hd : den.natAbs ≤ M) (hs : sz den.natAbs ≤ 700000000) :
    z56.F (lb num.natAbs) (neg num) (lb den.natAbs) (neg den) = some ((fr (Rat.divInt num den)).1, (fr (Rat.divInt num den)).2.1, (fr (Rat.divInt num den)).2.2, 0) := by
  have hc : cmpI den 0 = if den < 0 then -1 else 1 := by
    unfold cmpI
    by_cases h : den < 0
    · rw [if_pos h, if_pos h]
    · rw [if_neg h, if_neg h, if_neg h0]
  unfold z56.F
  rw [whole_Sign]
  simp only [Option.bind_some]
  rw [hc]
  by_cases h : den < 0
  · have e : Rat.divInt num den = mkRat (-num) den.natAbs := by
      have : den = -((den.natAbs : Nat) : Int) := by omega
      conv => lhs; rw [this]
      rw [Rat.divInt_neg', Rat.divInt_ofNat]
    rw [if_pos h, bif_f (by decide), bif_t rfl, whole_Neg]
    simp only [Option.bind_some]
    unfold z56.j4 z47.F
    simp only [Option.bind_some]
    rw [frac_made hD (by omega) (by omega) hd hs, e]
    rfl
  · have e : Rat.divInt num den = mkRat num den.natAbs := by
      have : den = ((den.natAbs : Nat) : Int) := by omega
      conv => lhs; rw [this]
      rw [Rat.divInt_ofNat]
    rw [if_neg h, bif_f (by decide), bif_f (by decide)]
    unfold z56.j4 z47.F
    simp only [Option.bind_some]
    rw [frac_made hD (by omega) hn hd hs, e]
    rfl
theorem frac_Den (q : Rat) (a : List Int) (b : Bool) (hs : sz q.den ≤ 700000000) : z58.F a b (lb (q.den - 1)) = some (lb q.den) := by
  have h1 : sz 1 ≤ 1 := sz_le (by decide)
  have h2 := Nat.le_trans (lb_sz (q.den - 1)) (Nat.le_trans (sz_mono (Nat.sub_le _ _)) hs)
  have h3 := Nat.le_trans (lb_sz 1) h1
  unfold z58.F
  rw [nat_Of1 (by omega)]
  simp only [Option.bind_some]
  rw [show Int.toNat 1 = 1 from rfl, nat_Add (by omega), Nat.sub_add_cancel q.den_pos]
  rfl
theorem frac_den (q : Rat) (a : List Int) (b : Bool) (hs : sz q.den ≤ 700000000) : z59.F a b (lb (q.den - 1)) = some (lb (q.den : Int).natAbs, neg (q.den : Int)) := by
  unfold z59.F
  rw [frac_Den q a b hs]
  simp only [Option.bind_some]
  rw [whole_at (z := (q.den : Int)) (by omega) (.inr ⟨rfl, by omega⟩)]
  rfl
theorem rat_div (q r : Rat) : q / r = Rat.divInt (q.num * r.den) (q.den * r.num) := by
  rw [Rat.div_def, Rat.inv_def]
  conv => lhs; rw [← Rat.num_divInt_den q, Rat.divInt_mul_divInt]
theorem frac_Quo {M : Nat} (hD : DivTo M) {q r : Rat} (h0 : r ≠ 0) (hn : (q.num * r.den).natAbs ≤ M) (hd : (q.den * r.num).natAbs ≤ M) (hs : sz q.num.natAbs + sz r.den ≤ 600000000) (hs' : sz r.num.natAbs + sz q.den ≤ 600000000) :
    z60.F (lb q.num.natAbs) (neg q.num) (lb (q.den - 1)) (lb r.num.natAbs) (neg r.num) (lb (r.den - 1)) = some ((fr (q / r)).1, (fr (q / r)).2.1, (fr (q / r)).2.2, 0) := by
  have e1 : sz (r.den : Int).natAbs = sz r.den := rfl
  have e2 : sz (q.den : Int).natAbs = sz q.den := rfl
  have l1 := lb_sz q.num.natAbs
  have l2 := lb_sz (r.den : Int).natAbs
  have l3 := lb_sz (q.den : Int).natAbs
  have l4 := lb_sz r.num.natAbs
  have hr : r.num ≠ 0 := fun h => h0 (Rat.num_eq_zero.1 h)
  have hqd := q.den_nz
  have m1 := sz_mul (q.den : Int).natAbs r.num.natAbs
  rw [← Int.natAbs_mul] at m1
  unfold z60.F
  rw [frac_den r _ _ (by omega)]
  simp only [Option.bind_some]
  rw [whole_Mul (by omega)]
  simp only [Option.bind_some]
  rw [frac_den q _ _ (by omega)]
  simp only [Option.bind_some]
  rw [whole_Mul (by omega)]
  simp only [Option.bind_some]
  rw [frac_Of hD (Int.mul_ne_zero (by omega) hr) hn hd (by show sz _ ≤ _; omega), rat_div]
  rfl
end Go.Proofs.YtgjncgiekniniaaGreatDoor.A
end
section
set_option linter.unusedVariables false
set_option linter.unusedSimpArgs false
namespace Go.Proofs.YtgjncgiekniniaaGreatDoor.A
open Go
def cutNeg (s : List UInt8) : List UInt8 × Bool := match s with | [] => ([], false) | b :: t => if b = 45 then (t, true) else (b :: t, false)
theorem cutNeg_len (s : List UInt8) : (cutNeg s).1.length ≤ s.length := by
  unfold cutNeg; split
  · simp
  · split <;> simp
theorem strings_Cut (s : List UInt8) : z25.F s [45] = some (cutNeg s) := by
  unfold z25.F z24.F z23.F cutNeg
  cases s with
  | nil => rfl
  | cons b t =>
    have e1 : ([45] : List UInt8).length = 1 := rfl
    have e2 : Int.toNat ((1 : Nat) : Int) = 1 := rfl
    simp only [e1, e2]
    rw [bif_t (by simp; omega), if_pos (by simp; omega)]
    simp only [Option.bind_some, List.take_succ_cons, List.take_zero, List.drop_succ_cons, List.drop_zero, List.cons.injEq, and_true]
    by_cases h : b = 45
    · rw [decide_eq_true h, if_pos h, if_pos (by simp; omega)]; rfl
    · rw [decide_eq_false h, if_neg h]; rfl
def mWhole (s : List UInt8) : Int × Int :=
  if (mDigits (cutNeg s).1).2 ≠ 0 then (0, (mDigits (cutNeg s).1).2)
  else if (cutNeg s).2 && decide ((mDigits (cutNeg s).1).1 = 0) then (0, 5)
  else (if (cutNeg s).2 then -((mDigits (cutNeg s).1).1 : Int) else (mDigits (cutNeg s).1).1, 0)
theorem whole_Parse (s : List UInt8) : z30.F s = some (lb (mWhole s).1.natAbs, neg (mWhole s).1, (mWhole s).2) := by
  unfold z30.F mWhole
  rw [strings_Cut]
  simp only [Option.bind_some]
  rw [digits_Parse]
  simp only [Option.bind_some]
  generalize mDigits (cutNeg s).1 = d
  generalize (cutNeg s).2 = below
  by_cases h : d.2 = 0
  · have h' : ¬ (d.2 ≠ 0) := fun hh => hh h
    rw [decide_eq_true h, if_neg h']
    simp only [Bool.not_true, cond_false]
    cases below with
    | true =>
      simp only [cond_true, Bool.true_and, if_true]
      rw [nat_Zero]
      simp only [Option.bind_some]
      by_cases h0 : d.1 = 0
      · rw [decide_eq_true h0]
        simp only [if_true, cond_true]
        rw [show Int.natAbs 0 = 0 from rfl, lb_zero]; rfl
      · rw [decide_eq_false h0]
        simp only [cond_false]
        rw [whole_at (z := -(d.1 : Int)) (by omega) (.inl ⟨rfl, by omega⟩)]
        simp
    | false =>
      simp only [cond_false, Bool.false_and]
      rw [whole_at (z := (d.1 : Int)) (by omega) (.inr ⟨rfl, by omega⟩)]
      simp
  · rw [decide_eq_false h, if_pos h]
    simp only [Bool.not_false, cond_true]
    rw [show Int.natAbs 0 = 0 from rfl, lb_zero]; rfl
def cutDot : List UInt8 → List UInt8 × Option (List UInt8)
  | [] => ([], none)
  | b :: t => if b = 46 then ([], some t) else (b :: (cutDot t).1, (cutDot t).2)
theorem cutDot_none : ∀ {t : List UInt8}, (cutDot t).2 = none → (cutDot t).1 = t
  | [], _ => rfl
  | b :: t, h => by
    unfold cutDot at h ⊢
    split at h
    · simp at h
    · rename_i hb
      rw [if_neg hb]
      simp only at h ⊢
      rw [cutDot_none h]
theorem cutDot_some : ∀ {t r : List UInt8}, (cutDot t).2 = some r → t = (cutDot t).1 ++ 46 :: r
  | [], r, h => by simp [cutDot] at h
  | b :: t, r, h => by
    unfold cutDot at h ⊢
    split at h
    · rename_i hb
      rw [if_pos hb, hb]
      simp only [Option.some.injEq] at h
      rw [h]; rfl
    · rename_i hb
      rw [if_neg hb]
      simp only at h ⊢
      conv => lhs; rw [cutDot_some h]
      rfl
theorem byteIdx_cons (b : UInt8) (t : List UInt8) (c : UInt8) : byteIdx (b :: t) c = if b = c then 0 else if byteIdx t c < 0 then -1 else byteIdx t c + 1 := by
  unfold byteIdx
  rw [List.length_cons, List.range_succ_eq_map, List.find?_cons]
  by_cases h : b = c
  · simp [h]
  · have h1 : ((b :: t).getD 0 0 == c) = false := by simp [h]
    rw [h1, if_neg h]
    simp only
    rw [List.find?_map]
    have e : ((fun i => (b :: t).getD i 0 == c) ∘ Nat.succ) = fun i => t.getD i 0 == c := by funext i; simp [List.getD]
    rw [e]
    cases (List.range t.length).find? fun i => t.getD i 0 == c with
    | none => simp
    | some i => simp; omega
theorem byteIdx_dot : ∀ t : List UInt8, byteIdx t 46 = if (cutDot t).2 = none then -1 else ((cutDot t).1.length : Int)
  | [] => by simp [byteIdx, cutDot]
  | b :: t => by
    have e : cutDot (b :: t) = if b = 46 then ([], some t) else (b :: (cutDot t).1, (cutDot t).2) := by rw [cutDot]
    rw [byteIdx_cons, byteIdx_dot t, e]
    by_cases h : b = 46
    · simp [h]
    · rw [if_neg h, if_neg h]
      by_cases h2 : (cutDot t).2 = none
      · simp [h2]
      · simp [h2]; omega
def plainB (s : List UInt8) : Bool := !decide (s = []) && digs s
def zeros (s : List UInt8) : Bool := s.all (· == 48)
theorem dec_plain (s : List UInt8) (h : s.length ≤ 9223372036854775807) : z37.F s = some (plainB s) := by
  unfold z37.F plainB
  by_cases h0 : s = []
  · rw [decide_eq_true h0]; rfl
  · rw [decide_eq_false h0]
    obtain ⟨r, t1, t2⟩ := trim_digits s h
    simp only [Bool.not_false, cond_true]
    rw [t1]
    simp only [Option.bind_some]
    rw [t2]; simp
theorem has_zero (b : UInt8) : ([48] : List UInt8).contains b = (b == 48) := by
  simp only [List.contains_cons, List.contains_nil, Bool.or_false]
theorem trim_zeros (s : List UInt8) (hs : s.length ≤ 9223372036854775807) : ∃ r, z3.F s [48] = some r ∧ decide (r = []) = zeros s := by
  unfold z3.F
  rw [if_pos ⟨hs, by decide, by decide⟩]
  refine ⟨_, rfl, ?_⟩
  rw [Bool.eq_iff_iff, decide_eq_true_iff, trim_nil, zeros, List.all_eq_true]
  simp only [has_zero]
theorem trimL_spec : ∀ {s : List UInt8}, digits s → tv 0 (trimL s [48]) = tv 0 s ∧ digits (trimL s [48]) ∧ (trimL s [48]).length ≤ s.length ∧ (trimL s [48] ≠ [] → ((trimL s [48]).getD 0 0).toNat ≠ 48)
  | [], h => by simp [trimL, tv, digits]
  | b :: s, h => by
    have ih := trimL_spec (s := s) fun x hx => h x (by simp [hx])
    by_cases hb : b = 48
    · have e : trimL (b :: s) [48] = trimL s [48] := by unfold trimL; exact List.dropWhile_cons_of_pos (by rw [hb]; decide)
      rw [e]
      refine ⟨?_, ih.2.1, by rw [List.length_cons]; omega, ih.2.2.2⟩
      rw [ih.1, hb]; rfl
    · have e : trimL (b :: s) [48] = b :: s := by unfold trimL; exact List.dropWhile_cons_of_neg (by simp [hb])
      rw [e]
      refine ⟨rfl, h, Nat.le_refl _, fun _ hh => hb (UInt8.toNat_inj.1 hh)⟩
theorem parse_trim {s : List UInt8} (hd : digits s) (hl : s.length ≤ 4096) : z29.F (if trimL s [48] = [] then [48] else trimL s [48]) = some (lb (tv 0 s).toNat, 0) := by
  obtain ⟨h1, h2, h3, h4⟩ := trimL_spec hd
  rw [digits_Parse]
  by_cases h : trimL s [48] = []
  · rw [if_pos h]
    rw [h] at h1
    rw [← h1]; rfl
  · rw [if_neg h, ← h1]
    unfold mDigits
    have : numOK (trimL s [48]) = true := by
      unfold numOK
      rw [decide_eq_false h, digs_iff.2 h2, decide_eq_false (h4 h)]; simp
    rw [if_neg (by omega), this]; rfl
def decOf (below : Bool) (a : List UInt8) (o : Option (List UInt8)) : Int × Nat × Int :=
  if !plainB a || (o.isSome && !plainB (o.getD [])) || (decide (1 < a.length) && decide ((a.getD 0 0).toNat = 48)) then (0, 0, 5)
  else if below && zeros (a ++ o.getD []) then (0, 0, 5)
  else if 64 < (o.getD []).length then (0, 0, 10)
  else (if below then -tv 0 (a ++ o.getD []) else tv 0 (a ++ o.getD []), (o.getD []).length, 0)
def mDec (s : List UInt8) : Int × Nat × Int := if 4096 < s.length then (0, 0, 7) else decOf (cutNeg s).2 (cutDot (cutNeg s).1).1 (cutDot (cutNeg s).1).2
abbrev decR (m : Int × Nat × Int) : List Int × Bool × Int × Int := (lb m.1.natAbs, neg m.1, (m.2.1 : Int), m.2.2)
theorem decR0 (e : Int) : decR (0, 0, e) = ([], false, 0, e) := by unfold decR; simp [lb_zero]
theorem sign_of (n : Int) (h : 0 ≤ n) (below : Bool) : z9.F (lb n.toNat) below = some (lb (if below then -n else n).natAbs, neg (if below then -n else n)) := by
  cases below
  · rw [whole_at (z := n) (by omega) (.inr ⟨rfl, h⟩)]; rfl
  · rw [whole_at (z := -n) (by omega) (.inl ⟨rfl, by omega⟩)]; rfl
theorem dec_j14 {rest a b : List UInt8} {below lead : Bool} (h1 : rest.take a.length = a) (h2 : rest.drop (a.length + 1) = b) (ha : digits a) (hb : digits b) (hl : a.length + b.length ≤ 4096) :
    z38.j14 lead (rest, below) (a.length : Int) = some (decR (if lead then (0, 0, 5) else if below && zeros (a ++ b) then (0, 0, 5) else if 64 < b.length then (0, 0, 10) else (if below then -tv 0 (a ++ b) else tv 0 (a ++ b), b.length, 0))) := by
  have e1 : (wr .i64 ((a.length : Int) + 1)).toNat = a.length + 1 := by rw [wr_i64 (by omega) (by omega)]; omega
  have hab : digits (a ++ b) := fun x hx => (List.mem_append.1 hx).elim (ha x) (hb x)
  have hln : (a ++ b).length ≤ 4096 := by rw [List.length_append]; exact hl
  have key : z38.j16 false (rest, below) (a.length : Int) = some (decR (if 64 < b.length then (0, 0, 10) else (if below then -tv 0 (a ++ b) else tv 0 (a ++ b), b.length, 0))) := by
    unfold z38.j16
    simp only [e1, Int.toNat_natCast, h1, h2, cond_false]
    by_cases h64 : 64 < b.length
    · rw [bif_t (by omega), if_pos h64, decR0]
    · rw [bif_f (by omega), if_neg h64, if_pos (by omega)]
      have et : z4.F (a ++ b) [48] = some (trimL (a ++ b) [48]) := by unfold z4.F; rw [if_pos ⟨by decide, by decide⟩]
      rw [et]
      simp only [Option.bind_some]
      have ep := parse_trim hab hln
      have fin : ∀ x, z29.F x = some (lb (tv 0 (a ++ b)).toNat, 0) → z38.j18 x (rest, below) (a.length : Int) = some (decR (if below then -tv 0 (a ++ b) else tv 0 (a ++ b), b.length, 0)) := fun x hx => by
        unfold z38.j18
        rw [hx]
        simp only [Option.bind_some, e1, h2]
        rw [sign_of _ (tv_bound hab).1]
        rfl
      by_cases ht : trimL (a ++ b) [48] = []
      · rw [if_pos ht] at ep
        rw [bif_t ht]; exact fin _ ep
      · rw [if_neg ht] at ep
        rw [bif_f ht]; exact fin _ ep
  unfold z38.j14
  simp only [e1, Int.toNat_natCast, h1, h2]
  cases lead with
  | true => simp only [cond_true, if_true]; rw [decR0]
  | false =>
    simp only [cond_false]
    rw [if_neg Bool.false_ne_true]
    cases below with
    | false => simp only [cond_false, Bool.false_and]; rw [key]; rfl
    | true =>
      obtain ⟨r, t1, t2⟩ := trim_zeros (a ++ b) (by omega)
      simp only [cond_true, Bool.true_and]
      rw [if_pos (by omega), t1]
      simp only [Option.bind_some]
      rw [t2]
      cases hz : zeros (a ++ b) with
      | true => unfold z38.j16; simp only [cond_true, if_true]; rw [decR0]
      | false => rw [key]; rfl
theorem dec_j22 {a : List UInt8} {below lead : Bool} (ha : digits a) (hl : a.length ≤ 4096) :
    z38.j22 lead (a, below) = some (decR (if lead then (0, 0, 5) else if below && zeros a then (0, 0, 5) else (if below then -tv 0 a else tv 0 a, 0, 0))) := by
  have key : z38.j24 (a, below) = some (decR (if below then -tv 0 a else tv 0 a, 0, 0)) := by
    unfold z38.j24
    simp only [List.append_nil]
    rw [if_pos (by simp; omega)]
    have et : z4.F a [48] = some (trimL a [48]) := by unfold z4.F; rw [if_pos ⟨by decide, by decide⟩]
    rw [et]
    simp only [Option.bind_some]
    have ep := parse_trim ha hl
    have fin : ∀ x, z29.F x = some (lb (tv 0 a).toNat, 0) → z38.j26 x (a, below) = some (decR (if below then -tv 0 a else tv 0 a, 0, 0)) := fun x hx => by
      unfold z38.j26
      rw [hx]
      simp only [Option.bind_some]
      rw [sign_of _ (tv_bound ha).1]
      rfl
    by_cases ht : trimL a [48] = []
    · rw [if_pos ht] at ep
      rw [bif_t ht]; exact fin _ ep
    · rw [if_neg ht] at ep
      rw [bif_f ht]; exact fin _ ep
  unfold z38.j22
  simp only [List.append_nil]
  cases lead with
  | true => simp only [cond_true, if_true]; rw [decR0]
  | false =>
    simp only [cond_false]
    rw [if_neg Bool.false_ne_true]
    cases below with
    | false => simp only [cond_false, Bool.false_and]; rw [key]; rfl
    | true =>
      obtain ⟨r, t1, t2⟩ := trim_zeros a (by omega)
      simp only [cond_true, Bool.true_and]
      rw [if_pos (by simp; omega), t1]
      simp only [Option.bind_some]
      rw [t2]
      cases hz : zeros a with
      | true => simp only [cond_true, if_true]; rw [decR0]
      | false => simp only [cond_false]; rw [key]; rfl
theorem plainB_digits {s : List UInt8} (h : plainB s = true) : digits s ∧ s ≠ [] := by
  unfold plainB at h
  rw [Bool.and_eq_true] at h
  exact ⟨digs_iff.1 h.2, by simpa using h.1⟩
theorem dec_lead {a : List UInt8} (hne : a ≠ []) {α : Type} (f : Bool → Option α) :
    (bif decide ((a.length : Int) > 1) then (if (0 : Int) ≤ (0 : Int) ∧ (0 : Int) < (a.length : Int) then f (decide (((a.getD 0 0).toNat : Int) = (48 : Int))) else none) else f false) = f (decide (1 < a.length) && decide ((a.getD 0 0).toNat = 48)) := by
  have hpos := List.length_pos_iff.2 hne
  by_cases h : 1 < a.length
  · rw [bif_t (by omega), if_pos (by omega), decide_eq_true h, Bool.true_and]
    congr 1; exact decide_eq_decide.2 (by omega)
  · rw [bif_f (by omega), decide_eq_false h, Bool.false_and]
theorem dec_Parse (s : List UInt8) : z38.F s = some (decR (mDec s)) := by
  unfold z38.F mDec
  by_cases h0 : 4096 < s.length
  · rw [bif_t (by omega), if_pos h0, decR0]
  · rw [bif_f (by omega), if_neg h0, strings_Cut]
    simp only [Option.bind_some]
    have hlen := cutNeg_len s
    generalize cutNeg s = c at *
    obtain ⟨rest, below⟩ := c
    simp only at hlen ⊢
    have hp0 : z37.F ([] : List UInt8) = some false := rfl
    by_cases hdot : ([46] : List UInt8) = rest
    · subst hdot
      rw [bif_t rfl]
      simp only [List.length_singleton, List.take_zero, hp0, Option.bind_some]
      unfold z38.j4
      simp only [Bool.not_false, cond_true]
      have : decOf below (cutDot [46]).1 (cutDot [46]).2 = (0, 0, 5) := by simp [cutDot, decOf, plainB]
      rw [this, decR0]
      rfl
    · rw [bif_f hdot, if_pos (by simp)]
      have hi : z2.F rest ((([46] : List UInt8).getD 0 0).toNat : Int) = some (byteIdx rest 46) := rfl
      rw [hi]
      simp only [Option.bind_some]
      rw [byteIdx_dot]
      cases ho : (cutDot rest).2 with
      | none =>
        have ha := cutDot_none ho
        rw [if_pos rfl, bif_f (by omega), ha, dec_plain _ (by omega)]
        simp only [Option.bind_some]
        unfold decOf
        simp only [Option.isSome_none, Bool.false_and, Bool.or_false, Option.getD_none, List.append_nil, List.length_nil]
        cases hpl : plainB rest with
        | false => unfold z38.j22; simp only [Bool.not_false, cond_true, Bool.true_or, if_true]; rw [decR0]
        | true =>
          obtain ⟨hd, hne⟩ := plainB_digits hpl
          simp only [Bool.not_true, cond_false, Bool.false_or]
          rw [dec_lead hne fun b => z38.j22 b (rest, below), dec_j22 hd (by omega)]
          rfl
      | some b =>
        have hab := cutDot_some ho
        generalize (cutDot rest).1 = a at *
        have hl : rest.length = a.length + (b.length + 1) := by rw [hab]; simp
        have t1 : rest.take a.length = a := by rw [hab]; simp
        have t2 : rest.drop (a.length + 1) = b := by
          rw [hab, ← List.drop_drop]; simp
        have e1 : (wr .i64 ((a.length : Int) + 1)) = ((a.length + 1 : Nat) : Int) := by rw [wr_i64 (by omega) (by omega)]; omega
        rw [if_neg (by simp), bif_t (by omega), if_pos (by omega)]
        simp only [e1, Int.toNat_natCast, t1, t2]
        rw [if_pos (by omega), dec_plain a (by omega)]
        simp only [Option.bind_some]
        unfold decOf
        simp only [Option.isSome_some, Bool.true_and, Option.getD_some]
        cases hpl : plainB a with
        | false => unfold z38.j14; simp only [Bool.not_false, cond_true, Bool.true_or, if_true]; rw [decR0]
        | true =>
          obtain ⟨hd, hne⟩ := plainB_digits hpl
          simp only [Bool.not_true, cond_false, Bool.false_or]
          rw [dec_plain b (by omega)]
          simp only [Option.bind_some]
          cases hpb : plainB b with
          | false => unfold z38.j14; simp only [Bool.not_false, cond_true, Bool.true_or, if_true]; rw [decR0]
          | true =>
            obtain ⟨hdb, hneb⟩ := plainB_digits hpb
            simp only [Bool.not_true, cond_false, Bool.false_or]
            rw [dec_lead hne fun x => z38.j14 x (rest, below) (a.length : Int), dec_j14 t1 t2 hd hdb (by omega)]
end Go.Proofs.YtgjncgiekniniaaGreatDoor.A
end
section
set_option linter.unusedVariables false
set_option linter.unusedSimpArgs false
namespace Go.Proofs.YtgjncgiekniniaaGreatDoor.A
open Go
abbrev leap (y : Int) : Prop := y % 4 = 0 ∧ ¬ y % 100 = 0 ∨ y % 400 = 0
abbrev goodY (y : Int) : Prop := 1 ≤ y ∧ y ≤ 9999
def dDays (y m : Int) : Int := if ¬ goodY y ∨ m < 1 ∨ 12 < m then 0 else if m = 2 then (if leap y then 29 else 28) else if m = 4 ∨ m = 6 ∨ m = 9 ∨ m = 11 then 30 else 31
abbrev right (y m d : Int) : Prop := 1 ≤ d ∧ d ≤ dDays y m
theorem tmod_z {a b : Int} (hb : 0 < b) : Int.tmod a b = 0 ↔ a % b = 0 := by
  rw [← Int.dvd_iff_tmod_eq_zero, ← Int.dvd_iff_emod_eq_zero]
theorem date_good (y : Int) : z71.F y = some (decide (goodY y)) := by
  unfold z71.F
  by_cases h : y ≥ 1
  · rw [bif_t h]; congr 1; exact decide_eq_decide.2 (by omega)
  · rw [bif_f h]; congr 1; symm; exact decide_eq_false (by omega)
theorem date_Leap (y : Int) : z72.F y = some (decide (goodY y ∧ leap y)) := by
  unfold z72.F
  rw [date_good]
  simp only [Option.bind_some, tmod_z (show (0 : Int) < 4 by decide), tmod_z (show (0 : Int) < 100 by decide), tmod_z (show (0 : Int) < 400 by decide)]
  by_cases h : goodY y
  · rw [bif_t h]
    by_cases h4 : y % 4 = 0
    · rw [bif_t h4]
      by_cases h1 : y % 100 = 0
      · rw [decide_eq_true h1]; simp only [Bool.not_true, cond_false]; congr 1; exact decide_eq_decide.2 (by omega)
      · rw [decide_eq_false h1]; simp only [Bool.not_false, cond_true]; congr 1; symm; exact decide_eq_true (by omega)
    · rw [bif_f h4]; congr 1; exact decide_eq_decide.2 (by omega)
  · rw [bif_f h]; congr 1; symm; exact decide_eq_false (fun hh => h hh.1)
theorem date_Days (y m : Int) : z73.F y m = some (dDays y m) := by
  unfold z73.F dDays
  rw [date_good]
  simp only [Option.bind_some]
  by_cases hy : goodY y
  · rw [decide_eq_true hy]
    simp only [Bool.not_true, cond_false]
    by_cases h1 : m < 1
    · rw [bif_t h1, if_pos (by omega)]
    · rw [bif_f h1]
      by_cases h12 : m > 12
      · rw [bif_t h12, if_pos (by omega)]
      · rw [bif_f h12, if_neg (by omega)]
        by_cases h2 : m = 2
        · subst h2
          rw [bif_t rfl, if_pos rfl, date_Leap]
          simp only [Option.bind_some]
          by_cases hl : leap y
          · rw [decide_eq_true ⟨hy, hl⟩, if_pos hl]; rfl
          · rw [decide_eq_false (fun hh => hl hh.2), if_neg hl]; rfl
        · rw [bif_f h2, if_neg h2]
          have : m = 1 ∨ m = 3 ∨ m = 4 ∨ m = 5 ∨ m = 6 ∨ m = 7 ∨ m = 8 ∨ m = 9 ∨ m = 10 ∨ m = 11 ∨ m = 12 := by omega
          rcases this with rfl | rfl | rfl | rfl | rfl | rfl | rfl | rfl | rfl | rfl | rfl <;> rfl
  · rw [decide_eq_false hy, if_pos (.inl hy)]; rfl
theorem dDays_le (y m : Int) : 0 ≤ dDays y m ∧ dDays y m ≤ 31 := by
  unfold dDays; split
  · omega
  · split
    · split <;> omega
    · split <;> omega
theorem right_good {y m d : Int} (h : right y m d) : goodY y ∧ 1 ≤ m ∧ m ≤ 12 ∧ 1 ≤ d ∧ d ≤ 31 := by
  have h1 := h.2
  have h2 := dDays_le y m
  unfold dDays at h1
  split at h1
  · have := h.1; omega
  · rename_i hn
    have := h.1
    refine ⟨by omega, by omega, by omega, by omega, by omega⟩
theorem date_Check (y m d : Int) : z74.F y m d = some (if right y m d then 0 else 11) := by
  unfold z74.F
  rw [date_Days]
  simp only [Option.bind_some]
  by_cases h : d < 1
  · rw [bif_t h, if_neg (by omega)]
  · rw [bif_f h]
    by_cases h' : d > dDays y m
    · rw [bif_t h', if_neg (by omega)]
    · rw [bif_f h', if_pos (by omega)]
def addM (y m d k : Int) : Int × Int × Int := (((12 * y + m - 1) + k) / 12, ((12 * y + m - 1) + k) % 12 + 1, min d (dDays (((12 * y + m - 1) + k) / 12) (((12 * y + m - 1) + k) % 12 + 1)))
abbrev okM (y m k : Int) : Prop := 12 ≤ (12 * y + m - 1) + k ∧ (12 * y + m - 1) + k < 120000
theorem min_if (a b : Int) : (if a < b then a else b) = min b a := by omega
theorem month_Add {y m d k : Int} : z75.F y m d k = some (if right y m d ∧ okM y m k then ((addM y m d k).1, (addM y m d k).2.1, (addM y m d k).2.2, 0) else (0, 0, 0, 11)) := by
  unfold z75.F
  rw [date_Check]
  simp only [Option.bind_some]
  by_cases h : right y m d
  · have hg := right_good h
    rw [if_pos h]
    simp only [decide_true, Bool.not_true, cond_false]
    by_cases h1 : k < -119988
    · rw [bif_t h1, if_neg (by omega)]
    · rw [bif_f h1]
      by_cases h2 : k > 119988
      · rw [bif_t h2, if_neg (by omega)]
      · rw [bif_f h2]
        unfold z75.j2 z75.j3
        rw [wr_i64 (n := 12 * y) (by omega) (by omega), wr_i64 (n := 12 * y + m) (by omega) (by omega), wr_i64 (n := 12 * y + m - 1) (by omega) (by omega), wr_i64 (n := 12 * y + m - 1 + k) (by omega) (by omega)]
        by_cases h3 : 12 * y + m - 1 + k < 12
        · rw [bif_t h3, if_neg (by omega)]
        · rw [bif_f h3, tdiv_ediv (by omega), wr_i64 (n := (12 * y + m - 1 + k) / 12) (by omega) (by omega)]
          by_cases h4 : (12 * y + m - 1 + k) / 12 > 9999
          · rw [bif_t h4, if_neg (by omega)]
          · rw [bif_f h4, tmod_emod (by omega), wr_i64 (n := (12 * y + m - 1 + k) % 12 + 1) (by omega) (by omega), date_Days, if_pos (by exact ⟨h, by omega⟩)]
            simp only [Option.bind_some, min_if]
            rfl
  · rw [if_neg h, if_neg (fun hh => h hh.1)]; rfl
def aheadY (y : Int) : Int := 365 * (y - 1) + (y - 1) / 4 - (y - 1) / 100 + (y - 1) / 400
def cumD (y m : Int) : Int := (367 * m - 362) / 12 - (if m ≤ 2 then 0 else if leap y then 1 else 2)
def num (y m d : Int) : Int := aheadY y + cumD y m + d
end Go.Proofs.YtgjncgiekniniaaGreatDoor.A
end
section
set_option linter.unusedVariables false
set_option linter.unusedSimpArgs false
namespace Go.Proofs.YtgjncgiekniniaaGreatDoor.A
open Go
theorem tv_sz {s : List UInt8} (h : digits s) : sz (tv 0 s).toNat ≤ s.length := sz_le (by have := tv_bound h; omega)
theorem mDigits_sz (s : List UInt8) : sz (mDigits s).1 ≤ 4096 := by
  have h0 : sz 0 ≤ 4096 := by rw [sz_zero]; omega
  unfold mDigits
  split
  · exact h0
  · split
    · rename_i h1 h2
      unfold numOK at h2
      simp only [Bool.and_eq_true] at h2
      have := tv_sz (digs_iff.1 h2.1.2)
      show sz (tv 0 s).toNat ≤ 4096
      omega
    · exact h0
theorem mWhole_sz (s : List UInt8) : sz (mWhole s).1.natAbs ≤ 4096 := by
  have h := mDigits_sz (cutNeg s).1
  have h0 : sz 0 ≤ 4096 := by rw [sz_zero]; omega
  unfold mWhole
  split
  · exact h0
  · split
    · exact h0
    · show sz (if _ then _ else _ : Int).natAbs ≤ _
      split
      · rw [Int.natAbs_neg]; exact h
      · exact h
def mMoney (s : List UInt8) : Int × Int :=
  if (mWhole s).2 ≠ 0 then (0, (mWhole s).2) else if (mWhole s).1 < 0 ∨ 10 ^ 30 < (mWhole s).1 then (0, 19) else ((mWhole s).1, 0)
theorem terms_greatest : z33.F = some (lb (Int.natAbs (10 ^ 30)), neg (10 ^ 30)) := by
  unfold z33.F
  have h := digits_Ten (t := 30) (by decide)
  rw [show ((30 : Nat) : Int) = 30 from rfl] at h
  rw [h]
  simp only [Option.bind_some]
  rw [whole_at (z := 10 ^ 30) (by decide) (.inr ⟨rfl, by decide⟩)]
  rfl
theorem terms_Money (s : List UInt8) : z34.F s = some (lb (mMoney s).1.natAbs, neg (mMoney s).1, (mMoney s).2) := by
  have hz := mWhole_sz s
  unfold z34.F mMoney
  rw [whole_Parse]
  simp only [Option.bind_some]
  generalize mWhole s = w at *
  have hn : lb (Int.natAbs 0) = [] := lb_zero
  by_cases h : w.2 = 0
  · rw [decide_eq_true h, if_neg (by omega)]
    simp only [Bool.not_true, cond_false]
    rw [whole_Sign]
    simp only [Option.bind_some]
    by_cases h1 : w.1 < 0
    · rw [bif_t (cmpI_lt0.2 h1), if_pos (.inl h1), hn]; rfl
    · rw [bif_f (fun h => h1 (cmpI_lt0.1 h)), terms_greatest]
      simp only [Option.bind_some]
      have l1 := lb_sz w.1.natAbs
      have l2 : (lb (Int.natAbs (10 ^ 30))).length ≤ 31 := Nat.le_trans (lb_sz _) (sz_le (by decide))
      have l3 : sz w.1.natAbs ≤ 4096 := hz
      rw [whole_Cmp (by omega)]
      simp only [Option.bind_some]
      by_cases h2 : 10 ^ 30 < w.1
      · rw [bif_t (cmpI_gt0.2 h2), if_pos (.inr h2), hn]; rfl
      · rw [bif_f (fun h => h2 (cmpI_gt0.1 h)), if_neg (by omega)]
  · rw [decide_eq_false h, if_pos h, hn]; rfl
theorem mDec_bound (s : List UInt8) : (mDec s).2.1 ≤ 64 ∧ sz (mDec s).1.natAbs ≤ 4096 := by
  have h0 : sz (Int.natAbs 0) ≤ 4096 := by show sz 0 ≤ 4096; rw [sz_zero]; omega
  unfold mDec
  split
  · exact ⟨Nat.zero_le _, h0⟩
  · rename_i hl
    have hc := cutNeg_len s
    generalize (cutNeg s).1 = t at *
    unfold decOf
    split
    · exact ⟨Nat.zero_le _, h0⟩
    · rename_i hp
      split
      · exact ⟨Nat.zero_le _, h0⟩
      · split
        · exact ⟨Nat.zero_le _, h0⟩
        · rename_i h64
          refine ⟨by show List.length _ ≤ 64; omega, ?_⟩
          have hd : digits ((cutDot t).1 ++ (cutDot t).2.getD []) ∧ ((cutDot t).1 ++ (cutDot t).2.getD []).length ≤ 4096 := by
            simp only [Bool.or_eq_true, not_or, Bool.not_eq_true', Bool.not_eq_false, Bool.and_eq_true] at hp
            obtain ⟨⟨p1, p2⟩, p3⟩ := hp
            have q1 := (plainB_digits (by simpa using p1)).1
            cases ho : (cutDot t).2 with
            | none =>
              have := cutDot_none ho
              simp only [Option.getD_none, List.append_nil]
              exact ⟨q1, by rw [this]; omega⟩
            | some b =>
              have := cutDot_some ho
              rw [ho] at p2
              have q2 := (plainB_digits (s := b) (by simpa using p2)).1
              simp only [Option.getD_some]
              refine ⟨fun x hx => (List.mem_append.1 hx).elim (q1 x) (q2 x), ?_⟩
              have hlen : t.length = (cutDot t).1.length + (b.length + 1) := by
                conv => lhs; rw [this]
                simp
              rw [List.length_append]; omega
          have h1 := Nat.le_trans (tv_sz hd.1) hd.2
          have h2 := (tv_bound hd.1).1
          show sz (if _ then _ else _ : Int).natAbs ≤ _
          have e : ∀ z : Int, 0 ≤ z → z.natAbs = z.toNat := fun z hz => by omega
          split
          · rw [Int.natAbs_neg, e _ h2]; exact h1
          · rw [e _ h2]; exact h1
theorem dec_ten {t : Nat} (ht : t ≤ 4096) : z43.F (t : Int) = some (lb (10 ^ t : Nat), false) := by
  unfold z43.F
  rw [digits_Ten ht]
  simp only [Option.bind_some]
  rw [whole_Of]; rfl
theorem dec_ten' {t : Nat} (ht : t ≤ 4096) : z43.F (t : Int) = some (lb ((10 ^ t : Nat) : Int).natAbs, neg ((10 ^ t : Nat) : Int)) := by
  rw [dec_ten ht]
  have : neg ((10 ^ t : Nat) : Int) = false := decide_eq_false (Int.not_lt.2 (Int.natCast_nonneg _))
  rw [this]; rfl
theorem sz_ten (t : Nat) : sz (10 ^ t) ≤ t + 1 := sz_le (by rw [Nat.pow_succ]; have : 0 < 10 ^ t := Nat.pow_pos (by decide); omega)
theorem dec_at {c : Int} {s t : Nat} (h : s ≤ t) (ht : t ≤ 4096) (hc : sz c.natAbs ≤ 100000000) : z44.F (lb c.natAbs) (neg c) (s : Int) (t : Int) = some (lb (c * (10 ^ (t - s) : Nat)).natAbs, neg (c * (10 ^ (t - s) : Nat))) := by
  have l1 := lb_sz c.natAbs
  have l2 := lb_sz ((10 ^ (t - s) : Nat) : Int).natAbs
  have l3 := sz_ten (t - s)
  have l4 : sz ((10 ^ (t - s) : Nat) : Int).natAbs = sz (10 ^ (t - s)) := rfl
  unfold z44.F
  rw [wr_i64 (by omega) (by omega), show (t : Int) - s = ((t - s : Nat) : Int) by omega, dec_ten' (by omega)]
  simp only [Option.bind_some]
  rw [whole_Mul (by omega)]
  rfl
theorem dec_Cmp {c c' : Int} {s s' : Nat} (hs : s ≤ 2000) (hs' : s' ≤ 2000) (hc : sz c.natAbs ≤ 100000000) (hc' : sz c'.natAbs ≤ 100000000) :
    z45.F (lb c.natAbs) (neg c) (s : Int) (lb c'.natAbs) (neg c') (s' : Int) = some (cmpI (c * (10 ^ (max s s' - s) : Nat)) (c' * (10 ^ (max s s' - s') : Nat))) := by
  have e : (if (s' : Int) > (s : Int) then (s' : Int) else (s : Int)) = ((max s s' : Nat) : Int) := by split <;> omega
  have m1 := sz_mul c.natAbs (10 ^ (max s s' - s))
  have m2 := sz_mul c'.natAbs (10 ^ (max s s' - s'))
  have t1 := sz_ten (max s s' - s)
  have t2 := sz_ten (max s s' - s')
  have l1 := lb_sz (c * (10 ^ (max s s' - s) : Nat)).natAbs
  have l2 := lb_sz (c' * (10 ^ (max s s' - s') : Nat)).natAbs
  have e1 : (c * (10 ^ (max s s' - s) : Nat)).natAbs = c.natAbs * 10 ^ (max s s' - s) := by rw [Int.natAbs_mul]; rfl
  have e2 : (c' * (10 ^ (max s s' - s') : Nat)).natAbs = c'.natAbs * 10 ^ (max s s' - s') := by rw [Int.natAbs_mul]; rfl
  have hc1 : sz c.natAbs ≤ 100000000 := hc
  have hc2 : sz c'.natAbs ≤ 100000000 := hc'
  rw [← e1] at m1
  rw [← e2] at m2
  unfold z45.F
  rw [e, dec_at (by omega) (by omega) hc]
  simp only [Option.bind_some]
  rw [dec_at (by omega) (by omega) hc']
  simp only [Option.bind_some]
  rw [whole_Cmp (by omega)]
  rfl
theorem mkRat_num_le (n : Int) {d : Nat} (hd : 0 < d) : (mkRat n d).num.natAbs ≤ n.natAbs := by
  rw [Rat.num_mkRat, if_neg (by omega), Nat.gcd_comm]
  have hg : 0 < Nat.gcd n.natAbs d := Nat.gcd_pos_of_pos_right _ hd
  rw [(abs_ediv (Nat.gcd_dvd_left n.natAbs d) hg).1]
  exact Nat.div_le_self _ _
theorem mkRat_den_le (n : Int) {d : Nat} (hd : 0 < d) : (mkRat n d).den ≤ d := by
  rw [Rat.den_mkRat, if_neg (by omega)]
  exact Nat.div_le_self _ _
theorem dec_Frac {M : Nat} (hD : DivTo M) {c : Int} {s : Nat} (hs : s ≤ 4096) (hc : c.natAbs ≤ M) (hM : 10 ^ s ≤ M) : z57.F (lb c.natAbs) (neg c) (s : Int) = some (fr (mkRat c (10 ^ s))) := by
  have hp : 0 < 10 ^ s := Nat.pow_pos (by decide)
  have l := sz_ten s
  unfold z57.F
  rw [dec_ten' hs]
  simp only [Option.bind_some]
  rw [frac_Of (num := c) (den := ((10 ^ s : Nat) : Int)) hD (by exact_mod_cast (Nat.ne_of_gt hp)) hc (by show 10 ^ s ≤ M; exact hM) (by show sz (10 ^ s) ≤ _; omega), Rat.divInt_ofNat]
  rfl
def mRate (s : List UInt8) : Rat × Int :=
  if (mDec s).2.2 ≠ 0 then (0, (mDec s).2.2)
  else if (mDec s).1 < 0 ∨ 1000 * (10 ^ (mDec s).2.1 : Nat) < (mDec s).1 ∨ 12 < (mDec s).2.1 then (0, 18)
  else (mkRat (mDec s).1 (10 ^ (mDec s).2.1) / 100, 0)
theorem fr_zero : fr 0 = ([], false, []) := by
  show (lb 0, neg 0, lb 0) = _
  rw [lb_zero]; rfl
theorem rate0 (e : Int) : some (([] : List Int), false, ([] : List Int), e) = some ((fr (0 : Rat)).1, (fr (0 : Rat)).2.1, (fr (0 : Rat)).2.2, e) := by
  rw [fr_zero]
theorem fr_100 : fr 100 = (lb (Int.natAbs 100), neg 100, []) := by
  show (lb 100, neg 100, lb 0) = _
  rw [lb_zero]; rfl
theorem divTo_small : DivTo 1000000000000000000 := fun x y hx hy h0 => DivOK_small (by omega) h0
theorem terms_Rate (s : List UInt8) : z61.F s = some ((fr (mRate s).1).1, (fr (mRate s).1).2.1, (fr (mRate s).1).2.2, (mRate s).2) := by
  obtain ⟨hb1, hb2⟩ := mDec_bound s
  unfold z61.F mRate
  rw [dec_Parse]
  simp only [Option.bind_some, decR]
  generalize mDec s = d at *
  obtain ⟨c, sc, e⟩ := d
  simp only at *
  have hcz : sz c.natAbs ≤ 4096 := hb2
  by_cases h : e = 0
  · rw [decide_eq_true h, if_neg (by omega)]
    simp only [Bool.not_true, cond_false]
    rw [whole_From (by omega)]
    simp only [Option.bind_some]
    have ho : z40.F (lb (Int.natAbs 1000)) (neg 1000) 0 = some (lb (Int.natAbs 1000), neg 1000, 0, 0) := rfl
    rw [ho]
    simp only [Option.bind_some]
    unfold z41.F z46.F
    simp only [Option.bind_some]
    rw [whole_Sign]
    simp only [Option.bind_some]
    by_cases h1 : c < 0
    · rw [bif_t (cmpI_lt0.2 h1), if_pos (.inl h1)]; exact rate0 18
    · rw [bif_f (fun h => h1 (cmpI_lt0.1 h))]
      have hk : sz (Int.natAbs 1000) ≤ 4 := sz_le (by decide)
      have hcmp := dec_Cmp (c := c) (c' := 1000) (s := sc) (s' := 0) (by omega) (by omega) (by omega) (by omega)
      rw [show ((0 : Nat) : Int) = 0 from rfl] at hcmp
      rw [hcmp]
      simp only [Option.bind_some, Nat.max_zero, Nat.sub_self, Nat.pow_zero, Nat.sub_zero, Int.natCast_one, Int.mul_one]
      by_cases h2 : 1000 * ((10 ^ sc : Nat) : Int) < c
      · rw [bif_t (cmpI_gt0.2 h2), if_pos (.inr (.inl h2))]; exact rate0 18
      · rw [bif_f (fun h => h2 (cmpI_gt0.1 h))]
        by_cases h3 : 12 < sc
        · rw [bif_t (by omega), if_pos (.inr (.inr h3))]; exact rate0 18
        · rw [bif_f (by omega), if_neg (by omega)]
          have hp12 : 10 ^ sc ≤ 10 ^ 12 := Nat.pow_le_pow_right (by decide) (by omega)
          have hp0 : 0 < 10 ^ sc := Nat.pow_pos (by decide)
          have n1 := mkRat_num_le c hp0
          have n2 := mkRat_den_le c hp0
          have hd0 := (mkRat c (10 ^ sc)).den_pos
          unfold z61.j8
          rw [dec_Frac divTo_small (by omega) (by omega) (by omega)]
          simp only [Option.bind_some]
          rw [whole_From (by omega)]
          simp only [Option.bind_some]
          have hf : z35.F (lb (Int.natAbs 100)) (neg 100) = some (fr 100) := by rw [fr_100]; rfl
          rw [hf]
          simp only [Option.bind_some]
          generalize mkRat c (10 ^ sc) = q at *
          have hq := frac_Quo divTo_small (q := q) (r := 100) (by decide)
            (by rw [show (100 : Rat).den = 1 from rfl]; simp; omega)
            (by rw [show (100 : Rat).num = 100 from rfl, Int.natAbs_mul]; show q.den * 100 ≤ _; omega)
            (by rw [show (100 : Rat).den = 1 from rfl]
                have a1 : sz q.num.natAbs ≤ 20 := sz_le (by omega)
                have a2 : sz 1 ≤ 1 := sz_le (by decide)
                omega)
            (by rw [show (100 : Rat).num = 100 from rfl]
                have a1 : sz q.den ≤ 20 := sz_le (by omega)
                have a2 : sz (Int.natAbs 100) ≤ 3 := sz_le (by decide)
                omega)
          rw [hq]
          rfl
  · rw [decide_eq_false h, if_pos h]; exact rate0 e
structure Tm where
  p : List UInt8
  r : List UInt8
  kind : Int
  basis : Int
  mode : Int
  y : Int
  m : Int
  d : Int
  every : Int
  count : Int
abbrev everyOK (e : Int) : Prop := e = 1 ∨ e = 2 ∨ e = 3 ∨ e = 4 ∨ e = 6 ∨ e = 12
abbrev kindsOK (t : Tm) : Prop := (0 ≤ t.kind ∧ t.kind ≤ 2) ∧ (0 ≤ t.basis ∧ t.basis ≤ 2) ∧ (0 ≤ t.mode ∧ t.mode ≤ 4) ∧ everyOK t.every
def mCheck (t : Tm) : Int :=
  if (mMoney t.p).2 ≠ 0 then (mMoney t.p).2 else if (mMoney t.p).1 = 0 then 19 else if (mRate t.r).2 ≠ 0 then (mRate t.r).2
  else if ¬ kindsOK t then 2 else if t.count < 1 ∨ 1200 < t.count then 6 else if right t.y t.m t.d ∧ okM t.y t.m (t.every * t.count) then 0 else 11
theorem terms_Word (k : Int) : ∃ w, z63.F k = some w ∧ decide (w = []) = decide (¬ (0 ≤ k ∧ k ≤ 2)) := by
  unfold z63.F
  by_cases h : k < 0
  · rw [bif_t h]; exact ⟨_, rfl, by simp; omega⟩
  · rw [bif_f h]
    by_cases h' : k ≥ 3
    · rw [bif_t h']; exact ⟨_, rfl, by simp; omega⟩
    · rw [bif_f h']
      have : k = 0 ∨ k = 1 ∨ k = 2 := by omega
      rcases this with rfl | rfl | rfl <;> exact ⟨_, rfl, rfl⟩
theorem basis_Word (k : Int) : ∃ w, z69.F k = some w ∧ decide (w = []) = decide (¬ (0 ≤ k ∧ k ≤ 2)) := by
  unfold z69.F z67.F
  by_cases h : k ≥ 0
  · rw [bif_t h]
    by_cases h' : k < 3
    · have : k = 0 ∨ k = 1 ∨ k = 2 := by omega
      rcases this with rfl | rfl | rfl <;> exact ⟨_, rfl, rfl⟩
    · rw [decide_eq_false h']; exact ⟨_, rfl, by simp; omega⟩
  · rw [bif_f h]; exact ⟨_, rfl, by simp; omega⟩
theorem mode_Word (k : Int) : ∃ w, z66.F k = some w ∧ decide (w = []) = decide (¬ (0 ≤ k ∧ k ≤ 4)) := by
  unfold z66.F z64.F
  by_cases h : k ≥ 0
  · rw [bif_t h]
    by_cases h' : k < 5
    · have : k = 0 ∨ k = 1 ∨ k = 2 ∨ k = 3 ∨ k = 4 := by omega
      rcases this with rfl | rfl | rfl | rfl | rfl <;> exact ⟨_, rfl, rfl⟩
    · rw [decide_eq_false h']; exact ⟨_, rfl, by simp; omega⟩
  · rw [bif_f h]; exact ⟨_, rfl, by simp; omega⟩
theorem tmod12 {e : Int} (h : 1 ≤ e) (h5 : e ≠ 5) : Int.tmod 12 e = 0 ↔ everyOK e := by
  rw [tmod_emod (by decide)]
  by_cases hb : 12 < e
  · rw [Int.emod_eq_of_lt (by decide) hb]; omega
  · have : e = 1 ∨ e = 2 ∨ e = 3 ∨ e = 4 ∨ e = 6 ∨ e = 7 ∨ e = 8 ∨ e = 9 ∨ e = 10 ∨ e = 11 ∨ e = 12 := by omega
    rcases this with rfl | rfl | rfl | rfl | rfl | rfl | rfl | rfl | rfl | rfl | rfl <;> decide
theorem terms_odd (t : Tm) : z70.F t.p t.r t.kind t.basis t.mode t.y t.m t.d t.every t.count = some (decide (¬ kindsOK t)) := by
  obtain ⟨w1, e1, d1⟩ := terms_Word t.kind
  obtain ⟨w2, e2, d2⟩ := basis_Word t.basis
  obtain ⟨w3, e3, d3⟩ := mode_Word t.mode
  unfold z70.F
  rw [e1]
  simp only [Option.bind_some]
  rw [d1]
  by_cases h1 : 0 ≤ t.kind ∧ t.kind ≤ 2
  · rw [bif_f (fun hh => hh h1), e2]
    simp only [Option.bind_some]
    rw [d2]
    by_cases h2 : 0 ≤ t.basis ∧ t.basis ≤ 2
    · rw [bif_f (fun hh => hh h2), e3]
      simp only [Option.bind_some]
      rw [d3]
      by_cases h3 : 0 ≤ t.mode ∧ t.mode ≤ 4
      · rw [bif_f (fun hh => hh h3)]
        by_cases h4 : t.every < 1
        · rw [bif_t h4]; congr 1; symm; exact decide_eq_true (by omega)
        · rw [bif_f h4]
          by_cases h5 : t.every = 5
          · rw [bif_t h5]; congr 1; symm; exact decide_eq_true (by omega)
          · rw [bif_f h5, if_neg (by omega)]
            congr 1
            have := tmod12 (e := t.every) (by omega) h5
            rw [← decide_not]
            exact decide_eq_decide.2 (by omega)
      · rw [bif_t h3]; congr 1; symm; exact decide_eq_true (by omega)
    · rw [bif_t h2]; congr 1; symm; exact decide_eq_true (by omega)
  · rw [bif_t h1]; congr 1; symm; exact decide_eq_true (by omega)
theorem every_bound {e c : Int} (he : everyOK e) (hc : 1 ≤ c ∧ c ≤ 1200) : 1 ≤ e * c ∧ e * c ≤ 14400 := by
  rcases he with rfl | rfl | rfl | rfl | rfl | rfl <;> omega
theorem terms_Check (t : Tm) : z76.F t.p t.r t.kind t.basis t.mode t.y t.m t.d t.every t.count = some (mCheck t) := by
  unfold z76.F mCheck
  rw [terms_Money]
  simp only [Option.bind_some]
  by_cases h1 : (mMoney t.p).2 = 0
  · rw [decide_eq_true h1, if_neg (by omega)]
    simp only [Bool.not_true, cond_false]
    rw [whole_Sign]
    simp only [Option.bind_some]
    by_cases h2 : (mMoney t.p).1 = 0
    · rw [bif_t (cmpI_eq0.2 h2), if_pos h2]
    · rw [bif_f (fun h => h2 (cmpI_eq0.1 h)), if_neg h2, terms_Rate]
      simp only [Option.bind_some]
      by_cases h3 : (mRate t.r).2 = 0
      · rw [decide_eq_true h3, if_neg (by omega)]
        simp only [Bool.not_true, cond_false]
        rw [terms_odd]
        simp only [Option.bind_some]
        by_cases h4 : kindsOK t
        · rw [bif_f (fun hh => hh h4), if_neg (fun hh => hh h4)]
          by_cases h5 : t.count < 1
          · rw [bif_t h5, if_pos (.inl h5)]
          · rw [bif_f h5]
            by_cases h6 : t.count > 1200
            · rw [bif_t h6, if_pos (.inr h6)]
            · have hb := every_bound (e := t.every) (c := t.count) h4.2.2.2 (by omega)
              rw [bif_f h6, if_neg (by omega), wr_i64 (by omega) (by omega), month_Add]
              simp only [Option.bind_some]
              by_cases h7 : right t.y t.m t.d ∧ okM t.y t.m (t.every * t.count)
              · rw [if_pos h7, if_pos h7]
              · rw [if_neg h7, if_neg h7]
        · rw [bif_t h4, if_pos h4]
      · rw [decide_eq_false h3, if_pos h3]; rfl
  · rw [decide_eq_false h1, if_pos h1]; rfl
end Go.Proofs.YtgjncgiekniniaaGreatDoor.A
end
section
set_option linter.unusedVariables false
set_option linter.unusedSimpArgs false
namespace Go.Proofs.YtgjncgiekniniaaGreatDoor.A
open Go
theorem txt_numOK (n : Nat) : numOK (txt n) = true := by
  unfold numOK
  rw [decide_eq_false (txt_ne n), digs_iff.2 (txt_digits n)]
  by_cases h : n = 0
  · subst h; rfl
  · obtain ⟨b, s, e, hb⟩ := txt_head h
    rw [e]
    have : ((b :: s).getD 0 0).toNat = b.toNat := rfl
    rw [this, decide_eq_false hb]; simp
theorem cutNeg_digits {s : List UInt8} (h : digits s) : cutNeg s = (s, false) := by
  unfold cutNeg
  cases s with
  | nil => rfl
  | cons b t =>
    have hb := h b (by simp)
    unfold digit at hb
    simp only
    rw [if_neg]
    rintro rfl
    simp at hb
theorem mWhole_txt {n : Nat} (h : (txt n).length ≤ 4096) : mWhole (txt n) = ((n : Int), 0) := by
  have hd : mDigits (txt n) = (n, 0) := by
    unfold mDigits
    rw [if_neg (by omega), if_pos (txt_numOK n), tv_txt, Int.toNat_natCast]
  unfold mWhole
  rw [cutNeg_digits (txt_digits n)]
  simp only [hd]
  rw [if_neg (by simp), if_neg (by simp)]
  rfl
theorem mMoney_txt {n : Nat} (h : n ≤ 10 ^ 30) : mMoney (txt n) = ((n : Int), 0) := by
  unfold mMoney
  have hl : (txt n).length ≤ 31 := txt_len (by omega) (by decide)
  rw [mWhole_txt (by omega)]
  have e : (10 : Int) ^ 30 = ((10 ^ 30 : Nat) : Int) := rfl
  rw [if_neg (by simp), if_neg (by rw [e]; omega)]
def padded (n k : Nat) : List UInt8 := List.replicate (k + 1 - (txt n).length) 48 ++ txt n
theorem padded_len (n k : Nat) : k < (padded n k).length ∧ (padded n k).length ≤ k + 1 + (txt n).length := by unfold padded; rw [List.length_append, List.length_replicate]; omega
theorem padded_digits (n k : Nat) : digits (padded n k) := fun b hb => by
  rcases List.mem_append.1 hb with h | h
  · rw [List.eq_of_mem_replicate h]; unfold digit; decide
  · exact txt_digits n b h
theorem tv_zeros (f : Nat) (s : List UInt8) : tv 0 (List.replicate f 48 ++ s) = tv 0 s := by
  induction f with
  | zero => rfl
  | succ f ih => rw [List.replicate_succ, List.cons_append]; exact ih
theorem padded_tv (n k : Nat) : tv 0 (padded n k) = n := by unfold padded; rw [tv_zeros, tv_txt]
def decTxt (n k : Nat) : List UInt8 := (padded n k).take ((padded n k).length - k) ++ 46 :: (padded n k).drop ((padded n k).length - k)
theorem cutDot_digits : ∀ {a : List UInt8} (b : List UInt8), digits a → cutDot (a ++ 46 :: b) = (a, some b)
  | [], b, _ => rfl
  | x :: a, b, h => by
    have hx := h x (by simp)
    have ih := cutDot_digits (a := a) b fun y hy => h y (by simp [hy])
    show cutDot (x :: (a ++ 46 :: b)) = _
    unfold cutDot
    rw [if_neg (by rintro rfl; unfold digit at hx; simp at hx), ih]
theorem mDec_txt {n k : Nat} (hk : 0 < k ∧ k ≤ 64) (hl : (txt n).length ≤ 1000) : mDec (decTxt n k) = ((n : Int), k, 0) := by
  have pl := padded_len n k
  have pd := padded_digits n k
  have hda : digits ((padded n k).take ((padded n k).length - k)) := fun b hb => pd b (List.mem_of_mem_take hb)
  have hdb : digits ((padded n k).drop ((padded n k).length - k)) := fun b hb => pd b (List.mem_of_mem_drop hb)
  have la : ((padded n k).take ((padded n k).length - k)).length = (padded n k).length - k := by rw [List.length_take]; omega
  have lb' : ((padded n k).drop ((padded n k).length - k)).length = k := by rw [List.length_drop]; omega
  have hcat : (padded n k).take ((padded n k).length - k) ++ (padded n k).drop ((padded n k).length - k) = padded n k := List.take_append_drop _ _
  have hlead : (decide (1 < ((padded n k).take ((padded n k).length - k)).length) && decide ((((padded n k).take ((padded n k).length - k)).getD 0 0).toNat = 48)) = false := by
    by_cases h1 : 1 < ((padded n k).take ((padded n k).length - k)).length
    · rw [la] at h1
      have h2 : k + 1 < (padded n k).length := by omega
      have h0 : k + 1 - (txt n).length = 0 := by
        unfold padded at h2
        rw [List.length_append, List.length_replicate] at h2; omega
      have e : padded n k = txt n := by unfold padded; rw [h0]; rfl
      have hn : n ≠ 0 := by
        rintro rfl
        rw [e] at h2
        have : (txt 0).length = 1 := rfl
        omega
      obtain ⟨b, s, ht, hb⟩ := txt_head hn
      rw [e, ht]
      have : (((b :: s).take ((b :: s).length - k)).getD 0 0).toNat = b.toNat := by
        rw [e, ht] at h2
        have : (b :: s).length - k = ((b :: s).length - k - 1) + 1 := by omega
        rw [this, List.take_succ_cons]; rfl
      rw [this, decide_eq_false hb, Bool.and_false]
    · rw [decide_eq_false h1, Bool.false_and]
  have hlen : (decTxt n k).length = (padded n k).length + 1 := by
    unfold decTxt; rw [List.length_append, List.length_cons, la, lb']; omega
  have hneg : cutNeg (decTxt n k) = (decTxt n k, false) := by
    have hne : (padded n k).take ((padded n k).length - k) ≠ [] := fun h => by rw [h] at la; simp at la; omega
    unfold decTxt
    cases hc : (padded n k).take ((padded n k).length - k) with
    | nil => exact absurd hc hne
    | cons b t =>
      have hb := hda b (by rw [hc]; simp)
      unfold digit at hb
      unfold cutNeg
      simp only [List.cons_append]
      rw [if_neg (by rintro rfl; simp at hb)]
  have hpa : plainB ((padded n k).take ((padded n k).length - k)) = true := by
    unfold plainB; rw [digs_iff.2 hda, decide_eq_false (fun h => by rw [h] at la; simp at la; omega)]; rfl
  have hpb : plainB ((padded n k).drop ((padded n k).length - k)) = true := by
    unfold plainB; rw [digs_iff.2 hdb, decide_eq_false (fun h => by rw [h] at lb'; simp at lb'; omega)]; rfl
  unfold mDec
  rw [if_neg (by omega), hneg]
  have hcut : cutDot (decTxt n k) = ((padded n k).take ((padded n k).length - k), some ((padded n k).drop ((padded n k).length - k))) := cutDot_digits _ hda
  rw [hcut]
  unfold decOf
  simp only [Option.isSome_some, Bool.true_and, Option.getD_some, hpa, hpb, hlead, Bool.not_true, Bool.or_false, Bool.false_and]
  rw [if_neg (by simp), if_neg (by simp), if_neg (by omega), hcat, padded_tv, lb', if_neg (by simp)]
structure Good (t : Tm) (most : Int) : Prop where
  money : ∃ n : Nat, t.p = txt n ∧ 0 < n ∧ n ≤ 10 ^ 30
  rate : ∃ n k : Nat, t.r = decTxt n k ∧ n < 100000 ∧ 2 ≤ k ∧ k ≤ 8
  kinds : kindsOK t
  date : right t.y t.m t.d
  year : t.y ≤ 9000
  count : 1 ≤ t.count ∧ t.count ≤ most
theorem Good.moneyOK {t : Tm} {most : Int} (h : Good t most) : (mMoney t.p).2 = 0 ∧ (mMoney t.p).1 ≠ 0 := by
  obtain ⟨n, e, h1, h2⟩ := h.money
  rw [e, mMoney_txt h2]
  exact ⟨rfl, by show (n : Int) ≠ 0; omega⟩
theorem Good.rateOK {t : Tm} {most : Int} (h : Good t most) : (mRate t.r).2 = 0 := by
  obtain ⟨n, k, e, h1, h2, h3⟩ := h.rate
  have hl : (txt n).length ≤ 5 := txt_len (Nat.lt_of_lt_of_le h1 (by decide)) (by decide)
  have hk : 10 ^ 2 ≤ 10 ^ k := Nat.pow_le_pow_right (by decide) h2
  rw [e]
  unfold mRate
  rw [mDec_txt (by omega) (by omega)]
  rw [if_neg (by simp), if_neg (by simp only; omega)]
theorem Good.check {t : Tm} {most : Int} (h : Good t most) (hm : t.every * t.count ≤ 11000) (hc : most ≤ 1200) : mCheck t = 0 := by
  have g := right_good h.date
  have hb := every_bound h.kinds.2.2.2 (c := t.count) ⟨h.count.1, by have := h.count.2; omega⟩
  have hy := h.year
  have hcc := h.count
  unfold mCheck
  rw [if_neg (fun hh => hh h.moneyOK.1), if_neg h.moneyOK.2, if_neg (fun hh => hh h.rateOK), if_neg (fun hh => hh h.kinds), if_neg (by omega), if_pos ⟨h.date, by omega⟩]
end Go.Proofs.YtgjncgiekniniaaGreatDoor.A
end
section
set_option linter.unusedVariables false
set_option linter.unusedSimpArgs false
namespace Go.Proofs.YtgjncgiekniniaaGreatDoor.A
open Go
abbrev D3 := Int × Int × Int
def pv (x : D3 × D3) : List V := [.int .i64 x.1.1, .int .i64 x.1.2.1, .int .i64 x.1.2.2, .int .i64 x.2.1, .int .i64 x.2.2.1, .int .i64 x.2.2.2]
end Go.Proofs.YtgjncgiekniniaaGreatDoor.A
end
section
set_option linter.unusedVariables false
set_option linter.unusedSimpArgs false
namespace Go.Proofs.YtgjncgiekniniaaGreatDoor.A
open Go
def tNone : Tm := ⟨[], [], 0, 0, 0, 0, 0, 0, 0, 0⟩
theorem tNone_bad : mCheck tNone = 5 := by decide +kernel
end Go.Proofs.YtgjncgiekniniaaGreatDoor.A
end
section
set_option linter.unusedVariables false
set_option linter.unusedSimpArgs false
namespace Go.Proofs.YtgjncgiekniniaaGreatDoor.A
open Go
theorem drop_set_ge {s : List Int} {i : Nat} {x : Int} : (s.set i x).drop (i + 1) = s.drop (i + 1) := by
  apply List.ext_getElem?
  intro j
  rw [List.getElem?_drop, List.getElem?_drop, List.getElem?_set_ne (by omega)]
end Go.Proofs.YtgjncgiekniniaaGreatDoor.A
end
section
set_option linter.unusedVariables false
set_option linter.unusedSimpArgs false
namespace Go.Proofs.YtgjncgiekniniaaGreatDoor.A
open Go
set_option maxRecDepth 100000 in
theorem len_tab : ∃ tab : List UInt8, tab.length = 256 ∧
    (∀ x j, z49.j8 x j = if (0 : Int) ≤ wr .u8 x ∧ wr .u8 x < (tab.length : Int) then some (wr .i64 (j + wr .i64 ((tab.getD (wr .u8 x).toNat 0).toNat : Int))) else none) ∧
    (∀ x j, z49.j10 x j = if (0 : Int) ≤ wr .u8 x ∧ wr .u8 x < (tab.length : Int) then some (wr .i64 (j + wr .i64 ((tab.getD (wr .u8 x).toNat 0).toNat : Int))) else none) ∧
    ∀ x : Fin 256, 0 < x.1 → 1 ≤ (tab.getD x.1 0).toNat ∧ (tab.getD x.1 0).toNat ≤ 8 ∧ 2 ^ ((tab.getD x.1 0).toNat - 1) ≤ x.1 ∧ x.1 < 2 ^ (tab.getD x.1 0).toNat :=
  ⟨_, rfl, fun x j => rfl, fun x j => rfl, by decide⟩
theorem len_at {x : Nat} (h0 : 0 < x) (h : x < 256) {j : Nat} (hj : j ≤ 1000) : ∃ n, n ≤ 7 ∧ 2 ^ n ≤ x ∧ x < 2 ^ (n + 1) ∧ z49.j8 x j = some ((j + n + 1 : Nat) : Int) ∧ z49.j10 x j = some ((j + n + 1 : Nat) : Int) := by
  obtain ⟨tab, hl, h1, h2, ht⟩ := len_tab
  obtain ⟨t1, t2, t3, t4⟩ := ht ⟨x, h⟩ h0
  simp only at t1 t2 t3 t4
  obtain ⟨n, hn⟩ : ∃ n, (tab.getD x 0).toNat = n + 1 := ⟨_, (Nat.sub_add_cancel t1).symm⟩
  rw [hn] at t2 t3 t4
  have hw : wr .u8 (x : Int) = x := wr_u8 (by omega) (by omega)
  refine ⟨n, by omega, by simpa using t3, t4, ?_, ?_⟩
  · rw [h1, hw, if_pos (by omega), Int.toNat_natCast, hn, wr_i64 (n := ((n + 1 : Nat) : Int)) (by omega) (by omega), wr_i64 (by omega) (by omega)]
    congr 1
  · rw [h2, hw, if_pos (by omega), Int.toNat_natCast, hn, wr_i64 (n := ((n + 1 : Nat) : Int)) (by omega) (by omega), wr_i64 (by omega) (by omega)]
    congr 1
theorem fdiv_pow (n k : Nat) : Int.fdiv (n : Int) (2 ^ k) = ((n / 2 ^ k : Nat) : Int) := by
  rw [Int.fdiv_eq_ediv_of_nonneg _ (by exact_mod_cast Nat.zero_le (2 ^ k))]
  push_cast; rfl
theorem pow_shift {x n k : Nat} (h1 : 2 ^ n ≤ x / 2 ^ k) (h2 : x / 2 ^ k < 2 ^ (n + 1)) : 2 ^ (n + k) ≤ x ∧ x < 2 ^ (n + k + 1) := by
  have hp := Nat.pos_of_ne_zero (show 2 ^ k ≠ 0 by exact Nat.ne_of_gt (Nat.two_pow_pos k))
  have := (Nat.le_div_iff_mul_le hp).1 h1
  have := (Nat.div_lt_iff_lt_mul hp).1 h2
  rw [Nat.pow_add, show n + k + 1 = (n + 1) + k by omega, Nat.pow_add]
  omega
set_option maxRecDepth 100000 in
theorem len_j2 {x : Nat} (h0 : 0 < x) (h : x < 4294967296) {j : Nat} (hj : j ≤ 100) : ∃ n, n ≤ 31 ∧ 2 ^ n ≤ x ∧ x < 2 ^ (n + 1) ∧ z49.j2 x j = some ((j + n + 1 : Nat) : Int) := by
  unfold z49.j2
  rw [show min 16 64 = 16 from rfl, show min 8 64 = 8 from rfl, fdiv_pow, fdiv_pow, fdiv_pow]
  by_cases h1 : 65536 ≤ x
  · rw [bif_t (by omega), wr_i64 (n := (j : Int) + 16) (by omega) (by omega), wr_i64 (n := (j : Int) + 16 + 8) (by omega) (by omega)]
    have b1 : 0 < x / 2 ^ 16 ∧ x / 2 ^ 16 < 65536 := by omega
    by_cases h2 : 256 ≤ x / 2 ^ 16
    · rw [bif_t (by omega)]
      obtain ⟨n, n1, n2, n3, n4, _⟩ := len_at (x := x / 2 ^ 16 / 2 ^ 8) (by omega) (by omega) (j := j + 24) (by omega)
      obtain ⟨m2, m3⟩ := pow_shift n2 n3
      obtain ⟨m2, m3⟩ := pow_shift (n := n + 8) m2 m3
      refine ⟨n + 8 + 16, by omega, m2, m3, ?_⟩
      refine (congrArg (z49.j8 _) (show ((j : Int) + 16 + 8) = ((j + 24 : Nat) : Int) by omega)).trans (n4.trans ?_)
      congr 2; omega
    · rw [bif_f (by omega)]
      obtain ⟨n, n1, n2, n3, n4, _⟩ := len_at (x := x / 2 ^ 16) (by omega) (by omega) (j := j + 16) (by omega)
      obtain ⟨m2, m3⟩ := pow_shift n2 n3
      refine ⟨n + 16, by omega, m2, m3, ?_⟩
      refine (congrArg (z49.j8 _) (show ((j : Int) + 16) = ((j + 16 : Nat) : Int) by omega)).trans (n4.trans ?_)
      congr 2; omega
  · rw [bif_f (by omega)]
    by_cases h2 : 256 ≤ x
    · rw [bif_t (by omega), wr_i64 (n := (j : Int) + 8) (by omega) (by omega)]
      obtain ⟨n, n1, n2, n3, _, n4⟩ := len_at (x := x / 2 ^ 8) (by omega) (by omega) (j := j + 8) (by omega)
      obtain ⟨m2, m3⟩ := pow_shift n2 n3
      refine ⟨n + 8, by omega, m2, m3, ?_⟩
      refine (congrArg (z49.j10 _) (show ((j : Int) + 8) = ((j + 8 : Nat) : Int) by omega)).trans (n4.trans ?_)
      congr 2; omega
    · rw [bif_f (by omega)]
      obtain ⟨n, n1, n2, n3, _, n4⟩ := len_at (x := x) (by omega) (by omega) (j := j) (by omega)
      exact ⟨n, by omega, n2, n3, n4⟩
theorem bits_Len64 {x : Nat} (h0 : 0 < x) (h : x < 18446744073709551616) : ∃ n, n ≤ 63 ∧ 2 ^ n ≤ x ∧ x < 2 ^ (n + 1) ∧ z49.F x = some ((n + 1 : Nat) : Int) := by
  unfold z49.F
  rw [show min 32 64 = 32 from rfl, fdiv_pow]
  by_cases h1 : 4294967296 ≤ x
  · rw [bif_t (by omega)]
    obtain ⟨n, n1, n2, n3, n4⟩ := len_j2 (x := x / 2 ^ 32) (by omega) (by omega) (j := 32) (by omega)
    obtain ⟨m2, m3⟩ := pow_shift n2 n3
    refine ⟨n + 32, by omega, m2, m3, ?_⟩
    refine n4.trans ?_
    congr 2; omega
  · rw [bif_f (by omega)]
    obtain ⟨n, n1, n2, n3, n4⟩ := len_j2 (x := x) (by omega) (by omega) (j := 0) (by omega)
    refine ⟨n, by omega, n2, n3, ?_⟩
    refine n4.trans ?_
    congr 2; omega
theorem bits_Lead {x : Nat} (h0 : 0 < x) (h : x < 18446744073709551616) : ∃ s, s ≤ 63 ∧ 9223372036854775808 ≤ x * 2 ^ s ∧ x * 2 ^ s < 18446744073709551616 ∧ z50.F x = some ((s : Nat) : Int) := by
  obtain ⟨n, n1, n2, n3, n4⟩ := bits_Len64 h0 h
  have e1 : 2 ^ n * 2 ^ (63 - n) = 9223372036854775808 := by rw [← Nat.pow_add, show n + (63 - n) = 63 by omega]
  have e2 : 2 ^ (n + 1) * 2 ^ (63 - n) = 18446744073709551616 := by rw [← Nat.pow_add, show n + 1 + (63 - n) = 64 by omega]
  refine ⟨63 - n, by omega, ?_, ?_, ?_⟩
  · rw [← e1]; exact Nat.mul_le_mul_right _ n2
  · rw [← e2]; exact Nat.mul_lt_mul_of_pos_right n3 (Nat.two_pow_pos _)
  · unfold z50.F
    rw [n4]
    simp only [Option.bind_some]
    rw [wr_i64 (by omega) (by omega)]
    congr 1; omega
end Go.Proofs.YtgjncgiekniniaaGreatDoor.A
end
section
set_option linter.unusedVariables false
set_option linter.unusedSimpArgs false
set_option linter.unusedSectionVars false
namespace Go.Proofs.YtgjncgiekniniaaGreatDoor.A
open Go
structure Digit (y1 y0 u u0 : Nat) (q r : Nat) : Prop where
  eq : q * y1 + r = u
  ge : (u * 4294967296 + u0) / (y1 * 4294967296 + y0) ≤ q
  le : q ≤ 4294967297
  lt : r < 4294967296
theorem digit_mulB (B : Nat) {y1 y0 u q r : Nat} (he : q * y1 + r = u) : q * (y1 * B + y0) + r * B = u * B + q * y0 := by
  rw [← he, Nat.add_mul, Nat.mul_add, Nat.mul_assoc]
  omega
theorem digit_ineq {B A A2 u u0 r : Nat} (h : A + r * B = u * B + A2) (hc : r * B + u0 < A2) : u * B + u0 < A := by omega
section
variable {y1 y0 u u0 : Nat} (h1 : 2147483648 ≤ y1) (h1' : y1 < 4294967296) (h0 : y0 < 4294967296) (hu : u < y1 * 4294967296 + y0) (hu0 : u0 < 4294967296)
include h1 h1' h0 hu hu0
theorem digit_first : Digit y1 y0 u u0 (u / y1) (u % y1) := by
  have hy : 0 < y1 := by omega
  refine ⟨by rw [Nat.mul_comm]; exact Nat.div_add_mod u y1, ?_, ?_, ?_⟩
  · rw [Nat.le_div_iff_mul_le hy]
    have hd := Nat.div_mul_le_self (u * 4294967296 + u0) (y1 * 4294967296 + y0)
    generalize (u * 4294967296 + u0) / (y1 * 4294967296 + y0) = Q at *
    rw [Nat.mul_add, ← Nat.mul_assoc] at hd
    generalize Q * y1 = A at *
    generalize Q * y0 = B at *
    omega
  · have : u / y1 < 4294967298 := by
      rw [Nat.div_lt_iff_lt_mul hy]; omega
    omega
  · have := Nat.mod_lt u hy; omega
theorem digit_lt : (u * 4294967296 + u0) / (y1 * 4294967296 + y0) < 4294967296 := by
  rw [Nat.div_lt_iff_lt_mul (by omega)]; omega
theorem digit_on {q r : Nat} (h : Digit y1 y0 u u0 q r) (hc : 4294967296 ≤ q ∨ r * 4294967296 + u0 < q * y0) : (u * 4294967296 + u0) / (y1 * 4294967296 + y0) < q := by
  rcases hc with hc | hc
  · exact Nat.lt_of_lt_of_le (digit_lt h1 h1' h0 hu hu0) hc
  · have := digit_mulB 4294967296 (y0 := y0) h.eq
    have hlt : u * 4294967296 + u0 < q * (y1 * 4294967296 + y0) := digit_ineq this hc
    exact (Nat.div_lt_iff_lt_mul (show 0 < y1 * 4294967296 + y0 by omega)).2 hlt
theorem digit_end {q r : Nat} (he : q * y1 + r = u) (ge : (u * 4294967296 + u0) / (y1 * 4294967296 + y0) ≤ q) (hc : q * y0 ≤ r * 4294967296 + u0) : q = (u * 4294967296 + u0) / (y1 * 4294967296 + y0) := by
  refine Nat.le_antisymm ?_ ge
  rw [Nat.le_div_iff_mul_le (by omega)]
  have := digit_mulB 4294967296 (y0 := y0) he
  omega
theorem digit_next {q r : Nat} (h : Digit y1 y0 u u0 q r) (hc : (u * 4294967296 + u0) / (y1 * 4294967296 + y0) < q) : (q - 1) * y1 + (r + y1) = u ∧ (u * 4294967296 + u0) / (y1 * 4294967296 + y0) ≤ q - 1 := by
  generalize (u * 4294967296 + u0) / (y1 * 4294967296 + y0) = Q at hc ⊢
  obtain ⟨k, rfl⟩ : ∃ k, q = k + 1 := ⟨q - 1, by omega⟩
  have := h.eq
  rw [Nat.add_mul] at this
  simp only [Nat.add_sub_cancel]
  omega
theorem digit_break {q r : Nat} (h : Digit y1 y0 u u0 q r) (hc : (u * 4294967296 + u0) / (y1 * 4294967296 + y0) < q) (hr : 4294967296 ≤ r + y1) : q - 1 = (u * 4294967296 + u0) / (y1 * 4294967296 + y0) := by
  obtain ⟨n1, n2⟩ := digit_next h1 h1' h0 hu hu0 h hc
  refine digit_end h1 h1' h0 hu hu0 n1 n2 ?_
  have hq := h.le
  have : (q - 1) * y0 ≤ 4294967296 * 4294967295 := Nat.mul_le_mul (by omega) (by omega)
  omega
theorem digit_loop {F : (Int × Int → Option (Int × Int)) → Int × Int → Option (Int × Int)} (mk : Int → Int → Int × Int) 
    (hF : ∀ (q r : Nat), q ≤ 4294967297 → r < 4294967296 → ∀ rec, F rec (mk q r) =
      if 4294967296 ≤ q ∨ r * 4294967296 + u0 < q * y0 then (if 4294967296 ≤ r + y1 then some (mk ((q - 1 : Nat) : Int) ((r + y1 : Nat) : Int)) else rec (mk ((q - 1 : Nat) : Int) ((r + y1 : Nat) : Int))) else some (mk q r)) :
    ∃ r : Nat, lfp F (mk ((u / y1 : Nat) : Int) ((u % y1 : Nat) : Int)) = some (mk (((u * 4294967296 + u0) / (y1 * 4294967296 + y0) : Nat) : Int) r) := by
  have key : ∀ (f q r : Nat), q < f → Digit y1 y0 u u0 q r → ∃ r' : Nat, Runs F (mk q r) (mk (((u * 4294967296 + u0) / (y1 * 4294967296 + y0) : Nat) : Int) r') := by
    intro f
    induction f with
    | zero => intro q r h; omega
    | succ f ih =>
      intro q r hq h
      by_cases hc : 4294967296 ≤ q ∨ r * 4294967296 + u0 < q * y0
      · have hlt := digit_on h1 h1' h0 hu hu0 h hc
        by_cases hr : 4294967296 ≤ r + y1
        · refine ⟨r + y1, .done fun rec => ?_⟩
          rw [hF q r h.le h.lt, if_pos hc, if_pos hr, digit_break h1 h1' h0 hu hu0 h hlt hr]
        · obtain ⟨n1, n2⟩ := digit_next h1 h1' h0 hu hu0 h hlt
          have hle := h.le
          have hq1 : 0 < q := Nat.lt_of_le_of_lt (Nat.zero_le _) hlt
          obtain ⟨r', hr'⟩ := ih (q - 1) (r + y1) (by omega) ⟨n1, n2, by omega, by omega⟩
          exact ⟨r', .step (fun rec => by rw [hF q r h.le h.lt, if_pos hc, if_neg hr]) hr'⟩
      · refine ⟨r, .done fun rec => ?_⟩
        rw [hF q r h.le h.lt, if_neg hc, ← digit_end h1 h1' h0 hu hu0 h.eq h.ge (by omega)]
  obtain ⟨r', hr'⟩ := key (u / y1 + 1) _ _ (by omega) (digit_first h1 h1' h0 hu hu0)
  exact ⟨r', hr'.lfp⟩
theorem digit_test {q r : Nat} (hq : q ≤ 4294967297) (hr : r < 4294967296) (h : ¬ 4294967296 ≤ q) : (wr .u64 ((q : Int) * y0) > wr .u64 (wr .u64 ((4294967296 : Int) * r) + u0)) ↔ r * 4294967296 + u0 < q * y0 := by
  have hm : q * y0 ≤ 4294967295 * 4294967295 := Nat.mul_le_mul (by omega) (by omega)
  rw [← Int.natCast_mul q y0, wr_u64 (n := ((q * y0 : Nat) : Int)) (by omega) (by omega), wr_u64 (n := (4294967296 : Int) * r) (by omega) (by omega), wr_u64 (by omega) (by omega)]
  omega
theorem div64_l0 : ∃ r : Nat, z51.l0b8 y1 y0 u0 (((u / y1 : Nat) : Int), ((u % y1 : Nat) : Int)) = some ((((u * 4294967296 + u0) / (y1 * 4294967296 + y0) : Nat) : Int), (r : Int)) := by
  refine digit_loop h1 h1' h0 hu hu0 (fun q r => (q, r)) (F := fun rec x => z51.l0b8P y1 y0 u0 rec some x) fun q r hq hr rec => ?_
  simp only [z51.l0b8P]
  rw [wr_u64 (n := (r : Int) + y1) (by omega) (by omega)]
  by_cases hq2 : 4294967296 ≤ q
  · rw [bif_t (by omega), if_pos (.inl hq2), wr_u64 (n := (q : Int) - 1) (by omega) (by omega)]
    by_cases hr2 : 4294967296 ≤ r + y1
    · rw [bif_t (by omega), if_pos hr2]; congr 2 <;> omega
    · rw [bif_f (by omega), if_neg hr2]; congr 2 <;> omega
  · rw [bif_f (by omega)]
    have ht := digit_test h1 h1' h0 hu hu0 hq hr hq2
    by_cases hc : r * 4294967296 + u0 < q * y0
    · have hq0 : 0 < q := Nat.pos_of_ne_zero fun h => by subst h; omega
      rw [bif_t (ht.2 hc), if_pos (.inr hc), wr_u64 (n := (q : Int) - 1) (by omega) (by omega)]
      by_cases hr2 : 4294967296 ≤ r + y1
      · rw [bif_t (by omega), if_pos hr2]; congr 2 <;> omega
      · rw [bif_f (by omega), if_neg hr2]; congr 2 <;> omega
    · rw [bif_f (fun h => hc (ht.1 h)), if_neg (by omega)]
theorem div64_l2 : ∃ r : Nat, z51.l2b8 y1 y0 u0 (((u % y1 : Nat) : Int), ((u / y1 : Nat) : Int)) = some ((r : Int), (((u * 4294967296 + u0) / (y1 * 4294967296 + y0) : Nat) : Int)) := by
  refine digit_loop h1 h1' h0 hu hu0 (fun q r => (r, q)) (F := fun rec x => z51.l2b8P y1 y0 u0 rec some x) fun q r hq hr rec => ?_
  simp only [z51.l2b8P]
  rw [wr_u64 (n := (r : Int) + y1) (by omega) (by omega)]
  by_cases hq2 : 4294967296 ≤ q
  · rw [bif_t (by omega), if_pos (.inl hq2), wr_u64 (n := (q : Int) - 1) (by omega) (by omega)]
    by_cases hr2 : 4294967296 ≤ r + y1
    · rw [bif_t (by omega), if_pos hr2]; congr 2 <;> omega
    · rw [bif_f (by omega), if_neg hr2]; congr 2 <;> omega
  · rw [bif_f (by omega)]
    have ht := digit_test h1 h1' h0 hu hu0 hq hr hq2
    by_cases hc : r * 4294967296 + u0 < q * y0
    · have hq0 : 0 < q := Nat.pos_of_ne_zero fun h => by subst h; omega
      rw [bif_t (ht.2 hc), if_pos (.inr hc), wr_u64 (n := (q : Int) - 1) (by omega) (by omega)]
      by_cases hr2 : 4294967296 ≤ r + y1
      · rw [bif_t (by omega), if_pos hr2]; congr 2 <;> omega
      · rw [bif_f (by omega), if_neg hr2]; congr 2 <;> omega
    · rw [bif_f (fun h => hc (ht.1 h)), if_neg (by omega)]
end
end Go.Proofs.YtgjncgiekniniaaGreatDoor.A
end
section
set_option linter.unusedVariables false
set_option linter.unusedSimpArgs false
namespace Go.Proofs.YtgjncgiekniniaaGreatDoor.A
open Go
theorem bv_nat {n : Nat} (h : n < 18446744073709551616) : (BitVec.ofInt (IntKind.bits .u64) (n : Int)).toNat = n := by
  show (BitVec.ofInt 64 (n : Int)).toNat = n
  rw [BitVec.toNat_ofInt]
  omega
theorem and_low {n : Nat} (h : n < 18446744073709551616) : wr .u64 ((BitVec.ofInt (IntKind.bits .u64) (n : Int) &&& BitVec.ofInt (IntKind.bits .u64) (4294967295 : Int)).toNat : Int) = ((n % 4294967296 : Nat) : Int) := by
  rw [BitVec.toNat_and, bv_nat h, show (4294967295 : Int) = ((4294967295 : Nat) : Int) from rfl, bv_nat (by omega), show 4294967295 = 2 ^ 32 - 1 from rfl, Nat.and_two_pow_sub_one_eq_mod, wr_u64 (by omega) (by omega)]
theorem or_add {a b s : Nat} (hb : b < 2 ^ s) (h : a * 2 ^ s + b < 18446744073709551616) : wr .u64 ((BitVec.ofInt (IntKind.bits .u64) ((a * 2 ^ s : Nat) : Int) ||| BitVec.ofInt (IntKind.bits .u64) (b : Int)).toNat : Int) = ((a * 2 ^ s + b : Nat) : Int) := by
  rw [BitVec.toNat_or, bv_nat (by omega), bv_nat (by omega), Nat.mul_comm, ← Nat.two_pow_add_eq_or_of_lt hb, wr_u64 (by omega) (by rw [Nat.mul_comm] at h; omega)]
theorem two_digits {B V Y U u1 u0 : Nat} (hV : V = (U * B + u1) * B + u0) (hY : 0 < Y) (h0 : u0 < B) :
    V / Y = (U * B + u1) / Y * B + ((U * B + u1) % Y * B + u0) / Y ∧ V % Y = ((U * B + u1) % Y * B + u0) % Y := by
  have h1 := Nat.div_add_mod (U * B + u1) Y
  generalize hA : U * B + u1 = A at *
  generalize A / Y = q at *
  generalize A % Y = r at *
  have e : V = (r * B + u0) + Y * (q * B) := by
    rw [hV, ← h1, Nat.add_mul, Nat.mul_assoc]; omega
  rw [e, Nat.add_mul_div_left _ _ hY, Nat.add_mul_mod_self_left]
  exact ⟨by omega, rfl⟩
theorem two_digits' {B V Y U u1 u0 : Nat} (hV : V = (U * B + u1) * B + u0) (hY : 0 < Y) (h0 : u0 < B) (hU : U < Y) (h1 : u1 < B) :
    ∃ q1 U2 q0 U3, (U * B + u1) / Y = q1 ∧ (U2 * B + u0) / Y = q0 ∧ Y * q1 + U2 = U * B + u1 ∧ U2 < Y ∧ Y * q0 + U3 = U2 * B + u0 ∧ U3 < Y ∧ q1 < B ∧ q0 < B ∧ V / Y = q1 * B + q0 ∧ V % Y = U3 := by
  obtain ⟨a, b⟩ := two_digits hV hY h0
  have l : ∀ {u v : Nat}, u < Y → v < B → (u * B + v) / Y < B := fun {u v} hu hv => by
    rw [Nat.div_lt_iff_lt_mul hY]
    have := Nat.mul_le_mul_right B (show u + 1 ≤ Y from hu)
    rw [Nat.add_mul, Nat.one_mul] at this
    rw [Nat.mul_comm B Y]; omega
  have hr := Nat.mod_lt (U * B + u1) hY
  exact ⟨_, _, _, _, rfl, rfl, Nat.div_add_mod _ _, hr, Nat.div_add_mod _ _, Nat.mod_lt _ hY, l hU h1, l hr h0, a, b⟩
theorem moved_parts {hi lo s : Nat} (hs : s ≤ 64) : (hi * 18446744073709551616 + lo) * 2 ^ s = (hi * 2 ^ s + lo / 2 ^ (64 - s)) * 18446744073709551616 + lo * 2 ^ s % 18446744073709551616 := by
  have e : 18446744073709551616 = 2 ^ (64 - s) * 2 ^ s := by rw [← Nat.pow_add, show 64 - s + s = 64 by omega]
  have h : lo / 2 ^ (64 - s) = lo * 2 ^ s / 18446744073709551616 := by
    rw [e, Nat.mul_div_mul_right _ _ (Nat.two_pow_pos s)]
  rw [h, Nat.add_mul, Nat.add_mul, Nat.mul_right_comm, Nat.add_assoc]
  have := Nat.div_add_mod (lo * 2 ^ s) 18446744073709551616
  omega
end Go.Proofs.YtgjncgiekniniaaGreatDoor.A
end
section
set_option linter.unusedVariables false
set_option linter.unusedSimpArgs false
namespace Go.Proofs.YtgjncgiekniniaaGreatDoor.A
open Go
theorem bits_Div64 {hi lo y : Nat} (h : hi < y) (hlo : lo < 18446744073709551616) (hy : y < 18446744073709551616) :
    z51.F hi lo y = some ((((hi * 18446744073709551616 + lo) / y : Nat) : Int), (((hi * 18446744073709551616 + lo) % y : Nat) : Int)) := by
  rcases Nat.eq_zero_or_pos hi with h0 | h0
  · subst h0
    have := div64_small (a := (lo : Int)) (b := (y : Int)) (by omega) (by omega)
    rw [show ((0 : Nat) : Int) = 0 from rfl, this, Nat.zero_mul, Nat.zero_add]
    rfl
  obtain ⟨s, hs, s1, s2, hlead⟩ := bits_Lead (x := y) (by omega) hy
  unfold z51.F
  rw [bif_f (by omega), bif_f (by omega), bif_f (by omega), hlead]
  simp only [Option.bind_some]
  
  have hp := Nat.two_pow_pos s
  have hV := moved_parts (hi := hi) (lo := lo) (s := s) (by omega)
  have hlt : (hi * 18446744073709551616 + lo) * 2 ^ s < y * 2 ^ s * 18446744073709551616 := by
    rw [Nat.mul_right_comm]; exact Nat.mul_lt_mul_of_pos_right (by omega) hp
  have hb : lo / 2 ^ (64 - s) < 2 ^ s := by
    rw [Nat.div_lt_iff_lt_mul (Nat.two_pow_pos _), ← Nat.pow_add, show s + (64 - s) = 64 by omega]; exact hlo
  have hqy := Nat.mul_div_mul_right (hi * 18446744073709551616 + lo) y hp
  have hmy := Nat.mul_mod_mul_right (2 ^ s) (hi * 18446744073709551616 + lo) y
  have e1 : wr .u64 (s : Int) = s := wr_u64 (by omega) (by omega)
  have e4 : wr .u64 ((64 : Int) - s) = ((64 - s : Nat) : Int) := by rw [wr_u64 (by omega) (by omega)]; omega
  have e5 : min (64 - s) 64 = 64 - s := by omega
  have e3 : min s 64 = s := by omega
  have eY : wr .u64 ((y : Int) * 2 ^ s) = ((y * 2 ^ s : Nat) : Int) := by
    rw [show (y : Int) * 2 ^ s = ((y * 2 ^ s : Nat) : Int) by push_cast; rfl, wr_u64 (by omega) (by omega)]
  have eL : wr .u64 ((lo : Int) * 2 ^ s) = ((lo * 2 ^ s % 18446744073709551616 : Nat) : Int) := by
    rw [show (lo : Int) * 2 ^ s = ((lo * 2 ^ s : Nat) : Int) by push_cast; rfl, wr_u64_mod]; rfl
  have hUY : hi * 2 ^ s + lo / 2 ^ (64 - s) < y * 2 ^ s := by
    have : (hi * 2 ^ s + lo / 2 ^ (64 - s)) * 18446744073709551616 < y * 2 ^ s * 18446744073709551616 := by omega
    exact Nat.lt_of_mul_lt_mul_right this
  have hHi := Nat.lt_of_le_of_lt (Nat.le_add_right (hi * 2 ^ s) (lo / 2 ^ (64 - s))) (Nat.lt_trans hUY s2)
  have eH : wr .u64 ((hi : Int) * 2 ^ s) = ((hi * 2 ^ s : Nat) : Int) := by
    rw [show (hi : Int) * 2 ^ s = ((hi * 2 ^ s : Nat) : Int) by push_cast; rfl, wr_u64 (by omega) (by omega)]
  have eO := or_add (a := hi) (s := s) hb (by omega)
  simp only [e1, e4, Int.toNat_natCast, e3, e5, eY, eL, eH, fdiv_pow, eO, show min 32 64 = 32 from rfl]
  generalize hU : hi * 2 ^ s + lo / 2 ^ (64 - s) = U at *
  generalize hYe : y * 2 ^ s = Y at *
  generalize hLe : lo * 2 ^ s % 18446744073709551616 = L at *
  have hL : L < 18446744073709551616 := by rw [← hLe]; exact Nat.mod_lt _ (by omega)
  have aY := and_low s2; have aL := and_low hL
  simp only [aY, aL, show (2 : Nat) ^ 32 = 4294967296 from rfl]
  rw [if_pos (by omega), if_pos (by omega), if_pos (by omega), if_pos (by omega)]
  generalize hy1 : Y / 4294967296 = y1 at *
  generalize hy0 : Y % 4294967296 = y0 at *
  generalize hu1 : L / 4294967296 = u1 at *
  generalize hu0 : L % 4294967296 = u0 at *
  have hYd : Y = y1 * 4294967296 + y0 := by omega
  have hLd : L = u1 * 4294967296 + u0 := by omega
  have b1 : 2147483648 ≤ y1 ∧ y1 < 4294967296 := by omega
  have b0 : y0 < 4294967296 := by omega
  have b2 : u1 < 4294967296 := by omega
  have b3 : u0 < 4294967296 := by omega
  rw [if_neg (by omega)]
  have hYp : 0 < Y := by omega
  obtain ⟨q1, U2, q0, U3, dq1, dq0, m1, m2, m3, m4, hq1, hq0, V1, V2⟩ := two_digits' (B := 4294967296) (V := U * 18446744073709551616 + L) (Y := Y) (U := U) (u1 := u1) (u0 := u0) (by omega) hYp b3 hUY b2
  have first : ∀ {u : Nat}, u < 18446744073709551616 → wr .u64 (Int.tdiv (u : Int) (y1 : Int)) = ((u / y1 : Nat) : Int) ∧ wr .u64 ((u : Int) - wr .u64 (wr .u64 (Int.tdiv (u : Int) (y1 : Int)) * (y1 : Int))) = ((u % y1 : Nat) : Int) := fun {u} hu => by
    have h1 := Nat.div_le_self u y1
    have h2 := Nat.div_add_mod u y1
    have h3 : Int.tdiv (u : Int) (y1 : Int) = ((u / y1 : Nat) : Int) := by rw [tdiv_ediv (by omega)]; rfl
    rw [h3]
    generalize u / y1 = q at *
    generalize u % y1 = r at *
    rw [wr_u64 (n := (q : Int)) (by omega) (by omega)]
    refine ⟨rfl, ?_⟩
    rw [Nat.mul_comm] at h2
    rw [show (q : Int) * (y1 : Int) = ((q * y1 : Nat) : Int) from rfl]
    generalize q * y1 = P at *
    rw [wr_u64 (n := (P : Int)) (by omega) (by omega), wr_u64 (by omega) (by omega)]
    omega
  obtain ⟨f1, f2⟩ := first (u := U) (by omega)
  simp only [f2]
  rw [f1]
  obtain ⟨r1, d1⟩ := div64_l0 (y1 := y1) (y0 := y0) (u := U) (u0 := u1) b1.1 b1.2 b0 (by omega) b2
  rw [d1, ← hYd, dq1]
  simp only [Option.bind_some]
  rw [if_neg (by omega)]
  have eU2 : wr .u64 (wr .u64 (wr .u64 ((U : Int) * 4294967296) + (u1 : Int)) - wr .u64 ((q1 : Int) * (Y : Int))) = (U2 : Int) := by
    rw [show (q1 : Int) * (Y : Int) = ((Y * q1 : Nat) : Int) by push_cast; exact Int.mul_comm _ _, wr_u64_mod, wr_u64_mod, wr_u64_mod, wr_u64_mod]
    generalize Y * q1 = P at m1 ⊢
    clear d1 V1 V2 m3 m4 dq1 dq0 hV hlt hqy hmy
    omega
  simp only [eU2]
  obtain ⟨g1, g2⟩ := first (u := U2) (by omega)
  simp only [g2]
  rw [g1]
  obtain ⟨r2, d2⟩ := div64_l2 (y1 := y1) (y0 := y0) (u := U2) (u0 := u0) b1.1 b1.2 b0 (by omega) b3
  rw [d2, ← hYd, dq0]
  simp only [Option.bind_some]
  rw [if_pos (by omega)]
  have eU3 : wr .u64 (wr .u64 (wr .u64 ((U2 : Int) * 4294967296) + (u0 : Int)) - wr .u64 ((q0 : Int) * (Y : Int))) = (U3 : Int) := by
    rw [show (q0 : Int) * (Y : Int) = ((Y * q0 : Nat) : Int) by push_cast; exact Int.mul_comm _ _, wr_u64_mod, wr_u64_mod, wr_u64_mod, wr_u64_mod]
    generalize Y * q0 = P at m3 ⊢
    clear d1 d2 V1 V2 m1 dq1 dq0 hV hlt hqy hmy
    omega
  rw [eU3, fdiv_pow, wr_u64 (n := (q1 : Int) * 4294967296) (by omega) (by omega), wr_u64 (by omega) (by omega)]
  rw [hV, V1] at hqy
  rw [hV, V2] at hmy
  rw [← hqy, hmy, Nat.mul_div_cancel _ hp]
  rfl
end Go.Proofs.YtgjncgiekniniaaGreatDoor.A
end
section
set_option linter.unusedVariables false
set_option linter.unusedSimpArgs false
namespace Go.Proofs.YtgjncgiekniniaaGreatDoor.A
open Go
theorem by_loop {a : List Int} {b N : Nat} (ha : inB LB a) (hb : 0 < b) (hb' : b < 18446744073709551616) (hl : a.length ≤ 800000000) (hN : (N : Int) = valB LB a) :
    ∀ (k : Nat), k ≤ a.length → ∀ (m : Nat) (q : List Int), (m : Int) = valB LB (a.drop k) → q.length = a.length → inB LB q → valB LB (q.drop k) = ((m / b : Nat) : Int) →
      ∃ q', Runs (fun rec x => z52.l0P a b rec some x) (((m % b : Nat) : Int), (k : Int) - 1, q) (((N % b : Nat) : Int), (-1 : Int), q') ∧ q'.length = a.length ∧ inB LB q' ∧ valB LB q' = ((N / b : Nat) : Int)
  | 0, hk, m, q, hm, hq, hi, hv => by
    have : m = N := by rw [List.drop_zero] at hm; omega
    subst this
    refine ⟨q, .done fun rec => ?_, hq, hi, by rwa [List.drop_zero] at hv⟩
    unfold z52.l0P
    simp only
    rw [bif_f (by omega)]; rfl
  | k + 1, hk, m, q, hm, hq, hi, hv => by
    have hka : k < a.length := by omega
    have hkq : k < q.length := by omega
    have hd := getD_in (B := LB) (by decide) ha k
    obtain ⟨d, hd'⟩ : ∃ d : Nat, a.getD k 0 = (d : Int) := ⟨(a.getD k 0).toNat, by omega⟩
    have hd2 : d < 18446744073709551616 := by rw [hd'] at hd; exact_mod_cast hd.2
    obtain ⟨r, hr⟩ : ∃ r, m % b = r := ⟨_, rfl⟩
    have hrb : r < b := hr ▸ Nat.mod_lt m hb
    obtain ⟨x, hx⟩ : ∃ x, r * 18446744073709551616 + d = x := ⟨_, rfl⟩
    have hxb : x < b * 18446744073709551616 := by omega
    obtain ⟨z, hz⟩ : ∃ z, x / b = z := ⟨_, rfl⟩
    obtain ⟨w, hw⟩ : ∃ w, x % b = w := ⟨_, rfl⟩
    obtain ⟨y, hy⟩ : ∃ y, m / b = y := ⟨_, rfl⟩
    have hq1 : z < 18446744073709551616 := hz ▸ Nat.div_lt_of_lt_mul hxb
    have hmm : b * y + r = m := by rw [← hy, ← hr]; exact Nat.div_add_mod m b
    have hm' : ((d + LB * m : Nat) : Int) = valB LB (a.drop k) := by rw [valB_drop, hd', ← hm, Int.natCast_add, Int.natCast_mul]
    have e : d + LB * m = x + b * (LB * y) := by
      have h4 : b * (LB * y) = LB * (b * y) := by rw [← Nat.mul_assoc, Nat.mul_comm b LB, Nat.mul_assoc]
      have h5 : LB * m = LB * (b * y) + LB * r := by rw [← hmm, Nat.mul_add]
      rw [h4, h5, ← hx, Nat.mul_comm r]; show _ = 18446744073709551616 * r + d + LB * (b * y)
      have : LB * r = 18446744073709551616 * r := rfl
      omega
    have hdiv : (d + LB * m) / b = z + LB * y := by rw [e, Nat.add_mul_div_left _ _ hb, hz]
    have hmod : (d + LB * m) % b = w := by rw [e, Nat.add_mul_mod_self_left, hw]
    have hvq : valB LB ((q.set k (z : Int)).drop k) = (((d + LB * m) / b : Nat) : Int) := by
      rw [valB_drop, drop_set_ge, hv, hdiv, hy]
      have : (q.set k (z : Int)).getD k 0 = (z : Int) := by simp [List.getD, hkq]
      rw [this, Int.natCast_add, Int.natCast_mul]
    obtain ⟨q', r1, r2, r3, r4⟩ := by_loop ha hb hb' hl hN k (by omega) (d + LB * m) (q.set k (z : Int)) hm' (by simp [hq]) (inB_set hi (by show (0 : Int) ≤ (z : Int) ∧ (z : Int) < ((18446744073709551616 : Nat) : Int); omega)) hvq
    rw [hmod] at r1
    refine ⟨q', .step (fun rec => ?_) r1, r2, r3, r4⟩
    have ek : ((k + 1 : Nat) : Int) - 1 = (k : Int) := by omega
    unfold z52.l0P
    simp only
    rw [ek, bif_t (by omega), if_pos (by omega), Int.toNat_natCast, hd', hr, bits_Div64 hrb hd2 hb', hx, hz, hw]
    simp only [Option.bind_some]
    rw [if_pos (by omega), if_pos hkq, wr_i64 (by omega) (by omega)]
theorem quot_by {a b : Nat} (hb : 0 < b) (hb' : b < 18446744073709551616) (ha : (lb a).length ≤ 800000000) : ∃ q, z52.F (lb a) (b : Int) = some (q, ((a % b : Nat) : Int)) ∧ q.length = (lb a).length ∧ inB LB q ∧ valB LB q = ((a / b : Nat) : Int) := by
  obtain ⟨q', r1, r2, r3, r4⟩ := by_loop (a := lb a) (b := b) (N := a) (toB_in bL a) hb hb' ha (by rw [valB_toB bL]) (lb a).length (Nat.le_refl _) 0 (List.replicate (lb a).length 0) (by rw [List.drop_length]; rfl) (by simp) (inB_replicate (by decide) _) (by rw [List.drop_eq_nil_of_le (by simp)]; simp [valB])
  rw [Nat.zero_mod] at r1
  have e : z52.l0 (lb a) (b : Int) ((0 : Int), ((lb a).length : Int) - 1, List.replicate (lb a).length 0) = some (((a % b : Nat) : Int), (-1 : Int), q') := r1.lfp
  refine ⟨q', ?_, r2, r3, r4⟩
  unfold z52.F
  rw [if_pos (by omega), Int.toNat_natCast, wr_i64 (by omega) (by omega), e]
  rfl
theorem DivOK_one {a b : Nat} (hb : 0 < b) (hb' : b < 18446744073709551616) (ha : (lb a).length ≤ 800000000) : DivOK a b := by
  rcases Nat.lt_or_ge a b with h | h
  · exact DivOK_lt h (by omega)
  · have hl : (lb b).length ≤ 1 := toB_len_le bL (by simpa using hb')
    obtain ⟨q, q1, q2, q3, q4⟩ := quot_by hb hb' ha
    unfold DivOK z53.F
    rw [nat_Zero]
    simp only [Option.bind_some]
    rw [bif_f (by omega), nat_Cmp (by omega)]
    simp only [Option.bind_some]
    have : ¬ cmpI (a : Int) b < 0 := by unfold cmpI; rw [if_neg (by omega)]; split <;> omega
    rw [bif_f this, nat_Limbs (by show List.length _ ≤ _; omega), nat_Limbs (by show List.length _ ≤ _; omega)]
    simp only [Option.bind_some]
    rw [lb_one hb hb', List.length_singleton, bif_t (by omega), if_pos (by omega), show [(b : Int)].getD 0 0 = b from rfl, q1]
    simp only [Option.bind_some]
    rw [nat_Of_gen q3 (by show List.length _ ≤ _; omega), q4]
    simp only [Option.bind_some]
    have hm := Nat.mod_lt a hb
    rw [nat_Of1 (by omega)]
    rfl
end Go.Proofs.YtgjncgiekniniaaGreatDoor.A
end
section
set_option linter.unusedVariables false
set_option linter.unusedSimpArgs false
namespace Go.Proofs.YtgjncgiekniniaaGreatDoor.A
open Go
inductive Rem (len : Nat) : Nat → Nat → List Int → Prop
  | stop (j : Nat) (h : len ≤ j) : Rem len 0 j []
  | step (n j : Nat) (ds : List Int) (h : 0 < n ∨ j < len) (hr : Rem len (n / 10) (j + 1) ds) : Rem len n j (((n % 10 : Nat) : Int) :: ds)
def asc (d : Int) : Int := 48 + d
theorem drop_set_here {s : List Int} {i : Nat} {x : Int} (h : i < s.length) : (s.set i x).drop i = x :: s.drop (i + 1) := by
  rw [List.drop_eq_getElem_cons (by simpa using h), drop_set_ge]
  simp
theorem small_loop {len : Nat} (hlen : len ≤ 20) {n j : Nat} {ds : List Int} (h : Rem len n j ds) : n < 18446744073709551616 → j + ds.length ≤ 20 → ∀ s : List Int, s.length = 20 →
    ∃ s', Runs (fun rec x => z77.l0b4P (len : Int) rec some x) ((n : Int), ((20 - j : Nat) : Int), s) ((0 : Int), ((20 - j - ds.length : Nat) : Int), s') ∧ s'.length = 20 ∧ s'.drop (20 - j - ds.length) = ds.reverse.map asc ++ s.drop (20 - j) := by
  induction h with
  | stop j h =>
    intro _ hj s hs
    simp only [List.length_nil, Nat.add_zero] at hj
    refine ⟨s, .done fun rec => ?_, hs, by simp⟩
    unfold z77.l0b4P
    simp only [List.length_nil, Nat.sub_zero]
    rw [bif_f (by omega), wr_i64 (by omega) (by omega), bif_f (by omega)]
    rfl
  | step n j ds h hr ih =>
    intro hn hj s hs
    simp only [List.length_cons] at hj
    have hi : 20 - (j + 1) < s.length := by omega
    obtain ⟨s', r1, r2, r3⟩ := ih (by omega) (by omega) (s.set (20 - (j + 1)) (asc ((n % 10 : Nat) : Int))) (by simpa using hs)
    refine ⟨s', ?_, r2, ?_⟩
    · rw [List.length_cons, show 20 - j - (ds.length + 1) = 20 - (j + 1) - ds.length by omega]
      refine .step (fun rec => ?_) r1
      have e1 : wr .i64 (((20 - j : Nat) : Int) - 1) = ((20 - (j + 1) : Nat) : Int) := by rw [wr_i64 (by omega) (by omega)]; omega
      have e2 : wr .u64 (Int.tdiv (n : Int) 10) = ((n / 10 : Nat) : Int) := by rw [tdiv_ediv (by omega), wr_u64 (by omega) (by omega)]; rfl
      have e3 : wr .u8 (wr .u64 (48 + Int.tmod (n : Int) 10)) = asc ((n % 10 : Nat) : Int) := by
        rw [tmod_emod (by omega), wr_u64 (by omega) (by omega), wr_u8 (by omega) (by omega)]; rfl
      unfold z77.l0b4P
      simp only [e1, e2, e3]
      rcases Nat.eq_zero_or_pos n with h0 | h0
      · have hjl : j < len := h.resolve_left (by omega)
        rw [bif_f (by omega), wr_i64 (by omega) (by omega), bif_t (by omega), if_pos (by omega), Int.toNat_natCast, if_pos hi]
      · rw [bif_t (by omega), if_pos (by omega), Int.toNat_natCast, if_pos hi]
    · rw [List.length_cons, show 20 - j - (ds.length + 1) = 20 - (j + 1) - ds.length by omega, r3, drop_set_here hi, show 20 - (j + 1) + 1 = 20 - j by omega]
      simp
theorem asc_ch {ds : List Int} (h : inB 10 ds) : (ds.map asc).map (fun n => UInt8.ofNat n.toNat) = ds.map ch := by
  rw [List.map_map]
  refine List.map_congr_left fun d hd => ?_
  have := h d hd
  show UInt8.ofNat (48 + d).toNat = UInt8.ofNat (48 + d.toNat)
  rw [show (48 + d).toNat = 48 + d.toNat by omega]
theorem Rem.inB {len n j : Nat} {ds : List Int} (h : Rem len n j ds) : inB 10 ds := by
  induction h with
  | stop => exact inB_nil _
  | step n j ds h hr ih => exact inB_cons.2 ⟨by omega, ih⟩
theorem inB_rev {B : Nat} {l : List Int} (h : inB B l) : inB B l.reverse := fun x hx => h x (by simpa using hx)
theorem digits_small_ok {len n : Nat} {ds : List Int} (hlen : len ≤ 20) (hn : n < 18446744073709551616) (h : Rem len n 0 ds) (hd : ds.length ≤ 20) : z77.F (n : Int) (len : Int) = some (ds.reverse.map ch) := by
  obtain ⟨s', r1, r2, r3⟩ := small_loop hlen h hn (by omega) (List.replicate 20 0) (by simp)
  have e : z77.l0b4 (len : Int) ((n : Int), (20 : Int), List.replicate 20 (0 : Int)) = some ((0 : Int), ((20 - 0 - ds.length : Nat) : Int), s') := r1.lfp
  unfold z77.F
  rw [e]
  simp only [Option.bind_some]
  have hl : (s'.drop (20 - 0 - ds.length)).length = ds.length := by rw [List.length_drop]; omega
  rw [if_pos r2, if_pos (by omega), Int.toNat_natCast, List.take_of_length_le (by rw [hl]; omega), r3]
  simp only [Nat.sub_zero, List.drop_replicate, Nat.sub_self, List.replicate_zero, List.append_nil]
  rw [asc_ch (inB_rev h.inB)]
def lsd : Nat → Nat → List Int
  | 0, _ => []
  | k + 1, n => ((n % 10 : Nat) : Int) :: lsd k (n / 10)
theorem lsd_len : ∀ (k n : Nat), (lsd k n).length = k
  | 0, _ => rfl
  | k + 1, n => by simp [lsd, lsd_len k]
theorem rem_lsd {len : Nat} : ∀ (k n j : Nat), j + k = len → n < 10 ^ k → Rem len n j (lsd k n)
  | 0, n, j, hj, hn => by
    have : n = 0 := by simpa using hn
    subst this; exact .stop j (by omega)
  | k + 1, n, j, hj, hn => .step n j _ (.inr (by omega)) (rem_lsd k (n / 10) (j + 1) (by omega) (by rw [Nat.pow_succ] at hn; omega))
theorem rem_toB {len : Nat} (n : Nat) : ∀ j, (len ≤ j ∨ 0 < n ∧ len ≤ j + 1) → Rem len n j (toB 10 n) := by
  induction n using Nat.strongRecOn with
  | _ n ih =>
    intro j hj
    rcases Nat.eq_zero_or_pos n with h0 | h0
    · subst h0; rw [toB_zero]; exact .stop j (by omega)
    · rw [toB_pos b10 h0]
      exact .step n j _ (.inl h0) (ih _ (Nat.div_lt_self h0 (by decide)) (j + 1) (.inl (by omega)))
theorem toB_groups : ∀ (k low q : Nat), 0 < q → low < 10 ^ k → toB 10 (low + 10 ^ k * q) = lsd k low ++ toB 10 q
  | 0, low, q, hq, hl => by
    have : low = 0 := by simpa using hl
    subst this; simp [lsd]
  | k + 1, low, q, hq, hl => by
    have hp : 0 < 10 ^ k := Nat.pow_pos (by decide)
    have hpq : 0 < 10 ^ k * q := Nat.mul_pos hp hq
    have e : low + 10 ^ (k + 1) * q = low + 10 * (10 ^ k * q) := by rw [Nat.pow_succ, Nat.mul_comm (10 ^ k), Nat.mul_assoc]
    rw [e, toB_pos b10 (by omega), lsd]
    rw [Nat.add_mul_mod_self_left, Nat.add_mul_div_left _ _ (by decide), toB_groups k (low / 10) q hq (by rw [Nat.pow_succ] at hl; omega)]
    rfl
end Go.Proofs.YtgjncgiekniniaaGreatDoor.A
end
section
set_option linter.unusedVariables false
set_option linter.unusedSimpArgs false
namespace Go.Proofs.YtgjncgiekniniaaGreatDoor.A
open Go
inductive Groups : Nat → List (List UInt8) → Prop
  | zero : Groups 0 []
  | last (n : Nat) (h0 : 0 < n) (h : n < 10 ^ 18) : Groups n [(toB 10 n).reverse.map ch]
  | more (low q : Nat) (gs : List (List UInt8)) (hl : low < 10 ^ 18) (h0 : 0 < q) (hg : Groups q gs) : Groups (low + 10 ^ 18 * q) (((lsd 18 low).reverse.map ch) :: gs)
theorem Groups.text {n : Nat} {gs : List (List UInt8)} (h : Groups n gs) : gs.reverse.flatten = (toB 10 n).reverse.map ch := by
  induction h with
  | zero => rw [toB_zero]; rfl
  | last n h0 h => simp
  | more low q gs hl h0 hg ih =>
    rw [List.reverse_cons, List.flatten_append, ih, toB_groups 18 low q h0 hl, List.reverse_append, List.map_append]
    simp
theorem Groups.pos {n : Nat} {gs : List (List UInt8)} (h : Groups n gs) : ∀ g ∈ gs, 1 ≤ g.length := by
  induction h with
  | zero => intro g hg; simp at hg
  | last n h0 h =>
    intro g hg
    simp only [List.mem_singleton] at hg; subst hg
    rw [toB_pos b10 h0]; simp
  | more low q gs hl h0 hg ih =>
    intro g hg
    rcases List.mem_cons.1 hg with rfl | hg
    · simp [lsd_len]
    · exact ih g hg
theorem flat_pos : ∀ {gs : List (List UInt8)}, (∀ g ∈ gs, 1 ≤ g.length) → gs.length ≤ gs.flatten.length
  | [], _ => by simp
  | g :: gs, h => by
    have := h g (by simp)
    have := flat_pos fun g' h' => h g' (List.mem_cons_of_mem _ h')
    simp only [List.length_cons, List.flatten_cons, List.length_append]; omega
theorem Groups.len {n : Nat} {gs : List (List UInt8)} (h : Groups n gs) : gs.length ≤ sz n ∧ gs.flatten.length = sz n := by
  have ht := congrArg List.length h.text
  have e : gs.reverse.flatten.length = gs.flatten.length := by
    simp only [List.length_flatten, List.map_reverse, List.sum_reverse]
  rw [e] at ht
  have ht : gs.flatten.length = sz n := by rw [ht]; unfold sz; simp
  exact ⟨by rw [← ht]; exact flat_pos h.pos, ht⟩
theorem print_low (l : List Int) (hl : l.length ≤ 1) : z78.l2 l (((l.length : Nat) : Int)) ((0 : Int), (0 : Int)) = some (l.getD 0 0, (l.length : Int)) := by
  match l, hl with
  | [], _ =>
    refine (Runs.done fun rec => ?_ : Runs (fun rec x => z78.l2P [] _ rec some x) _ _).lfp
    unfold z78.l2P
    simp only [List.length_nil]
    rw [bif_f (by omega)]; rfl
  | [x], _ =>
    refine (Runs.step (y := (x, (1 : Int))) (fun rec => ?_) (Runs.done fun rec => ?_) : Runs (fun rec x' => z78.l2P [x] _ rec some x') _ _).lfp
    · unfold z78.l2P
      simp only [List.length_singleton]
      rw [bif_t (by omega), if_pos (by omega), wr_i64 (by omega) (by omega)]; rfl
    · unfold z78.l2P
      simp only [List.length_singleton]
      rw [bif_f (by omega)]; rfl
theorem lb_getD {n : Nat} (h : n < 18446744073709551616) : (lb n).getD 0 0 = (n : Int) ∧ (lb n).length ≤ 1 := by
  rcases Nat.eq_zero_or_pos n with rfl | h0
  · rw [lb_zero]; simp
  · rw [lb_one h0 h]; simp
theorem print_j {low : Nat} {len : Nat} {ds : List Int} (hlen : len ≤ 20) (hl : low < 18446744073709551616) (hr : Rem len low 0 ds) (hd : ds.length ≤ 20) {gs : List (List UInt8)} (hg : gs.length ≤ 800000000) {rec done : (List Int × List (List UInt8)) → Option (List Int × List (List UInt8))} {y : Int} {r : List Int × List Int × Int} :
    z78.j1010a rec done ((low : Int), y) (len : Int) gs r = rec (r.1, gs ++ [ds.reverse.map ch]) := by
  unfold z78.j1010a
  rw [digits_small_ok hlen hl hr hd]
  simp only [Option.bind_some, List.length_singleton]
  rw [if_pos (by omega)]
theorem print_groups : ∀ (n : Nat), sz n ≤ 100000000 → ∀ gs : List (List UInt8), gs.length + sz n ≤ 700000000 → ∃ l, Groups n l ∧ Runs (fun rec x => z78.l0P rec some x) (lb n, gs) ([], gs ++ l) := by
  intro n
  induction n using Nat.strongRecOn with
  | _ n ih =>
    intro hs gs hg
    obtain ⟨U, hU⟩ : ∃ U, U = 1000000000000000000 := ⟨_, rfl⟩
    have hU10 : 10 ^ 18 = U := by rw [hU]
    rcases Nat.eq_zero_or_pos n with h0 | h0
    · subst h0
      refine ⟨[], .zero, .done fun rec => ?_⟩
      unfold z78.l0P
      simp only [nat_Zero, Option.bind_some]
      rw [lb_zero, List.append_nil]; rfl
    · have hUp : 0 < U := by omega
      have hdm := Nat.div_add_mod n U
      have hml := Nat.mod_lt n hUp
      have hdl : n / U ≤ n := Nat.div_le_self _ _
      have hD : DivOK n U := DivOK_one hUp (by omega) (by have := lb_sz n; omega)
      have hqlt : n / U < n := Nat.div_lt_self h0 (by omega)
      obtain ⟨q, hq⟩ : ∃ q, n / U = q := ⟨_, rfl⟩
      obtain ⟨low, hlow⟩ : ∃ low, n % U = low := ⟨_, rfl⟩
      unfold DivOK at hD
      rw [hq] at hdm hdl hD hqlt; rw [hlow] at hdm hml hD
      have hsq : sz q ≤ sz n := sz_mono hdl
      obtain ⟨g1, g2⟩ := lb_getD (n := low) (by omega)
      have hof : z26.F [(1000000000000000000 : Int)] = some (lb U) := by rw [nat_Of1 (by omega), hU]; rfl
      have hl2 := print_low (lb low) g2
      rw [g1] at hl2
      have body : ∀ {rec done : (List Int × List (List UInt8)) → Option (List Int × List (List UInt8))}, z78.l0P rec done (lb n, gs) =
          (bif decide (q = 0) then z78.j1010a rec done ((low : Int), ((lb low).length : Int)) 1 gs (lb q, lb low, 0) else z78.j1010a rec done ((low : Int), ((lb low).length : Int)) 18 gs (lb q, lb low, 0)) := fun {rec done} => by
        unfold z78.l0P
        simp only [nat_Zero, Option.bind_some]
        rw [decide_eq_false (by omega), Bool.not_false, cond_true, hof]
        simp only [Option.bind_some]
        rw [hD]
        simp only [Option.bind_some]
        rw [nat_Limbs (by show List.length _ ≤ _; omega)]
        simp only [Option.bind_some]
        rw [hl2]
        simp only [Option.bind_some, nat_Zero]
      rcases Nat.eq_zero_or_pos q with hq0 | hq0
      · subst hq0
        have hn : n = low := by omega
        subst hn
        have hsz : sz n ≤ 18 := sz_le (by rw [hU10]; exact hml)
        refine ⟨[(toB 10 n).reverse.map ch], .last n h0 (by rw [hU10]; exact hml), .step (y := ([], gs ++ [(toB 10 n).reverse.map ch])) (fun rec => ?_) (.done fun rec => ?_)⟩
        · rw [body, bif_t rfl]
          refine (print_j (len := 1) (by omega) (by omega) (rem_toB n 0 (.inr ⟨h0, by omega⟩)) (by show sz n ≤ 20; omega) (by omega)).trans ?_
          rw [lb_zero]
        · unfold z78.l0P
          rw [← lb_zero]
          simp only [nat_Zero, Option.bind_some]
          rw [lb_zero]; rfl
      · obtain ⟨l, l1, l2⟩ := ih q hqlt (by omega) (gs ++ [(lsd 18 low).reverse.map ch]) (by
          have h1 : sz q < sz n := by
            have := congrArg List.length (toB_groups 18 low q hq0 (by rw [hU10]; exact hml))
            rw [List.length_append, lsd_len, hU10, show low + U * q = n by omega] at this
            unfold sz; omega
          simp only [List.length_append, List.length_singleton]; omega)
        have hgn : Groups n (((lsd 18 low).reverse.map ch) :: l) := by
          have := Groups.more low q l (by rw [hU10]; exact hml) hq0 l1
          rwa [hU10, show low + U * q = n by omega] at this
        refine ⟨_, hgn, .step (y := (lb q, gs ++ [(lsd 18 low).reverse.map ch])) (fun rec => ?_) (by rw [show gs ++ ((lsd 18 low).reverse.map ch) :: l = (gs ++ [(lsd 18 low).reverse.map ch]) ++ l by simp]; exact l2)⟩
        rw [body, bif_f (by omega)]
        exact print_j (len := 18) (by omega) (by omega) (rem_lsd 18 low 0 (by omega) (by rw [hU10]; exact hml)) (by rw [lsd_len]; omega) (by omega)
def byts (s : List UInt8) : List Int := s.map fun c => (c.toNat : Int)
theorem byts_append (a b : List UInt8) : byts (a ++ b) = byts a ++ byts b := by simp [byts]
theorem byts_byte (s : List UInt8) : (byts s).all isByte = true := by
  rw [List.all_eq_true]
  intro x hx
  obtain ⟨c, _, rfl⟩ := List.mem_map.1 hx
  have := c.toNat_lt
  simp [isByte]; omega
theorem byts_back (s : List UInt8) : (byts s).map (fun n => UInt8.ofNat n.toNat) = s := by
  unfold byts
  rw [List.map_map]
  conv => rhs; rw [← List.map_id s]
  exact List.map_congr_left fun c _ => by simp
theorem byts_len (s : List UInt8) : (byts s).length = s.length := by simp [byts]
theorem print_build {gs : List (List UInt8)} (hg : gs.length ≤ 800000000) (hs : gs.flatten.length ≤ 100000000) : ∀ (k : Nat), k ≤ gs.length → ∀ acc : List UInt8, acc.length + (gs.take k).flatten.length ≤ 100000000 →
    ∃ i, Runs (fun rec x => z78.l4P gs rec some x) ((k : Int) - 1, byts acc) (i, byts (acc ++ (gs.take k).reverse.flatten))
  | 0, hk, acc, ha => ⟨-1, by
    refine .done fun rec => ?_
    unfold z78.l4P
    simp only
    rw [bif_f (by omega)]; simp⟩
  | k + 1, hk, acc, ha => by
    have hk' : k < gs.length := by omega
    have hget : gs.getD k [] = gs[k] := by simp [List.getD, hk']
    have htk : gs.take (k + 1) = gs.take k ++ [gs[k]] := by rw [List.take_add_one, List.getElem?_eq_getElem hk']; rfl
    have hfl : (gs.take (k + 1)).flatten.length = (gs.take k).flatten.length + gs[k].length := by rw [htk, List.flatten_append, List.length_append, List.flatten_singleton]
    obtain ⟨i, hi⟩ := print_build hg hs k (by omega) (acc ++ gs[k]) (by rw [List.length_append]; omega)
    refine ⟨i, .step (fun rec => ?_) (by rw [htk, List.reverse_append, List.reverse_singleton, List.flatten_append, List.flatten_singleton, ← List.append_assoc]; exact hi)⟩
    unfold z78.l4P
    simp only
    rw [show ((k + 1 : Nat) : Int) - 1 = (k : Int) by omega, bif_t (by omega), if_pos (by omega), Int.toNat_natCast, if_pos hk', hget]
    change (if ((byts acc).length + (byts gs[k]).length) * 1 ≤ 140737488355328 then _ else none) = _
    rw [byts_len, byts_len, if_pos (by omega), wr_i64 (by omega) (by omega), byts_append]
    rfl
theorem digits_Print {n : Nat} (hs : sz n ≤ 100000000) : z78.F (lb n) = some (txt n) := by
  unfold z78.F
  rw [nat_Zero]
  simp only [Option.bind_some]
  rcases Nat.eq_zero_or_pos n with h0 | h0
  · subst h0; rfl
  rw [bif_f (by omega)]
  obtain ⟨gs, g1, g2⟩ := print_groups n hs [] (by simp only [List.length_nil]; omega)
  have e0 : z78.l0 (lb n, []) = some ([], gs) := g2.lfp
  obtain ⟨l1, l2⟩ := g1.len
  have ht := g1.text
  have hn : 0 < gs.length := by
    cases gs with
    | nil => exfalso; cases g1; omega
    | cons => simp
  rw [e0]
  simp only [Option.bind_some]
  obtain ⟨k, hk⟩ : ∃ k, gs.length = k + 1 := ⟨gs.length - 1, by omega⟩
  have hk' : k < gs.length := by omega
  have hget : gs.getD k [] = gs[k] := by simp [List.getD, hk']
  have htk : gs = gs.take k ++ [gs[k]] := by
    have := List.take_add_one (l := gs) (i := k)
    rw [List.getElem?_eq_getElem hk', List.take_of_length_le (by omega)] at this; exact this
  have hfl : gs.flatten.length = (gs.take k).flatten.length + gs[k].length := by
    conv => lhs; rw [htk]
    rw [List.flatten_append, List.length_append, List.flatten_singleton]
  rw [hk, wr_i64 (n := ((k + 1 : Nat) : Int) - 1) (by omega) (by omega), show ((k + 1 : Nat) : Int) - 1 = (k : Int) by omega, bif_t (by omega), if_pos (by omega), Int.toNat_natCast, if_pos (by omega), hget]
  change (if (0 + (byts gs[k]).length) * 1 ≤ 140737488355328 then ((z78.l4 gs (wr .i64 ((k : Int) - 1), [] ++ byts gs[k])).bind _) else none) = _
  rw [byts_len, if_pos (by omega), wr_i64 (by omega) (by omega), List.nil_append]
  obtain ⟨i, hi⟩ := print_build (gs := gs) (by omega) (by omega) k (by omega) gs[k] (by omega)
  have e4 : z78.l4 gs ((k : Int) - 1, byts gs[k]) = some (i, byts (gs[k] ++ (gs.take k).reverse.flatten)) := hi.lfp
  have hall : gs[k] ++ (gs.take k).reverse.flatten = gs.reverse.flatten := by
    conv => rhs; rw [htk]
    rw [List.reverse_append, List.reverse_singleton, List.flatten_append, List.flatten_singleton]
  rw [e4, hall]
  simp only [Option.bind_some]
  have hlen : gs.reverse.flatten.length = sz n := by rw [ht]; unfold sz; simp
  have hszp : 0 < sz n := by omega
  rw [byts_len, if_pos (by omega), if_pos ⟨trivial, by omega, byts_byte _⟩, byts_back, ht]
  unfold txt
  rw [if_neg (by omega)]
end Go.Proofs.YtgjncgiekniniaaGreatDoor.A
end
section
set_option linter.unusedVariables false
set_option linter.unusedSimpArgs false
namespace Go.Proofs.YtgjncgiekniniaaGreatDoor.A
open Go
def itxt (z : Int) : List UInt8 := if z < 0 then 45 :: txt z.natAbs else txt z.natAbs
def qtxt (q : Rat) : List UInt8 := if q.den = 1 then itxt q.num else itxt q.num ++ [47] ++ txt q.den
theorem txt_sz (n : Nat) : (txt n).length ≤ sz n + 1 := by
  unfold txt; split
  · simp
  · unfold sz; simp
theorem itxt_sz (z : Int) : (itxt z).length ≤ sz z.natAbs + 2 := by
  have := txt_sz z.natAbs
  unfold itxt; split
  · simp only [List.length_cons]; omega
  · omega
theorem whole_Print {z : Int} (hs : sz z.natAbs ≤ 100000000) : z79.F (lb z.natAbs) (neg z) = some (itxt z) := by
  have := txt_sz z.natAbs
  unfold z79.F itxt
  by_cases h : z < 0
  · rw [bif_t h, digits_Print hs, if_pos h]
    simp only [Option.bind_some]
    rw [if_pos (by simp only [List.length_singleton]; omega)]; rfl
  · rw [bif_f h, digits_Print hs, if_neg h]; rfl
theorem frac_Print {q : Rat} (hn : sz q.num.natAbs ≤ 100000000) (hd : sz q.den ≤ 100000000) : z80.F (fr q).1 (fr q).2.1 (fr q).2.2 = some (qtxt q) := by
  have h1 := itxt_sz q.num
  have h2 := txt_sz q.den
  show z80.F (lb q.num.natAbs) (neg q.num) (lb (q.den - 1)) = _
  have hp := q.den_pos
  unfold z80.F qtxt
  rw [nat_Zero, whole_Print hn]
  simp only [Option.bind_some]
  by_cases h : q.den = 1
  · rw [bif_t (by omega), if_pos h]
  · rw [bif_f (by omega), if_neg h, if_pos (by simp only [List.length_singleton]; omega), frac_Den q _ _ (by omega)]
    simp only [Option.bind_some]
    rw [digits_Print hd]
    simp only [Option.bind_some]
    rw [if_pos (by simp only [List.length_append, List.length_singleton]; omega)]
theorem mRate_sz (s : List UInt8) : sz (mRate s).1.num.natAbs ≤ 100 ∧ sz (mRate s).1.den ≤ 100 := by
  obtain ⟨hb1, hb2⟩ := mDec_bound s
  have h0 : sz (Rat.num 0).natAbs ≤ 100 ∧ sz (Rat.den 0) ≤ 100 := by
    show sz 0 ≤ 100 ∧ sz 1 ≤ 100
    exact ⟨by rw [sz_zero]; omega, Nat.le_trans (sz_le (k := 1) (by decide)) (by omega)⟩
  unfold mRate
  generalize mDec s = d at *
  obtain ⟨c, sc, e⟩ := d
  simp only at *
  by_cases h : e ≠ 0
  · rw [if_pos h]; exact h0
  rw [if_neg h]
  by_cases h2 : c < 0 ∨ 1000 * ((10 ^ sc : Nat) : Int) < c ∨ 12 < sc
  · rw [if_pos h2]; exact h0
  rw [if_neg h2]
  have hp12 : 10 ^ sc ≤ 10 ^ 12 := Nat.pow_le_pow_right (by decide) (by omega)
  have hp0 : 0 < 10 ^ sc := Nat.pow_pos (by decide)
  have n1 := mkRat_num_le c hp0
  have n2 := mkRat_den_le c hp0
  have hd0 := (mkRat c (10 ^ sc)).den_pos
  generalize mkRat c (10 ^ sc) = q at *
  have e1 : q / 100 = mkRat q.num (q.den * 100) := by
    rw [rat_div, show (100 : Rat).den = 1 from rfl, show (100 : Rat).num = 100 from rfl, ← Rat.divInt_ofNat]
    simp
  have m1 := mkRat_num_le q.num (show 0 < q.den * 100 by omega)
  have m2 := mkRat_den_le q.num (show 0 < q.den * 100 by omega)
  rw [e1]
  show sz (mkRat q.num (q.den * 100)).num.natAbs ≤ 100 ∧ sz (mkRat q.num (q.den * 100)).den ≤ 100
  exact ⟨Nat.le_trans (sz_le (k := 20) (by omega)) (by omega), Nat.le_trans (sz_le (k := 20) (by omega)) (by omega)⟩
def w0 : List UInt8 := [97, 110, 110, 117, 105, 116, 121]
def w1 : List UInt8 := [108, 105, 110, 101, 97, 114]
def w2 : List UInt8 := [98, 117, 108, 108, 101, 116]
def wIdx (s : List UInt8) : Int := if s = w0 then 0 else if s = w1 then 1 else if s = w2 then 2 else -1
theorem index_words (s : List UInt8) : z81.F [w0, w1, w2] s = some (wIdx s) := by
  have step : ∀ (i : Nat) (w : List UInt8), ([w0, w1, w2] : List (List UInt8))[i]? = some w → ∀ rec : Int → Option (Int ⊕ Int), z81.l0P [w0, w1, w2] s 3 rec some (i : Int) = if s = w then some (.inr (i : Int)) else rec ((i + 1 : Nat) : Int) := fun i w hw rec => by
    have hi : i < 3 := by
      rcases Nat.lt_or_ge i 3 with h | h
      · exact h
      · rw [List.getElem?_eq_none (by simpa using h)] at hw; simp at hw
    unfold z81.l0P
    rw [bif_t (by omega), if_pos (by simp; omega), Int.toNat_natCast, List.getD_eq_getElem?_getD, hw]
    simp only [Option.getD_some]
    rw [wr_i64 (by omega) (by omega)]
    by_cases h : s = w
    · rw [bif_t h, if_pos h]
    · rw [bif_f h, if_neg h]; rfl
  have hend : ∀ rec : Int → Option (Int ⊕ Int), z81.l0P [w0, w1, w2] s 3 rec some 3 = some (.inl 3) := fun rec => by
    unfold z81.l0P
    rw [bif_f (by omega)]
  have key : ∃ o, z81.l0 [w0, w1, w2] s 3 0 = some o ∧ (match o with | .inl _ => (-1 : Int) | .inr q => q) = wIdx s := by
    unfold wIdx
    by_cases h0 : s = w0
    · exact ⟨.inr 0, (Runs.done fun rec => by have := step 0 w0 rfl rec; rw [if_pos h0] at this; exact this : Runs (fun rec x => z81.l0P [w0, w1, w2] s 3 rec some x) 0 _).lfp, by rw [if_pos h0]⟩
    · by_cases h1 : s = w1
      · exact ⟨.inr 1, (Runs.step (y := 1) (fun rec => by have := step 0 w0 rfl rec; rw [if_neg h0] at this; exact this) (Runs.done fun rec => by have := step 1 w1 rfl rec; rw [if_pos h1] at this; exact this) : Runs (fun rec x => z81.l0P [w0, w1, w2] s 3 rec some x) 0 _).lfp, by rw [if_neg h0, if_pos h1]⟩
      · by_cases h2 : s = w2
        · exact ⟨.inr 2, (Runs.step (y := 1) (fun rec => by have := step 0 w0 rfl rec; rw [if_neg h0] at this; exact this) (Runs.step (y := 2) (fun rec => by have := step 1 w1 rfl rec; rw [if_neg h1] at this; exact this) (Runs.done fun rec => by have := step 2 w2 rfl rec; rw [if_pos h2] at this; exact this)) : Runs (fun rec x => z81.l0P [w0, w1, w2] s 3 rec some x) 0 _).lfp, by rw [if_neg h0, if_neg h1, if_pos h2]⟩
        · exact ⟨.inl 3, (Runs.step (y := 1) (fun rec => by have := step 0 w0 rfl rec; rw [if_neg h0] at this; exact this) (Runs.step (y := 2) (fun rec => by have := step 1 w1 rfl rec; rw [if_neg h1] at this; exact this) (Runs.step (y := 3) (fun rec => by have := step 2 w2 rfl rec; rw [if_neg h2] at this; exact this) (Runs.done hend))) : Runs (fun rec x => z81.l0P [w0, w1, w2] s 3 rec some x) 0 _).lfp, by rw [if_neg h0, if_neg h1, if_neg h2]⟩
  obtain ⟨o, h1, h2⟩ := key
  unfold z81.F
  show ((z81.l0 [w0, w1, w2] s 3 0).bind _) = _
  rw [h1]
  simp only [Option.bind_some]
  rw [← h2]
  cases o <;> rfl
theorem terms_Of (s : List UInt8) : z82.F s = some ((if (0 : Int) > wIdx s then (0 : Int) else wIdx s), decide (wIdx s ≥ 0)) := by
  unfold z82.F
  show ((z81.F [w0, w1, w2] s).bind _) = _
  rw [index_words]
  rfl
def t12 : Tm := ⟨[49, 48, 48], [53], 0, 0, 0, 2024, 1, 1, 1, 12⟩
theorem t12_ok : mCheck t12 = 0 := by decide +kernel
theorem rate425 : mRate [52, 46, 50, 53] = (mkRat 17 400, 0) := by decide +kernel
theorem rate1000 : (mRate [49, 48, 48, 48, 46, 49]).2 = 18 := by decide +kernel
theorem money1 : (mMoney [45, 49]).2 = 19 := by decide +kernel
theorem txt_two {n : Nat} (h0 : 10 ≤ n) (h : n < 100) : txt n = [ch ((n / 10 : Nat) : Int), ch ((n % 10 : Nat) : Int)] := by
  unfold txt
  rw [if_neg (by omega), toB_pos b10 (by omega), toB_pos b10 (by omega), Nat.div_eq_of_lt (by omega : n / 10 < 10), toB_zero, Nat.mod_eq_of_lt (by omega : n / 10 < 10)]; rfl
theorem txt_three {n : Nat} (h0 : 100 ≤ n) (h : n < 1000) : txt n = [ch ((n / 10 / 10 : Nat) : Int), ch ((n / 10 % 10 : Nat) : Int), ch ((n % 10 : Nat) : Int)] := by
  unfold txt
  rw [if_neg (by omega), toB_pos b10 (by omega), toB_pos b10 (by omega), toB_pos b10 (by omega), Nat.div_eq_of_lt (by omega : n / 10 / 10 < 10), toB_zero, Nat.mod_eq_of_lt (by omega : n / 10 / 10 < 10)]; rfl
theorem q425 : qtxt (mkRat 17 400) = [49, 55, 47, 52, 48, 48] := by
  have e1 : (mkRat 17 400).num = 17 := by decide +kernel
  have e2 : (mkRat 17 400).den = 400 := by decide +kernel
  unfold qtxt itxt
  rw [e1, e2, if_neg (by decide), if_neg (by decide), show Int.natAbs 17 = 17 from rfl, txt_two (by decide) (by decide), txt_three (by decide) (by decide)]
  rfl
theorem law14_wakes : z83.F = some true := by
  have r1 := terms_Rate [52, 46, 50, 53]
  have r2 := terms_Rate [49, 48, 48, 48, 46, 49]
  have r3 := terms_Money [45, 49]
  have r4 := terms_Of w1
  have r6 := terms_Check t12
  have r7 := terms_Check tNone
  rw [t12_ok] at r6
  rw [tNone_bad] at r7
  rw [rate425] at r1
  rw [rate1000] at r2
  rw [money1] at r3
  have hz := mRate_sz [52, 46, 50, 53]
  rw [rate425] at hz
  have r5 := frac_Print (q := mkRat 17 400) (Nat.le_trans hz.1 (by decide)) (Nat.le_trans hz.2 (by decide))
  rw [q425] at r5
  unfold t12 at r6
  unfold tNone at r7
  simp only at r6 r7
  unfold z83.F
  rw [r1]
  simp only [Option.bind_some]
  rw [r2]
  simp only [Option.bind_some]
  rw [r3]
  simp only [Option.bind_some]
  rw [show ([108, 105, 110, 101, 97, 114] : List UInt8) = w1 from rfl, r4]
  simp only [Option.bind_some]
  rw [r5]
  simp only [Option.bind_some, decide_true, cond_true]
  rw [r6]
  simp only [Option.bind_some, decide_true, cond_true]
  rw [r7]
  rfl
end Go.Proofs.YtgjncgiekniniaaGreatDoor.A
end
section
set_option linter.unusedVariables false
set_option linter.unusedSimpArgs false
namespace Go.Proofs.YtgjncgiekniniaaGreatDoor.A
open Go
theorem word_at (n : Int) : z63.F n = some (if n = 0 then w0 else if n = 1 then w1 else if n = 2 then w2 else []) := by
  unfold z63.F
  by_cases h : n < 0
  · rw [bif_t h, if_neg (by omega), if_neg (by omega), if_neg (by omega)]
  · rw [bif_f h]
    by_cases h' : n ≥ 3
    · rw [bif_t h', if_neg (by omega), if_neg (by omega), if_neg (by omega)]
    · rw [bif_f h']
      have : n = 0 ∨ n = 1 ∨ n = 2 := by omega
      rcases this with rfl | rfl | rfl <;> rfl
theorem words_law {a0 : List UInt8} {a1 : Int} : z84.F a0 a1 = some true := by
  have step : ∀ (i : Nat) (w : List UInt8) (at' : Int), ([w0, w1, w2] : List (List UInt8))[i]? = some w → wIdx w = i → (if (i : Int) = 0 then w0 else if (i : Int) = 1 then w1 else if (i : Int) = 2 then w2 else []) = w →
      ∀ rec : Int × Int → Option ((Int × Int) ⊕ Bool), z84.l0b6P a0 [w0, w1, w2] 3 rec some (at', (i : Int)) = rec (if w = a0 then (i : Int) else at', ((i + 1 : Nat) : Int)) := fun i w at' hw hx hww rec => by
    have hi : i < 3 := by
      rcases Nat.lt_or_ge i 3 with h | h
      · exact h
      · rw [List.getElem?_eq_none (by simpa using h)] at hw; simp at hw
    have hg : ([w0, w1, w2] : List (List UInt8)).getD i [] = w := by rw [List.getD_eq_getElem?_getD, hw]; rfl
    unfold z84.l0b6P
    simp only
    rw [bif_t (by omega), if_pos (by simp; omega), Int.toNat_natCast, hg, terms_Of, hx]
    simp only [Option.bind_some]
    rw [if_neg (by omega), decide_eq_true rfl, decide_eq_true (show (i : Int) ≥ 0 by omega)]
    simp only [Bool.not_true, cond_false]
    rw [word_at, hww]
    simp only [Option.bind_some, decide_true, Bool.not_true, cond_false]
    rw [wr_i64 (by omega) (by omega)]
    by_cases h : w = a0
    · rw [bif_t h, if_pos h]; rfl
    · rw [bif_f h, if_neg h]; rfl
  have hend : ∀ (at' : Int) (rec : Int × Int → Option ((Int × Int) ⊕ Bool)), z84.l0b6P a0 [w0, w1, w2] 3 rec some (at', 3) = some (.inl (at', 3)) := fun at' rec => by
    unfold z84.l0b6P
    simp only
    rw [bif_f (by omega)]
  have hall : z84.l0b6 a0 [w0, w1, w2] 3 (-1, 0) = some (.inl (wIdx a0, 3)) := by
    have e : (if w2 = a0 then (2 : Int) else if w1 = a0 then (1 : Int) else if w0 = a0 then (0 : Int) else -1) = wIdx a0 := by
      unfold wIdx
      by_cases h0 : a0 = w0
      · subst h0; decide
      · by_cases h1 : a0 = w1
        · subst h1; decide
        · by_cases h2 : a0 = w2
          · subst h2; decide
          · rw [if_neg (Ne.symm h2), if_neg (Ne.symm h1), if_neg (Ne.symm h0), if_neg h0, if_neg h1, if_neg h2]
    rw [← e]
    exact (Runs.step (y := (_, 1)) (step 0 w0 (-1) rfl (by decide) rfl) (Runs.step (y := (_, 2)) (step 1 w1 _ rfl (by decide) rfl) (Runs.step (y := (_, 3)) (step 2 w2 _ rfl (by decide) rfl) (Runs.done (hend _)))) : Runs (fun rec x => z84.l0b6P a0 [w0, w1, w2] 3 rec some x) (-1, 0) _).lfp
  unfold z84.F
  show ((z84.l0b6 a0 [w0, w1, w2] 3 (-1, 0)).bind _) = _
  rw [hall]
  simp only [Option.bind_some]
  rw [terms_Of]
  simp only [Option.bind_some]
  rw [law14_wakes]
  simp only [Option.bind_some, cond_true, decide_true]
  by_cases h1 : a1 ≥ 0
  · rw [bif_t h1]
    by_cases h2 : a1 < 3
    · rw [bif_t h2]
    · rw [bif_f h2, word_at, if_neg (by omega), if_neg (by omega), if_neg (by omega)]; rfl
  · rw [bif_f h1, word_at, if_neg (by omega), if_neg (by omega), if_neg (by omega)]; rfl
end Go.Proofs.YtgjncgiekniniaaGreatDoor.A
end
section
set_option linter.unusedVariables false
namespace Go.Proofs.YtgjncgiekniniaaGreatDoor.A
open Go
namespace TermsWords
theorem law (a0 : List UInt8) (a1 : Int) (h0 : a0.length ≤ maxLen) (h1 : (Lit.int .i64 a1).wf = true) : z84.F a0 a1 = some true :=
  words_law
end TermsWords
end Go.Proofs.YtgjncgiekniniaaGreatDoor.A
end
section
set_option linter.unusedVariables false
set_option linter.unusedSimpArgs false
set_option maxRecDepth 100000
namespace Go.Proofs.YtgjncgiekniniaaGreatDoor.A
open Go Go.RowKit Go.ChangeShapes Go.WideShapes Go.ChangeAt
noncomputable section
namespace TermsWords
theorem wide : atsOf Tryz.prog 8 Tryz.f7.params.toList = some [(.one (.sc .s)), (.one (.sc (.i .i64)))] := by kernel_rfl
theorem readable : Tryz.f7.params.toList.all (fun t => Tryz.prog.readableRec t && decide (t < Tryz.prog.types.size)) = true := by kernel_rfl
noncomputable def args0 : Array Value := #[.string ⟨#[]⟩, .int .i64 0]
theorem laid_met (os : Os) : laidMet Tryz.prog Rows.termsWordsRow.laid ((laidWorld os).forCall (fun _ _ => 0) ⟨#[], args0, []⟩).memory :=
  laidMet_of_run' 12 (by kernel_rfl) (by kernel_rfl)
theorem reads (os : Os) {H : Type} (enc : TypeId × Value → H) : ∃ ds places, DataW.whole enc Tryz.prog ((laidWorld os).forCall (fun _ _ => 0) ⟨#[], args0, []⟩).memory Tryz.f7.params.toList Rows.termsWordsSpec.vars false args0.toList 12 = some (ds, [], places) :=
  ⟨[.lit (.string []), .lit (.int .i64 0)], [], by kernel_rfl⟩
theorem plainly (vs : List V) (h : okAL [(.one (.sc .s)), (.one (.sc (.i .i64)))] vs) : ∃ p r, SoundC Tryz.prog 7 vs p ∧ p.m = some r ∧ p.enc r = .bool true := by
  obtain ⟨_, _, rfl, ⟨a0, rfl, h0⟩, _, _, rfl, ⟨a1, rfl, h1⟩, rfl⟩ := h
  exact ⟨⟨Bool, z84.F a0 a1, z84.enc⟩, true, z84.sound _ _ (by kernel_rfl), law a0 a1 h0 h1, rfl⟩
theorem specFn {H : Type} (ds : List (DataW H)) (h : ds.length = Tryz.f7.params.toList.length) : Rows.termsWordsSpec.fn H ds = { results := [.lit (.bool true)], args := ds } := by
  have h : ds.length = 2 := h.trans (by kernel_rfl)
  match ds, h with
  | [d0, d1], _ => rfl
theorem clos : Tryz.prog.closure 7 = [7, 46, 137, 136, 47, 40, 38, 118, 160, 223, 260, 198, 248, 275, 283, 290, 284, 285, 286, 291, 199, 200, 250, 249, 251, 253, 276, 252, 255, 279, 289, 277, 287, 278, 288, 292, 293, 254, 201, 161, 158, 222, 185, 164, 227, 268, 183, 99, 184, 91, 104, 69, 119, 202, 120, 28, 121, 203, 204, 195, 247, 156, 74, 90, 110, 24, 100, 186, 146, 212, 245, 273, 187, 122, 123, 176, 92, 163, 226, 162, 188, 224, 261, 262, 280, 225, 263, 264, 265, 266, 267, 281, 68, 124, 157, 130, 36, 76, 114, 41, 25, 101, 189, 190, 246, 274, 191, 44, 133, 209, 228, 257, 149, 214, 215, 134, 142, 210, 258, 259] := by kernel_rfl
theorem inPlace : (Rows.termsWordsRow.inPlace == Tryz.prog.inPlace 7) = true := by unfold Program.inPlace; rw [clos]; kernel_rfl
theorem unfollowed : (Rows.termsWordsRow.unfollowed == Tryz.prog.unfollowed 7) = true := by unfold Program.unfollowed; rw [clos]; kernel_rfl
theorem recurses : (Rows.termsWordsRow.recurses == Tryz.prog.recurses 7) = true := by unfold Program.recurses Program.unfollowed; rw [clos]; kernel_rfl
theorem named : (Rows.termsWordsRow.named == Tryz.prog.varsNamed 7) = true := by unfold Program.varsNamed; rw [clos]; kernel_rfl
theorem number : Tryz.prog.funcNamed "chattel/chattellaw14.TermsWords" = some 7 := by kernel_rfl
theorem goes : false = Rows.termsWordsRow.goesBy Tryz.prog := by
  have h : Tryz.prog.goes 7 = false := by unfold Program.goes Program.unfollowed; rw [clos]; kernel_rfl
  have e : Rows.termsWordsRow.goesBy Tryz.prog = ((Tryz.prog.funcNamed "chattel/chattellaw14.TermsWords").any Tryz.prog.goes || false) := by kernel_rfl
  rw [e, number]
  simp [h]
theorem j_wf : Rows.termsWordsRow.wf (OpenSpec.ofChange (OpenSpec.ofChange Rows.termsWordsSpec).bare) = true := by kernel_rfl
theorem j_params : (Tryz.f7.params.all (Tryz.pinned.checked.prog.readableRec ·)) = true := by kernel_rfl
theorem j_vars : namedTie Tryz.pinned.checked.prog Rows.termsWordsRow.named (OpenSpec.ofChange Rows.termsWordsSpec).bare.vars = true := by kernel_rfl
theorem j_stops : (Rows.termsWordsRow.stops == []) = true := by kernel_rfl
theorem j_knobs : (Rows.termsWordsRow.knobs == []) = true := by kernel_rfl
theorem j_maps : (Rows.termsWordsRow.maps == (Tryz.f7.params.toList ++ DataSpec.varTypes Tryz.pinned.checked.prog (OpenSpec.ofChange Rows.termsWordsSpec).bare.plain).any (Tryz.pinned.checked.prog.mapsRec ·)) = true := by kernel_rfl
theorem j_ifaces : (Rows.termsWordsRow.ifaces == (Tryz.f7.params.toList ++ DataSpec.varTypes Tryz.pinned.checked.prog (OpenSpec.ofChange Rows.termsWordsSpec).bare.plain).any (Tryz.pinned.checked.prog.ifacesRec ·)) = true := by kernel_rfl
theorem j_mapsOut : (Rows.termsWordsRow.mapsOut == Tryz.pinned.checked.prog.mapsAmong Tryz.f7.resultTypes.toList) = true := by kernel_rfl
theorem j_loops : (Rows.termsWordsRow.loops == (Tryz.f7.params.toList ++ DataSpec.varTypes Tryz.pinned.checked.prog (OpenSpec.ofChange Rows.termsWordsSpec).bare.plain).any (Tryz.pinned.checked.prog.loopsFrom ·)) = true := by kernel_rfl
theorem j_wideKeys : (Rows.termsWordsRow.wideKeys == (Tryz.f7.params.toList ++ DataSpec.varTypes Tryz.pinned.checked.prog (OpenSpec.ofChange Rows.termsWordsSpec).bare.plain ++ Tryz.f7.resultTypes.toList).any (Tryz.pinned.checked.prog.wideKeysFrom ·)) = true := by kernel_rfl
theorem j_varsRead : (OpenSpec.ofChange Rows.termsWordsSpec).bare.vars.all (Tryz.pinned.checked.prog.varReadable ·) = true := by kernel_rfl
theorem j_results : (Tryz.f7.resultTypes.all fun t => Tryz.pinned.checked.prog.readableRec t && decide (t < Tryz.pinned.checked.prog.types.size)) = true := by kernel_rfl
theorem j_ifacesOut : (Rows.termsWordsRow.ifacesOut == Tryz.f7.resultTypes.toList.any (Tryz.pinned.checked.prog.ifacesRec ·)) = true := by kernel_rfl
theorem j_loopsOut : (Rows.termsWordsRow.loopsOut == Tryz.f7.resultTypes.toList.any (Tryz.pinned.checked.prog.loopsFrom ·)) = true := by kernel_rfl
theorem j_plainKeys : (Rows.termsWordsRow.plainKeys == Tryz.pinned.checked.prog.plainKeys) = true := by kernel_rfl
theorem j_short : Rows.termsWordsRow.shortTexts.isNone = true := by kernel_rfl
theorem j_lift : (Rows.termsWordsRow.lifted == Tryz.pinned.checked.prog.liftsFinal) = true := by kernel_rfl
theorem j_make : (Tryz.pinned.checked.prog.make == some Rows.termsWordsRow.make) = true := by kernel_rfl
theorem j_kinds : (Rows.termsWordsRow.kinds == (if Rows.termsWordsRow.domain.isEmpty then [] else Tryz.f7.params.toList.map fun t => match Tryz.pinned.checked.prog.underlying t with | some (.int k) => some k | _ => none)) = true := by kernel_rfl
theorem j_pinned : (Rows.termsWordsRow.pinned == Rows.termsWordsRow.pinnedBy) = true := by kernel_rfl
theorem j_veiled : (Rows.termsWordsRow.veiled == (Tryz.f7.params.toList ++ DataSpec.varTypes Tryz.pinned.checked.prog (OpenSpec.ofChange Rows.termsWordsSpec).bare.plain ++ Tryz.f7.resultTypes.toList).any (Tryz.pinned.checked.prog.veiledRec ·)) = true := by kernel_rfl
theorem j_veiledFits : Rows.termsWordsRow.veiledFits Tryz.pinned.checked.prog Tryz.f7.params.toList (Tryz.f7.params.toList ++ DataSpec.varTypes Tryz.pinned.checked.prog (OpenSpec.ofChange Rows.termsWordsSpec).bare.plain ++ Tryz.f7.resultTypes.toList) = true := by kernel_rfl
theorem joined : joinedFacts Tryz.pinned.checked.prog 7 Tryz.f7 (OpenSpec.ofChange Rows.termsWordsSpec).bare Rows.termsWordsRow = true := by
  unfold joinedFacts
  simp only [Bool.and_eq_true]
  and_intros
  · exact j_wf
  · exact laidOut
  · exact rowed
  · exact j_params
  · exact j_vars
  · exact j_stops
  · exact noStops
  · exact j_knobs
  · exact noKnobs
  · exact inPlace
  · exact unfollowed
  · exact recurses
  · exact named
  · exact j_maps
  · exact j_ifaces
  · exact j_mapsOut
  · exact j_loops
  · exact j_wideKeys
  · exact j_varsRead
  · exact j_results
  · exact j_ifacesOut
  · exact j_loopsOut
  · exact j_plainKeys
  · exact j_short
  · exact heard
  · exact enterable
  · exact j_lift
  · exact j_make
  · exact j_kinds
  · exact j_pinned
  · exact j_veiled
  · exact j_veiledFits
theorem lifted (os : Os) (started : os.Started) (H : Type) (enc : TypeId × Value → H) (F : Stop.Interp) :
    ReturnsInHanded {} Tryz.checked os 7 .any ((OpenSpec.ofChange Rows.termsWordsSpec).preRow enc Tryz.prog Tryz.f7 Rows.termsWordsRow.domain false Rows.termsWordsRow.laid) (((OpenSpec.ofChange Rows.termsWordsSpec).at F).post enc Tryz.prog Tryz.f7 false true false false) := by
  obtain ⟨ds0, places, hx⟩ := reads os enc
  refine returnsInHanded_of_row (C := Tryz.checked) (s := OpenSpec.ofChange Rows.termsWordsSpec) own started (by kernel_rfl) Tryz.func7
    (witness_row_at (enc := enc) (C := Tryz.checked) false (laidWorld os) args0 rfl (by kernel_rfl) (by kernel_rfl) (by kernel_rfl)
      (OpenSpec.preRow_of_cond 12 hx (by kernel_rfl) (fun k hk => by cases hk) (by kernel_rfl) (laid_met os))) ?_
  intro W base args ds gs before hval hW _ _ _ hL _ _
  exact law_contract fun7 laidOut readable wide (tb := 4) (by kernel_rfl) (by kernel_rfl) rfl specFn plainly W base args ds gs before hval hW
theorem wrapped : Tryz.f7.isWrapper Tryz.pinned.checked.prog Rows.termsWordsRow.wrapper Rows.termsWordsRow.mainSum := by
  unfold Func.isWrapper; first | (rw [if_pos (by decide +kernel)]; kernel_rfl) | (rw [if_neg (by decide +kernel)]; exact ⟨rfl, rfl⟩)
theorem origin : Tryz.f7.isInstance Tryz.pinned.checked.prog Rows.termsWordsRow.origin Rows.termsWordsRow.targs := of_decide_eq_true (by kernel_rfl)
theorem said : Rows.TermsWordsSaid :=
  OpenClaim.holds_of_cond 7 Tryz.f7 rfl rfl rfl rfl rfl rfl rfl ⟨rfl, rfl, rfl, rfl, rfl⟩ rfl rfl rfl rfl rfl number Tryz.func7 joined origin wrapped
    (fun os started H enc _ F => by rw [OpenClaim.pre_eq_preRow]; exact lifted os started H enc F)
theorem plainRow (f : FuncId) (fn : Func) (hf : Tryz.pinned.checked.prog.funcNamed "chattel/chattellaw14.TermsWords" = some f) (hfn : Tryz.pinned.checked.prog.funcs[f]? = some fn) :
    false = Tryz.pinned.checked.prog.looks [] ∧ ∀ (j : Nat) t, fn.params[j]? = some t → Tryz.pinned.checked.prog.wantsStandIn t = false := by
  obtain rfl : f = 7 := Option.some.inj (number.symm.trans hf) |>.symm
  obtain rfl : fn = Tryz.f7 := (Option.some.inj (Tryz.func7.symm.trans hfn)).symm
  refine ⟨looksOff, fun j t ht => ?_⟩
  have hall : Tryz.f7.params.toList.all (fun t => !Tryz.prog.wantsStandIn t) = true := by kernel_rfl
  have := List.all_eq_true.1 hall t (by simpa using Array.mem_of_getElem? ht)
  exact Bool.not_eq_true' _ |>.mp this
theorem card : Rows.TermsWordsCardSaid :=
  Claim7.holds_tied_plain_at .later [] _ _ _ _ said (fun _ h => by cases h) (by kernel_rfl) (fun _ h => by cases h) termsWords_row_tie rfl ⟨rfl, rfl⟩ main rfl plainRow goes
end TermsWords
end
end Go.Proofs.YtgjncgiekniniaaGreatDoor.A
end
