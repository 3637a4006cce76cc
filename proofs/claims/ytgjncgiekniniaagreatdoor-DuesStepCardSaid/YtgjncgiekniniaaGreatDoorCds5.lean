/- The law DuesStep holds of the program at every input that its guards let in: its card, from the program's text. Condition: none beyond the statement's own. -/
import Derived.Test.YtgjncgiekniniaaGreatDoorCds4
import Derived.Test.YtgjncgiekniniaaGreatDoorCards
import Derived.Test.YtgjncgiekniniaaGreatDoorTie
import Derived.KernelRfl
import Derived.JoinedCond
import Derived.Deep.DeepHandedRow
import Derived.Lib.LaidTab
section
namespace Go.Proofs.YtgjncgiekniniaaGreatDoor.A
open Go
theorem own : ownKnob Tryz.prog.godebug = none := by kernel_rfl
theorem laidOut : laidOutB Tryz.prog = true := by kernel_rfl
theorem rowed : mapsRowed Tryz.prog = true := by kernel_rfl
theorem noStops : (Tryz.prog.stops == []) = true := by kernel_rfl
theorem noKnobs : (Tryz.prog.stopKnobs == []) = true := by kernel_rfl
theorem heard : Tryz.prog.stopsHeard = true := by kernel_rfl
theorem enterable : Tryz.prog.mayEnter = true := by kernel_rfl
theorem looksOff : false = Tryz.prog.looks [] := by kernel_rfl
theorem main : Tryz.pinned.checked.prog.mainIs = some (true, ("d4ffbc68b08c28ac251f33799dbb1d7e972ab3df77886f5ed4ce34a153cf9881" : String).toList) := by kernel_rfl
noncomputable def relay (l : List Int) : Obj → Obj
  | .cells _ t fz => .cells (l.map fun n => Value.int .u8 n).toArray t fz
  | o => o
noncomputable def accept : List Int := [128, 191, 160, 191, 128, 159, 144, 191, 128, 143, 0, 0, 0, 0, 0, 0, 0, 0, 0, 0, 0, 0, 0, 0, 0, 0, 0, 0, 0, 0, 0, 0]
noncomputable def laidWorld (os : Os) : World :=
  let w := World.holding Tryz.prog os ⟨#[], #[], []⟩
  { w with heap := (w.heap.modify 3 (relay (Go.Pinned.utf8FirstZ.map Int.ofNat))).modify 4 (relay accept) }
end Go.Proofs.YtgjncgiekniniaaGreatDoor.A
end
section
set_option linter.unusedVariables false
namespace Go.Proofs.YtgjncgiekniniaaGreatDoor.A
open Go
def Runs {σ R : Type} (F : (σ → Option R) → σ → Option R) (x : σ) (r : R) : Prop :=
  (∃ n, iterF F n x = some r) ∧ ∀ n, iterF F n x = none ∨ iterF F n x = some r
theorem Runs.done {σ R : Type} {F : (σ → Option R) → σ → Option R} {x : σ} {r : R} (h : ∀ rec, F rec x = some r) : Runs F x r := by
  refine ⟨⟨1, h _⟩, fun n => ?_⟩
  cases n with
  | zero => exact .inl rfl
  | succ n => exact .inr (h _)
theorem Runs.step {σ R : Type} {F : (σ → Option R) → σ → Option R} {x y : σ} {r : R} (h : ∀ rec, F rec x = rec y) (hy : Runs F y r) : Runs F x r := by
  obtain ⟨⟨m, hm⟩, ha⟩ := hy
  refine ⟨⟨m + 1, by rw [← hm]; exact h _⟩, fun n => ?_⟩
  cases n with
  | zero => exact .inl rfl
  | succ n => have := ha n; rw [← h (iterF F n)] at this; exact this
theorem Runs.lfp {σ R : Type} {F : (σ → Option R) → σ → Option R} {x : σ} {r : R} (h : Runs F x r) : A.lfp F x = some r := by
  obtain ⟨⟨m, hm⟩, ha⟩ := h
  unfold A.lfp
  have hex : ∃ n, (iterF F n x).isSome := ⟨m, by rw [hm]; rfl⟩
  rw [dif_pos hex]
  rcases ha (Classical.choose hex) with h0 | h0
  · have := Classical.choose_spec hex
    rw [h0] at this; simp at this
  · exact h0
theorem wr_i64 {n : Int} (h1 : -9223372036854775808 ≤ n) (h2 : n < 9223372036854775808) : wr .i64 n = n := by
  simp only [wr, IntKind.wrap, IntKind.signed, IntKind.bits]
  simp; omega
theorem wr_u64 {n : Int} (h1 : 0 ≤ n) (h2 : n < 18446744073709551616) : wr .u64 n = n := by
  simp only [wr, IntKind.wrap, IntKind.signed, IntKind.bits]
  simp; omega
theorem wr_u64_mod (n : Int) : wr .u64 n = n % 18446744073709551616 := by
  simp [wr, IntKind.wrap, IntKind.signed, IntKind.bits]
theorem wr_u8 {n : Int} (h1 : 0 ≤ n) (h2 : n < 256) : wr .u8 n = n := by
  simp only [wr, IntKind.wrap, IntKind.signed, IntKind.bits]
  simp; omega
theorem wf_u64 {n : Int} (h : (Lit.int .u64 n).wf = true) : 0 ≤ n ∧ n < 18446744073709551616 := by
  simp [Lit.wf, IntKind.min, IntKind.max, IntKind.signed, IntKind.bits] at h; omega
theorem wf_u32 {n : Int} (h : (Lit.int .u32 n).wf = true) : 0 ≤ n ∧ n < 4294967296 := by
  simp [Lit.wf, IntKind.min, IntKind.max, IntKind.signed, IntKind.bits] at h; omega
theorem wf_u16 {n : Int} (h : (Lit.int .u16 n).wf = true) : 0 ≤ n ∧ n < 65536 := by
  simp [Lit.wf, IntKind.min, IntKind.max, IntKind.signed, IntKind.bits] at h; omega
theorem wf_u8 {n : Int} (h : (Lit.int .u8 n).wf = true) : 0 ≤ n ∧ n < 256 := by
  simp [Lit.wf, IntKind.min, IntKind.max, IntKind.signed, IntKind.bits] at h; omega
theorem tdiv_ediv {a b : Int} (h : 0 ≤ a) : Int.tdiv a b = a / b := Int.tdiv_eq_ediv_of_nonneg h
theorem tmod_emod {a b : Int} (h : 0 ≤ a) : Int.tmod a b = a % b := Int.tmod_eq_emod_of_nonneg h
end Go.Proofs.YtgjncgiekniniaaGreatDoor.A
end
section
set_option linter.unusedVariables false
set_option linter.unusedSimpArgs false
namespace Go.Proofs.YtgjncgiekniniaaGreatDoor.A
open Go
def toB (B n : Nat) : List Int := if h : 2 ≤ B ∧ 0 < n then ((n % B : Nat) : Int) :: toB B (n / B) else []
termination_by n
decreasing_by exact Nat.div_lt_self h.2 h.1
def valB (B : Nat) : List Int → Int
  | [] => 0
  | x :: l => x + B * valB B l
theorem toB_zero (B : Nat) : toB B 0 = [] := by unfold toB; rw [dif_neg]; omega
theorem toB_pos {B n : Nat} (hB : 2 ≤ B) (hn : 0 < n) : toB B n = ((n % B : Nat) : Int) :: toB B (n / B) := by
  rw [toB]; rw [dif_pos ⟨hB, hn⟩]
def inB (B : Nat) (l : List Int) : Prop := ∀ x ∈ l, 0 ≤ x ∧ x < B
theorem inB_cons {B : Nat} {x : Int} {l : List Int} : inB B (x :: l) ↔ (0 ≤ x ∧ x < B) ∧ inB B l := by simp [inB]
theorem inB_nil (B : Nat) : inB B [] := by simp [inB]
theorem inB_append {B : Nat} {l l' : List Int} : inB B (l ++ l') ↔ inB B l ∧ inB B l' := by
  simp only [inB, List.mem_append]
  exact ⟨fun h => ⟨fun x hx => h x (.inl hx), fun x hx => h x (.inr hx)⟩, fun h x hx => hx.elim (h.1 x) (h.2 x)⟩
theorem toB_in {B : Nat} (hB : 2 ≤ B) (n : Nat) : inB B (toB B n) := by
  induction n using Nat.strongRecOn with
  | _ n ih =>
    rcases Nat.eq_zero_or_pos n with rfl | hn
    · rw [toB_zero]; exact inB_nil B
    · rw [toB_pos hB hn, inB_cons]
      refine ⟨⟨by omega, ?_⟩, ih _ (Nat.div_lt_self hn hB)⟩
      exact_mod_cast Nat.mod_lt n (by omega)
theorem valB_toB {B : Nat} (hB : 2 ≤ B) (n : Nat) : valB B (toB B n) = n := by
  induction n using Nat.strongRecOn with
  | _ n ih =>
    rcases Nat.eq_zero_or_pos n with rfl | hn
    · rw [toB_zero]; rfl
    · rw [toB_pos hB hn, valB, ih _ (Nat.div_lt_self hn hB)]
      exact_mod_cast Nat.mod_add_div n B
theorem valB_nonneg {B : Nat} : ∀ {l : List Int}, inB B l → 0 ≤ valB B l
  | [], _ => Int.le_refl 0
  | x :: l, h => by
    rw [inB_cons] at h
    have := valB_nonneg h.2
    have := Int.mul_nonneg (Int.natCast_nonneg B) this
    unfold valB; omega
theorem valB_lt {B : Nat} (hB : 2 ≤ B) : ∀ {l : List Int}, inB B l → valB B l < (B ^ l.length : Nat)
  | [], _ => by simp [valB]
  | x :: l, h => by
    rw [inB_cons] at h
    have h1 := valB_lt hB h.2
    have h2 : (B : Int) * (valB B l + 1) ≤ B * (B ^ l.length : Nat) := Int.mul_le_mul_of_nonneg_left (by omega) (by omega)
    have h3 : (B : Int) * (valB B l + 1) = B * valB B l + B := by rw [Int.mul_add, Int.mul_one]
    have h4 : ((B ^ (x :: l).length : Nat) : Int) = B * (B ^ l.length : Nat) := by
      rw [List.length_cons, Nat.pow_succ, Nat.mul_comm]; exact_mod_cast rfl
    rw [h4]; unfold valB; omega
theorem valB_append (B : Nat) : ∀ (l l' : List Int), valB B (l ++ l') = valB B l + (B ^ l.length : Nat) * valB B l'
  | [], l' => by simp [valB]
  | x :: l, l' => by
    rw [List.cons_append, valB, valB, valB_append B l l', List.length_cons, Nat.pow_succ, Nat.mul_comm (B ^ l.length) B, Int.natCast_mul, Int.mul_add, Int.mul_assoc, Int.add_assoc]
theorem toB_of {B : Nat} (hB : 2 ≤ B) : ∀ {l : List Int}, inB B l → (∀ h : l ≠ [], l.getLast h ≠ 0) → l = toB B (valB B l).toNat
  | [], _, _ => by simp [valB, toB_zero]
  | x :: l, h, hl => by
    rw [inB_cons] at h
    have hn := valB_nonneg h.2
    have ih := toB_of hB h.2 fun hne => by have := hl (by simp); rwa [List.getLast_cons hne] at this
    have hpos : 0 < (valB B (x :: l)).toNat := by
      have hm := Int.mul_nonneg (Int.natCast_nonneg B) hn
      unfold valB
      by_cases hx : x = 0
      · have hne : l ≠ [] := fun e => by subst e; exact hl (by simp) (by simpa using hx)
        have : 0 < valB B l := by
          rcases Int.lt_or_eq_of_le hn with h0 | h0
          · exact h0
          · rw [← h0] at ih; simp [toB_zero] at ih; exact absurd ih hne
        have := Int.mul_pos (show (0 : Int) < B by omega) this
        omega
      · omega
    have e1 : (valB B (x :: l)).toNat = x.toNat + B * (valB B l).toNat := by
      have hv : valB B (x :: l) = x + B * valB B l := rfl
      rw [hv]
      have hm := Int.mul_nonneg (Int.natCast_nonneg B) hn
      have : ((B * (valB B l).toNat : Nat) : Int) = B * valB B l := by rw [Int.natCast_mul, Int.toNat_of_nonneg hn]
      omega
    have hx : x.toNat < B := by omega
    rw [toB_pos hB hpos, e1, Nat.add_mul_mod_self_left, Nat.mod_eq_of_lt hx, Nat.add_mul_div_left _ _ (by omega), Nat.div_eq_of_lt hx, Nat.zero_add, ← ih, Int.toNat_of_nonneg h.1.1]
theorem toB_last {B : Nat} (hB : 2 ≤ B) (n : Nat) : ∀ h : toB B n ≠ [], (toB B n).getLast h ≠ 0 := by
  induction n using Nat.strongRecOn with
  | _ n ih =>
    intro h
    rcases Nat.eq_zero_or_pos n with rfl | hn
    · exact absurd (toB_zero B) h
    · have e := toB_pos hB hn
      simp only [e]
      by_cases hq : toB B (n / B) = []
      · simp only [hq, List.getLast_singleton]
        have h0 : n / B = 0 := by
          rcases Nat.eq_zero_or_pos (n / B) with h0 | h0
          · exact h0
          · rw [toB_pos hB h0] at hq; simp at hq
        have : n < B := by
          rcases Nat.lt_or_ge n B with h1 | h1
          · exact h1
          · have := Nat.div_pos h1 (by omega); omega
        rw [Nat.mod_eq_of_lt this]; omega
      · rw [List.getLast_cons hq]
        exact ih _ (Nat.div_lt_self hn hB) hq
theorem toB_nil {B n : Nat} (hB : 2 ≤ B) : toB B n = [] ↔ n = 0 := by
  constructor
  · intro h
    rcases Nat.eq_zero_or_pos n with h0 | h0
    · exact h0
    · rw [toB_pos hB h0] at h; simp at h
  · rintro rfl; exact toB_zero B
theorem toB_len_lt {B n : Nat} (hB : 2 ≤ B) : n < B ^ (toB B n).length := by
  have := valB_lt hB (toB_in hB n)
  rw [valB_toB hB] at this
  exact_mod_cast this
theorem toB_len_le {B : Nat} (hB : 2 ≤ B) : ∀ {k n : Nat}, n < B ^ k → (toB B n).length ≤ k
  | 0, n, h => by have : n = 0 := by simpa using h
                  subst this; simp [toB_zero]
  | k + 1, n, h => by
    rcases Nat.eq_zero_or_pos n with rfl | hn
    · simp [toB_zero]
    · rw [toB_pos hB hn, List.length_cons]
      have : n / B < B ^ k := Nat.div_lt_of_lt_mul (by rw [Nat.pow_succ, Nat.mul_comm] at h; exact h)
      have := toB_len_le hB this
      omega
theorem toB_len_ge {B n : Nat} (hB : 2 ≤ B) (hn : 0 < n) : B ^ ((toB B n).length - 1) ≤ n := by
  rcases Nat.lt_or_ge n (B ^ ((toB B n).length - 1)) with h | h
  · have h1 := toB_len_le hB h
    have h2 : toB B n ≠ [] := fun e => by rw [toB_nil hB] at e; omega
    have := List.length_pos_iff.2 h2
    omega
  · exact h
end Go.Proofs.YtgjncgiekniniaaGreatDoor.A
end
section
set_option linter.unusedVariables false
set_option linter.unusedSimpArgs false
namespace Go.Proofs.YtgjncgiekniniaaGreatDoor.A
open Go
theorem bif_t {α : Type} {p : Prop} [Decidable p] {a b : α} (h : p) : (bif decide p then a else b) = a := by simp [h]
theorem bif_f {α : Type} {p : Prop} [Decidable p] {a b : α} (h : ¬ p) : (bif decide p then a else b) = b := by simp [h]
abbrev short {α : Type} (l : List α) : Prop := l.length ≤ 1000000000
abbrev dg (n : Nat) : List Int := toB 10000 n
theorem b4 : 2 ≤ 10000 := by decide
theorem valB_take_succ {B : Nat} {l : List Int} {n : Nat} (h : n < l.length) : valB B (l.take (n + 1)) = valB B (l.take n) + (B ^ n : Nat) * l[n] := by
  rw [List.take_succ_eq_append_getElem h, valB_append, List.length_take, Nat.min_eq_left (by omega)]
  simp [valB]
theorem getD_eq {l : List Int} {n : Nat} (h : n < l.length) : l.getD n 0 = l[n] := by simp [List.getD, h]
theorem ref01_Trim_gen {B : Nat} (hB : 2 ≤ B) {l : List Int} (hl : inB B l) (hs : short l) : z15.F l = some (toB B (valB B l).toNat) := by
  have key : ∀ n : Nat, n ≤ l.length → ∃ m : Nat, m ≤ n ∧ Runs (fun rec x => z15.l0b6P l rec some x) (n : Int) (m : Int) ∧ valB B (l.take m) = valB B (l.take n) ∧ (m = 0 ∨ l.getD (m - 1) 0 ≠ 0) := by
    intro n
    induction n with
    | zero => exact fun _ => ⟨0, Nat.le_refl 0, .done fun rec => by simp [z15.l0b6P], rfl, .inl rfl⟩
    | succ n ih =>
      intro hn
      have hs' : l.length ≤ 1000000000 := hs
      have e : wr .i64 (((n + 1 : Nat) : Int) - 1) = (n : Int) := by rw [wr_i64] <;> omega
      have e0 : ((n + 1 : Nat) : Int) > 0 := by omega
      have e1 : (0 : Int) ≤ (n : Int) ∧ (n : Int) < (l.length : Int) := by omega
      by_cases hz : l.getD n 0 = 0
      · obtain ⟨m, h1, h2, h3, h4⟩ := ih (by omega)
        refine ⟨m, by omega, .step (fun rec => ?_) h2, ?_, h4⟩
        · unfold z15.l0b6P
          rw [bif_t e0, e, if_pos e1, Int.toNat_natCast, bif_t hz]
        · rw [h3, valB_take_succ (show n < l.length by omega), ← getD_eq, hz]; simp
      · refine ⟨n + 1, Nat.le_refl _, .done fun rec => ?_, rfl, .inr (by simpa using hz)⟩
        unfold z15.l0b6P
        rw [bif_t e0, e, if_pos e1, Int.toNat_natCast, bif_f hz]
  obtain ⟨m, h1, h2, h3, h4⟩ := key l.length (Nat.le_refl _)
  unfold z15.F z15.l0b6
  rw [h2.lfp]
  simp only [Option.bind_some]
  rw [if_pos (by omega), Int.toNat_natCast]
  rw [List.take_length] at h3
  rw [← h3]
  congr 1
  apply toB_of hB (fun x hx => hl x (List.mem_of_mem_take hx))
  intro hne
  rcases h4 with rfl | h4
  · simp at hne
  · rw [List.getLast_eq_getElem]
    have hm : 0 < m := by
      rcases Nat.eq_zero_or_pos m with h0 | h0
      · subst h0; simp at hne
      · exact h0
    rw [getD_eq (by omega)] at h4
    simp only [List.length_take, List.getElem_take]
    have : min m l.length - 1 = m - 1 := by omega
    simp only [this]
    exact h4
theorem ref01_Trim {l : List Int} (hl : inB 10000 l) (hs : short l) : z15.F l = some (dg (valB 10000 l).toNat) := ref01_Trim_gen b4 hl hs
theorem ref01_at {l : List Int} {i : Nat} : z14.F l (i : Int) = some (l.getD i 0) := by
  unfold z14.F
  by_cases h : (i : Int) ≥ (l.length : Int)
  · rw [bif_t h]
    have : l.getD i 0 = 0 := by simp [List.getD, List.getElem?_eq_none (show l.length ≤ i by omega)]
    rw [this]
  · rw [bif_f h, if_pos (by omega), Int.toNat_natCast]
theorem ref01_Small {n : Nat} (hn : n < 9223372036854775808) : z9.F (n : Int) = some (dg n) := by
  have key : ∀ (n : Nat), n < 9223372036854775808 → ∀ s : List Int, short s → (s.length + (dg n).length ≤ 1000000000) → Runs (fun rec x => z9.l0P rec some x) ((n : Int), s) ((0 : Int), s ++ dg n) := by
    intro n
    induction n using Nat.strongRecOn with
    | _ n ih =>
      intro hn s hs hl
      rcases Nat.eq_zero_or_pos n with rfl | h0
      · refine .done fun rec => ?_
        simp [z9.l0P, toB_zero]
      · have e : dg n = ((n % 10000 : Nat) : Int) :: dg (n / 10000) := toB_pos b4 h0
        have hd : n / 10000 < n := Nat.div_lt_self h0 (by decide)
        rw [e] at hl ⊢
        have h2 := ih (n / 10000) hd (by omega) (s ++ [((n % 10000 : Nat) : Int)]) (by simp at *; omega) (by simp at *; omega)
        rw [List.append_assoc, List.singleton_append] at h2
        refine .step (fun rec => ?_) h2
        unfold z9.l0P
        simp only
        have e1 : Int.tmod (n : Int) 10000 = ((n % 10000 : Nat) : Int) := by rw [tmod_emod (by omega)]; rfl
        have e2 : wr .i64 (Int.tdiv (n : Int) 10000) = ((n / 10000 : Nat) : Int) := by rw [tdiv_ediv (by omega), wr_i64 (by omega) (by omega)]; rfl
        rw [bif_t (by omega), if_pos (by simp at *; omega), e1, e2]
  unfold z9.F z9.l0
  have hl : (dg n).length ≤ 5 := toB_len_le b4 (by omega)
  rw [(key n hn [] (by simp) (by simp; omega)).lfp]
  simp
end Go.Proofs.YtgjncgiekniniaaGreatDoor.A
end
section
set_option linter.unusedVariables false
set_option linter.unusedSimpArgs false
namespace Go.Proofs.YtgjncgiekniniaaGreatDoor.A
open Go
def ch (d : Int) : UInt8 := UInt8.ofNat (48 + d.toNat)
def txt (n : Nat) : List UInt8 := if n = 0 then [48] else (toB 10 n).reverse.map ch
theorem b10 : 2 ≤ 10 := by decide
theorem ch_toNat {d : Int} (h0 : 0 ≤ d) (h : d < 10) : (ch d).toNat = 48 + d.toNat := by
  unfold ch; rw [UInt8.toNat_ofNat']; omega
def dig4 (d : Int) : List Int := [d % 10, d / 10 % 10, d / 100 % 10, d / 1000 % 10]
theorem dig4_in {d : Int} (h0 : 0 ≤ d) : inB 10 (dig4 d) := by
  intro x hx; simp [dig4] at hx; rcases hx with rfl | rfl | rfl | rfl <;> omega
theorem dig4_val {d : Int} (h0 : 0 ≤ d) (h : d < 10000) : valB 10 (dig4 d) = d := by simp [dig4, valB]; omega
theorem flat_in : ∀ {l : List Int}, inB 10000 l → inB 10 (l.flatMap dig4)
  | [], _ => inB_nil 10
  | x :: l, h => by rw [inB_cons] at h; rw [List.flatMap_cons, inB_append]; exact ⟨dig4_in h.1.1, flat_in h.2⟩
theorem flat_val : ∀ {l : List Int}, inB 10000 l → valB 10 (l.flatMap dig4) = valB 10000 l
  | [], _ => rfl
  | x :: l, h => by
    rw [inB_cons] at h
    rw [List.flatMap_cons, valB_append, dig4_val h.1.1 h.1.2, flat_val h.2]
    simp [dig4, valB]
theorem flat_len : ∀ (l : List Int), (l.flatMap dig4).length = 4 * l.length
  | [] => rfl
  | x :: l => by rw [List.flatMap_cons, List.length_append, flat_len l]; simp [dig4]; omega
theorem print_l2 (s : List UInt8) (hs : short s) (d : Int) (h0 : 0 ≤ d) (hd : d < 10000) : ∃ d', z6.l2 (s, d, (0 : Int)) = some (((dig4 d).reverse.map ch) ++ s, d', 4) := by
  have hs' : s.length ≤ 1000000000 := hs
  have one : ∀ (s : List UInt8) (d : Int) (k : Nat), s.length ≤ 1000000004 → 0 ≤ d → d < 10000 → k < 4 → ∀ rec, z6.l2P rec some (s, d, (k : Int)) = rec (ch (d % 10) :: s, d / 10, ((k + 1 : Nat) : Int)) := by
    intro s d k hs h0 hd hk rec
    unfold z6.l2P
    simp only
    rw [bif_t (by omega), if_pos (by simp; omega), tmod_emod h0, tdiv_ediv h0, wr_i64 (n := 48 + d % 10) (by omega) (by omega), wr_u8 (by omega) (by omega), wr_i64 (n := d / 10) (by omega) (by omega), wr_i64 (by omega) (by omega)]
    have : (48 + d % 10).toNat = 48 + (d % 10).toNat := by omega
    simp [ch, this]
  refine ⟨d / 10 / 10 / 10 / 10, ?_⟩
  unfold z6.l2
  refine Runs.lfp (.step (one s d 0 (by omega) h0 hd (by decide)) (.step (one _ (d / 10) 1 (by simp; omega) (by omega) (by omega) (by decide)) (.step (one _ (d / 10 / 10) 2 (by simp; omega) (by omega) (by omega) (by decide)) (.step (one _ (d / 10 / 10 / 10) 3 (by simp; omega) (by omega) (by omega) (by decide)) (.done fun rec => ?_)))))
  unfold z6.l2P
  simp only
  rw [bif_f (by omega)]
  have e1 : d / 10 / 10 = d / 100 := by omega
  have e2 : d / 10 / 10 / 10 = d / 1000 := by omega
  simp [dig4, e1, show d / 100 / 10 = d / 1000 by omega]
theorem print_l0 {l : List Int} (hl : inB 10000 l) (hs : 4 * l.length ≤ 1000000000) : z6.l0 l ([], (0 : Int)) = some ((l.flatMap dig4).reverse.map ch, (l.length : Int)) := by
  have key : ∀ (k : Nat), k ≤ l.length → Runs (fun rec x => z6.l0P l rec some x) (((l.take (l.length - k)).flatMap dig4).reverse.map ch, ((l.length - k : Nat) : Int)) ((l.flatMap dig4).reverse.map ch, (l.length : Int)) := by
    intro k
    induction k with
    | zero =>
      intro _
      refine .done fun rec => ?_
      unfold z6.l0P
      simp
    | succ k ih =>
      intro hk
      have hi : l.length - (k + 1) < l.length := by omega
      have hm := hl l[l.length - (k + 1)] (List.getElem_mem hi)
      obtain ⟨d', h2⟩ := print_l2 (((l.take (l.length - (k + 1))).flatMap dig4).reverse.map ch) (by
        show List.length _ ≤ _; rw [List.length_map, List.length_reverse, flat_len, List.length_take]; omega) _ hm.1 hm.2
      refine .step (fun rec => ?_) (ih (by omega))
      unfold z6.l0P
      simp only
      rw [bif_t (by omega), if_pos (by omega), Int.toNat_natCast, getD_eq hi, h2]
      simp only [Option.bind_some]
      rw [wr_i64 (by omega) (by omega)]
      have e : l.take (l.length - k) = l.take (l.length - (k + 1)) ++ [l[l.length - (k + 1)]] := by
        rw [← List.take_succ_eq_append_getElem hi]; congr 1; omega
      have e2 : ((l.length - (k + 1) : Nat) : Int) + 1 = ((l.length - k : Nat) : Int) := by omega
      rw [e, e2, List.flatMap_append]
      simp only [List.flatMap_cons, List.flatMap_nil, List.append_nil, List.reverse_append, List.map_append]
  have := key l.length (Nat.le_refl _)
  simp only [Nat.sub_self, List.take_zero, List.flatMap_nil, List.reverse_nil, List.map_nil] at this
  exact this.lfp
theorem ch_48 {d : Int} (h0 : 0 ≤ d) (h : d < 10) : ((ch d).toNat : Int) = 48 ↔ d = 0 := by rw [ch_toNat h0 h]; omega
theorem ref01_Print {n : Nat} (hs : 4 * (dg n).length ≤ 1000000000) : z6.F (dg n) = some (txt n) := by
  unfold z6.F txt
  by_cases hn : n = 0
  · subst hn; simp [dg, toB_zero]
  · have hne : dg n ≠ [] := fun e => hn ((toB_nil b4).1 e)
    have hlen := List.length_pos_iff.2 hne
    rw [bif_f (by omega), if_neg hn, print_l0 (toB_in b4 n) hs]
    simp only [Option.bind_some]
    generalize hfl : (dg n).flatMap dig4 = fl
    have hin : inB 10 fl := by rw [← hfl]; exact flat_in (toB_in b4 n)
    have hv : valB 10 fl = n := by rw [← hfl, flat_val (toB_in b4 n), valB_toB b4]
    have hl : fl.length ≤ 1000000000 := by rw [← hfl, flat_len]; exact hs
    have key : ∀ k : Nat, k ≤ fl.length → valB 10 (fl.take k) = n → ∃ m : Nat, m ≤ k ∧ Runs (fun rec x => z6.l4P (fl.reverse.map ch) rec some x) ((fl.length - k : Nat) : Int) ((fl.length - m : Nat) : Int) ∧ valB 10 (fl.take m) = n ∧ (m = 0 ∨ fl.getD (m - 1) 0 ≠ 0) := by
      intro k
      induction k with
      | zero => intro _ h; simp [valB] at h; omega
      | succ k ih =>
        intro hk h
        have hi : fl.length - (k + 1) < (fl.reverse.map ch).length := by simp; omega
        have hk' : k < fl.length := by omega
        have hm := hin fl[k] (List.getElem_mem hk')
        have eg : (fl.reverse.map ch).getD (fl.length - (k + 1)) 0 = ch fl[k] := by
          have e0 : fl.length - 1 - (fl.length - (k + 1)) = k := by omega
          simp only [List.getD, List.getElem?_eq_getElem hi, Option.getD_some, List.getElem_map, List.getElem_reverse, e0]
        by_cases hz : fl[k] = 0
        · obtain ⟨m, h1, h2, h3, h4⟩ := ih (by omega) (by rw [valB_take_succ hk', hz] at h; simpa using h)
          refine ⟨m, by omega, .step (fun rec => ?_) h2, h3, h4⟩
          unfold z6.l4P
          rw [if_pos (by simp; omega), Int.toNat_natCast, eg, bif_t ((ch_48 hm.1 hm.2).2 hz), wr_i64 (by omega) (by omega)]
          congr 1; omega
        · refine ⟨k + 1, Nat.le_refl _, .done fun rec => ?_, h, .inr (by rw [Nat.add_sub_cancel, getD_eq hk']; exact hz)⟩
          unfold z6.l4P
          rw [if_pos (by simp; omega), Int.toNat_natCast, eg, bif_f (fun e => hz ((ch_48 hm.1 hm.2).1 e))]
    obtain ⟨m, h1, h2, h3, h4⟩ := key fl.length (Nat.le_refl _) (by rw [List.take_length]; exact hv)
    rw [Nat.sub_self] at h2
    unfold z6.l4
    rw [show (0 : Int) = ((0 : Nat) : Int) from rfl, h2.lfp]
    simp only [Option.bind_some]
    rw [if_pos (by rw [List.length_map, List.length_reverse]; omega), Int.toNat_natCast]
    have hm : m ≠ 0 := by rintro rfl; simp [valB] at h3; omega
    have e : fl.take m = toB 10 n := by
      have := toB_of b10 (l := fl.take m) (fun x hx => hin x (List.mem_of_mem_take hx)) fun hne => by
        rcases h4 with h4 | h4
        · exact absurd h4 hm
        · rw [List.getLast_eq_getElem]
          rw [getD_eq (by omega)] at h4
          simp only [List.length_take, List.getElem_take]
          have : min m fl.length - 1 = m - 1 := by omega
          simp only [this]; exact h4
      rwa [h3, Int.toNat_natCast] at this
    rw [← e, ← List.map_drop, List.reverse_take]
end Go.Proofs.YtgjncgiekniniaaGreatDoor.A
end
section
set_option linter.unusedVariables false
set_option linter.unusedSimpArgs false
namespace Go.Proofs.YtgjncgiekniniaaGreatDoor.A
open Go
theorem valB_set {B : Nat} : ∀ {l : List Int} {j : Nat} {x : Int}, j < l.length → valB B (l.set j x) = valB B l + (x - l.getD j 0) * (B ^ j : Nat)
  | y :: l, 0, x, _ => by simp [valB]; omega
  | y :: l, j + 1, x, h => by
    have := valB_set (B := B) (l := l) (j := j) (x := x) (by simpa using h)
    rw [List.set_cons_succ, valB, valB, this, List.getD_cons_succ, Nat.pow_succ, Nat.mul_comm (B ^ j) B, Int.natCast_mul, Int.mul_add, Int.add_assoc]
    congr 2
    rw [Int.mul_left_comm]
theorem inB_set {B : Nat} {l : List Int} {j : Nat} {x : Int} (h : inB B l) (hx : 0 ≤ x ∧ x < B) : inB B (l.set j x) := fun y hy => by
  rcases List.mem_or_eq_of_mem_set hy with h1 | rfl
  · exact h y h1
  · exact hx
theorem valB_drop {B : Nat} : ∀ (l : List Int) (k : Nat), valB B (l.drop k) = l.getD k 0 + B * valB B (l.drop (k + 1))
  | [], k => by simp [valB]
  | x :: l, 0 => by simp [valB]
  | x :: l, k + 1 => by rw [List.drop_succ_cons, List.drop_succ_cons, List.getD_cons_succ]; exact valB_drop l k
theorem getD_in {B : Nat} (hB : 0 < B) {l : List Int} (h : inB B l) (k : Nat) : 0 ≤ l.getD k 0 ∧ l.getD k 0 < B := by
  by_cases hk : k < l.length
  · rw [getD_eq hk]; exact h _ (List.getElem_mem hk)
  · simp [List.getD, List.getElem?_eq_none (show l.length ≤ k by omega)]; omega
theorem inB_drop {B : Nat} {l : List Int} (h : inB B l) (k : Nat) : inB B (l.drop k) := fun x hx => h x (List.mem_of_mem_drop hx)
theorem inB_take {B : Nat} {l : List Int} (h : inB B l) (k : Nat) : inB B (l.take k) := fun x hx => h x (List.mem_of_mem_take hx)
theorem mul_round {a b s : List Int} {i k : Nat} {c : Int} (ha : inB 10000 a) (hb : inB 10000 b) (hs : inB 10000 s) (hi : i < a.length) (hk : i + k < s.length) (hsl : s.length ≤ 4000000000) (hc : 0 ≤ c ∧ c < 10000) (hgo : k < b.length ∨ 0 < c)
    (rec : Int × Int × List Int → Option (Int × Int × List Int)) :
    z16.l2aaP a b (i : Int) rec some (c, (k : Int), s) =
      rec ((s.getD (i + k) 0 + a.getD i 0 * b.getD k 0 + c) / 10000, ((k + 1 : Nat) : Int), s.set (i + k) ((s.getD (i + k) 0 + a.getD i 0 * b.getD k 0 + c) % 10000)) := by
  have h1 := getD_in (by decide) ha i
  have h2 := getD_in (by decide) hb k
  have h3 := getD_in (by decide) hs (i + k)
  have h4 : 0 ≤ a.getD i 0 * b.getD k 0 := Int.mul_nonneg h1.1 h2.1
  have h5 : a.getD i 0 * b.getD k 0 ≤ 9999 * 9999 := Int.mul_le_mul (by omega) (by omega) h2.1 (by decide)
  have e1 : wr .i64 ((i : Int) + k) = ((i + k : Nat) : Int) := by rw [wr_i64 (by omega) (by omega)]; omega
  have e2 : wr .i64 (a.getD i 0 * b.getD k 0) = a.getD i 0 * b.getD k 0 := wr_i64 (by omega) (by omega)
  have e3 : wr .i64 (s.getD (i + k) 0 + a.getD i 0 * b.getD k 0) = s.getD (i + k) 0 + a.getD i 0 * b.getD k 0 := wr_i64 (by omega) (by omega)
  have e4 : wr .i64 (s.getD (i + k) 0 + a.getD i 0 * b.getD k 0 + c) = s.getD (i + k) 0 + a.getD i 0 * b.getD k 0 + c := wr_i64 (by omega) (by omega)
  have e5 : wr .i64 ((k : Int) + 1) = ((k + 1 : Nat) : Int) := by rw [wr_i64 (by omega) (by omega)]; omega
  unfold z16.l2aaP
  simp only [ref01_at, Option.bind_some, e1, Int.toNat_natCast, e2, e3, e4, e5]
  rw [tdiv_ediv (by omega), tmod_emod (by omega), wr_i64 (n := (_ : Int) / 10000) (by omega) (by omega)]
  have c1 : (0 : Int) ≤ ((i + k : Nat) : Int) ∧ ((i + k : Nat) : Int) < (s.length : Int) := by omega
  have c2 : (0 : Int) ≤ (i : Int) ∧ (i : Int) < (a.length : Int) := by omega
  simp only [if_pos c1, if_pos hk, if_pos c2]
  by_cases hkb : (k : Int) < (b.length : Int)
  · rw [bif_t hkb]
  · rw [bif_f hkb, bif_t (show c > 0 by omega)]
theorem mul_inner {a b : List Int} {i : Nat} {T : Int} (ha : inB 10000 a) (hb : inB 10000 b) (hi : i < a.length) (hT : T < (10000 ^ (i + 1 + b.length) : Nat)) :
    ∀ (f k : Nat) (c : Int) (s : List Int), inB 10000 s → i + 1 + b.length < s.length → s.length ≤ 4000000000 → 0 ≤ c ∧ c < 10000 → b.length + 2 ≤ k + f →
      valB 10000 s + (c + a.getD i 0 * valB 10000 (b.drop k)) * (10000 ^ (i + k) : Nat) = T →
      ∃ k' s', Runs (fun rec x => z16.l2aaP a b (i : Int) rec some x) (c, (k : Int), s) ((0 : Int), k', s') ∧ inB 10000 s' ∧ s'.length = s.length ∧ valB 10000 s' = T
  | f, k, c, s, hs, hl, hl', hc, hf, hv => by
    have hbd := valB_nonneg (inB_drop hb k)
    have h1 := getD_in (B := 10000) (by decide) ha i
    have hsv := valB_nonneg hs
    have hab := Int.mul_nonneg h1.1 hbd
    by_cases hgo : k < b.length ∨ 0 < c
    · have hk : k ≤ b.length := by
        rcases hgo with h | h
        · omega
        · rcases Nat.lt_or_ge b.length k with hlt | hge
          · exfalso
            have h2 : (10000 ^ (i + 1 + b.length) : Nat) ≤ 10000 ^ (i + k) := Nat.pow_le_pow_right (by decide) (by omega)
            have h3 : (1 : Int) * (10000 ^ (i + k) : Nat) ≤ (c + a.getD i 0 * valB 10000 (b.drop k)) * (10000 ^ (i + k) : Nat) := Int.mul_le_mul_of_nonneg_right (by omega) (Int.natCast_nonneg _)
            have h4 : ((10000 ^ (i + 1 + b.length) : Nat) : Int) ≤ (10000 ^ (i + k) : Nat) := by exact_mod_cast h2
            omega
          · exact hge
      match f, hf with
      | 0, hf => omega
      | f + 1, hf =>
        have h2 := getD_in (B := 10000) (by decide) hb k
        have h3 := getD_in (B := 10000) (by decide) hs (i + k)
        have h4 : 0 ≤ a.getD i 0 * b.getD k 0 := Int.mul_nonneg h1.1 h2.1
        have h5 : a.getD i 0 * b.getD k 0 ≤ 9999 * 9999 := Int.mul_le_mul (by omega) (by omega) h2.1 (by decide)
        obtain ⟨k', s', r1, r2, r3, r4⟩ := mul_inner ha hb hi hT f (k + 1) ((s.getD (i + k) 0 + a.getD i 0 * b.getD k 0 + c) / 10000) (s.set (i + k) ((s.getD (i + k) 0 + a.getD i 0 * b.getD k 0 + c) % 10000))
          (inB_set hs (by omega)) (by rw [List.length_set]; exact hl) (by rw [List.length_set]; exact hl') (by omega) (by omega) (by
            rw [valB_set (by omega), ← hv, valB_drop b k]
            generalize hx : s.getD (i + k) 0 + a.getD i 0 * b.getD k 0 + c = x
            have e1 : (10000 ^ (i + (k + 1)) : Nat) = 10000 * 10000 ^ (i + k) := by rw [← Nat.add_assoc, Nat.pow_succ, Nat.mul_comm]
            rw [e1, Int.natCast_mul]
            have e2 : x = 10000 * (x / 10000) + x % 10000 := (Int.mul_ediv_add_emod x 10000).symm
            generalize x / 10000 = q at *
            generalize x % 10000 = m at *
            subst e2
            generalize ((10000 ^ (i + k) : Nat) : Int) = p
            generalize valB 10000 (b.drop (k + 1)) = w
            generalize a.getD i 0 = u at *
            generalize b.getD k 0 = v at *
            generalize s.getD (i + k) 0 = z at *
            have hc' : c = 10000 * q + m - z - u * v := by omega
            subst hc'
            grind)
        refine ⟨k', s', .step (fun rec => mul_round ha hb hs hi (by omega) hl' hc hgo rec) r1, r2, by rw [r3, List.length_set], r4⟩
    · have hc0 : c = 0 := by omega
      have hkb : b.length ≤ k := by omega
      subst hc0
      refine ⟨k, s, .done fun rec => ?_, hs, rfl, ?_⟩
      · unfold z16.l2aaP
        simp only
        rw [bif_f (by omega), bif_f (by omega)]
      · rw [List.drop_eq_nil_of_le hkb] at hv
        simpa [valB] using hv
theorem mul_outer {a b : List Int} (ha : inB 10000 a) (hb : inB 10000 b) (hal : a.length + b.length ≤ 3000000000) :
    ∀ (f i : Nat) (s : List Int), i + f = a.length → inB 10000 s → s.length = a.length + b.length + 1 → valB 10000 s = valB 10000 (a.take i) * valB 10000 b →
      ∃ s', Runs (fun rec x => z16.l0P a b rec some x) ((i : Int), s) ((a.length : Int), s') ∧ inB 10000 s' ∧ s'.length = s.length ∧ valB 10000 s' = valB 10000 a * valB 10000 b
  | 0, i, s, hf, hs, hl, hv => by
    have : i = a.length := by omega
    subst this
    refine ⟨s, .done fun rec => ?_, hs, rfl, by rwa [List.take_length] at hv⟩
    unfold z16.l0P
    simp
  | f + 1, i, s, hf, hs, hl, hv => by
    have hi : i < a.length := by omega
    have hT : valB 10000 (a.take (i + 1)) * valB 10000 b < (10000 ^ (i + 1 + b.length) : Nat) := by
      have h1 := valB_lt b4 (inB_take ha (i + 1))
      have h2 := valB_lt b4 hb
      have h3 := valB_nonneg (inB_take ha (i + 1))
      have h4 := valB_nonneg hb
      rw [List.length_take, Nat.min_eq_left (by omega)] at h1
      rw [Nat.pow_add, Int.natCast_mul]
      rcases Int.lt_or_eq_of_le h4 with h0 | h0
      · exact Int.mul_lt_mul h1 (Int.le_of_lt h2) h0 (by omega)
      · rw [← h0, Int.mul_zero]; exact Int.mul_pos (by omega) (by omega)
    obtain ⟨k', s', r1, r2, r3, r4⟩ := mul_inner ha hb hi hT (b.length + 2) 0 0 s hs (by omega) (by omega) (by omega) (by omega) (by
      rw [hv, valB_take_succ hi, List.drop_zero, Int.zero_add, Nat.add_zero, getD_eq hi]; grind)
    obtain ⟨s2, q1, q2, q3, q4⟩ := mul_outer ha hb hal f (i + 1) s' (by omega) r2 (by omega) r4
    refine ⟨s2, .step (fun rec => ?_) q1, q2, by omega, q4⟩
    have e : z16.l2aa a b (i : Int) ((0 : Int), (0 : Int), s) = some ((0 : Int), k', s') := r1.lfp
    unfold z16.l0P
    simp only
    rw [bif_t (by omega), e]
    simp only [Option.bind_some]
    rw [wr_i64 (by omega) (by omega)]
    rfl
theorem valB_replicate (B : Nat) : ∀ n : Nat, valB B (List.replicate n (0 : Int)) = 0
  | 0 => rfl
  | n + 1 => by rw [List.replicate_succ, valB, valB_replicate B n]; simp
theorem inB_replicate {B : Nat} (hB : 0 < B) (n : Nat) : inB B (List.replicate n (0 : Int)) := fun x hx => by
  rw [List.mem_replicate] at hx; rw [hx.2]; omega
theorem ref01_Mul_gen {a b : List Int} (ha : inB 10000 a) (hb : inB 10000 b) (hal : a.length + b.length ≤ 900000000) : z16.F a b = some (dg (valB 10000 a * valB 10000 b).toNat) := by
  unfold z16.F z16.l0
  have e : wr .i64 (wr .i64 ((a.length : Int) + (b.length : Int)) + 1) = ((a.length + b.length + 1 : Nat) : Int) := by
    rw [wr_i64 (n := (a.length : Int) + b.length) (by omega) (by omega), wr_i64 (by omega) (by omega)]; omega
  rw [e, if_pos (by omega), Int.toNat_natCast]
  obtain ⟨s', r1, r2, r3, r4⟩ := mul_outer ha hb (by omega) a.length 0 (List.replicate (a.length + b.length + 1) 0) (by omega) (inB_replicate (by decide) _) (by simp) (by rw [valB_replicate]; simp [valB])
  rw [show ((0 : Int), List.replicate (a.length + b.length + 1) (0 : Int)) = (((0 : Nat) : Int), List.replicate (a.length + b.length + 1) (0 : Int)) from rfl, r1.lfp]
  simp only [Option.bind_some]
  rw [ref01_Trim r2 (by show List.length _ ≤ _; rw [r3]; simp; omega), r4]
  rfl
theorem ref01_Mul {m n : Nat} (hl : (dg m).length + (dg n).length ≤ 900000000) : z16.F (dg m) (dg n) = some (dg (m * n)) := by
  rw [ref01_Mul_gen (toB_in b4 m) (toB_in b4 n) hl, valB_toB b4, valB_toB b4]
  congr 2
end Go.Proofs.YtgjncgiekniniaaGreatDoor.A
end
section
set_option linter.unusedVariables false
set_option linter.unusedSimpArgs false
namespace Go.Proofs.YtgjncgiekniniaaGreatDoor.A
open Go
def cmpI (m n : Int) : Int := if m < n then -1 else if m = n then 0 else 1
theorem valB_take_lt {B : Nat} (hB : 2 ≤ B) {l : List Int} (h : inB B l) {k : Nat} (hk : k ≤ l.length) : valB B (l.take k) < (B ^ k : Nat) := by
  have := valB_lt hB (inB_take h k)
  rwa [List.length_take, Nat.min_eq_left hk] at this
theorem cmp_part {B : Nat} (hB : 2 ≤ B) {a b : List Int} (ha : inB B a) (hb : inB B b) {k : Nat} (hka : k < a.length) (hkb : k < b.length) :
    (a[k] < b[k] → valB B (a.take (k + 1)) < valB B (b.take (k + 1))) ∧ (a[k] = b[k] → (valB B (a.take (k + 1)) - valB B (b.take (k + 1)) = valB B (a.take k) - valB B (b.take k))) := by
  rw [valB_take_succ hka, valB_take_succ hkb]
  have h1 := valB_take_lt hB ha (k := k) (by omega)
  have h2 := valB_nonneg (inB_take hb k)
  refine ⟨fun h => ?_, fun h => by rw [h]; omega⟩
  have h3 : ((B ^ k : Nat) : Int) * (a[k] + 1) ≤ (B ^ k : Nat) * b[k] := Int.mul_le_mul_of_nonneg_left (by omega) (by omega)
  rw [Int.mul_add, Int.mul_one] at h3
  omega
theorem toB_lt_of_len {B m n : Nat} (hB : 2 ≤ B) (h : (toB B m).length < (toB B n).length) : m < n := by
  have h1 := toB_len_lt (n := m) hB
  have hn : 0 < n := by
    rcases Nat.eq_zero_or_pos n with rfl | h0
    · rw [toB_zero] at h; simp at h
    · exact h0
  have h2 := toB_len_ge hB hn
  have h3 : B ^ (toB B m).length ≤ B ^ ((toB B n).length - 1) := Nat.pow_le_pow_right (by omega) (by omega)
  omega
end Go.Proofs.YtgjncgiekniniaaGreatDoor.A
end
section
set_option linter.unusedVariables false
set_option linter.unusedSimpArgs false
namespace Go.Proofs.YtgjncgiekniniaaGreatDoor.A
open Go
def tv : Int → List UInt8 → Int
  | acc, [] => acc
  | acc, b :: s => tv (10 * acc + (b.toNat : Int) - 48) s
def digit (b : UInt8) : Prop := 48 ≤ b.toNat ∧ b.toNat ≤ 57
def digits (s : List UInt8) : Prop := ∀ b ∈ s, digit b
theorem tv_append : ∀ (s t : List UInt8) (a : Int), tv a (s ++ t) = tv (tv a s) t
  | [], _, _ => rfl
  | b :: s, t, a => tv_append s t _
theorem tv_acc : ∀ (s : List UInt8) (a : Int), tv a s = a * (10 ^ s.length : Nat) + tv 0 s
  | [], a => by simp [tv]
  | b :: s, a => by
    have h1 := tv_acc s (10 * a + (b.toNat : Int) - 48)
    have h2 := tv_acc s (10 * 0 + (b.toNat : Int) - 48)
    show tv (10 * a + (b.toNat : Int) - 48) s = a * _ + tv (10 * 0 + (b.toNat : Int) - 48) s
    rw [h1, h2, List.length_cons, Nat.pow_succ, Int.natCast_mul]
    generalize ((10 ^ s.length : Nat) : Int) = p
    grind
theorem tv_bound : ∀ {s : List UInt8}, digits s → 0 ≤ tv 0 s ∧ tv 0 s < (10 ^ s.length : Nat)
  | [], _ => by simp [tv]
  | b :: s, h => by
    have hb := h b (by simp)
    have ih := tv_bound (s := s) fun x hx => h x (by simp [hx])
    have e : tv 0 (b :: s) = ((b.toNat : Int) - 48) * (10 ^ s.length : Nat) + tv 0 s := by
      show tv (10 * 0 + (b.toNat : Int) - 48) s = _
      rw [tv_acc]; simp
    have hp : (0 : Int) ≤ (10 ^ s.length : Nat) := Int.natCast_nonneg _
    unfold digit at hb
    have h1 : 0 ≤ ((b.toNat : Int) - 48) * (10 ^ s.length : Nat) := Int.mul_nonneg (by omega) hp
    have h2 : ((b.toNat : Int) - 48) * (10 ^ s.length : Nat) ≤ 9 * (10 ^ s.length : Nat) := Int.mul_le_mul_of_nonneg_right (by omega) hp
    rw [e, List.length_cons, Nat.pow_succ, Int.natCast_mul]
    omega
end Go.Proofs.YtgjncgiekniniaaGreatDoor.A
end
section
set_option linter.unusedVariables false
set_option linter.unusedSimpArgs false
namespace Go.Proofs.YtgjncgiekniniaaGreatDoor.A
open Go
theorem tv_rev : ∀ {l : List Int}, inB 10 l → tv 0 (l.reverse.map ch) = valB 10 l
  | [], _ => rfl
  | x :: l, h => by
    rw [inB_cons] at h
    rw [List.reverse_cons, List.map_append, tv_append, tv_rev h.2]
    show 10 * valB 10 l + ((ch x).toNat : Int) - 48 = x + 10 * valB 10 l
    rw [ch_toNat h.1.1 h.1.2]; omega
theorem txt_digits (n : Nat) : digits (txt n) := by
  unfold txt
  split
  · intro b hb; simp at hb; subst hb; unfold digit; decide
  · intro b hb
    rw [List.mem_map] at hb
    obtain ⟨d, hd, rfl⟩ := hb
    have := toB_in b10 n d (List.mem_reverse.1 hd)
    unfold digit
    rw [ch_toNat this.1 this.2]; omega
theorem tv_txt (n : Nat) : tv 0 (txt n) = n := by
  unfold txt
  split
  · rename_i h; subst h; decide
  · rw [tv_rev (toB_in b10 n), valB_toB b10]
theorem txt_ne (n : Nat) : txt n ≠ [] := by
  unfold txt
  split
  · simp
  · rename_i h
    simp only [ne_eq, List.map_eq_nil_iff, List.reverse_eq_nil_iff]
    exact fun e => h ((toB_nil b10).1 e)
theorem txt_head {n : Nat} (hn : n ≠ 0) : ∃ b s, txt n = b :: s ∧ b.toNat ≠ 48 := by
  have h := toB_last b10 n (fun e => hn ((toB_nil b10).1 e))
  have hne : toB 10 n ≠ [] := fun e => hn ((toB_nil b10).1 e)
  have hin := toB_in b10 n _ (List.getLast_mem hne)
  refine ⟨ch ((toB 10 n).getLast hne), ((toB 10 n).dropLast.reverse.map ch), ?_, ?_⟩
  · unfold txt
    rw [if_neg hn]
    conv => lhs; rw [← List.dropLast_concat_getLast hne]
    rw [List.reverse_append]; rfl
  · rw [ch_toNat hin.1 hin.2]; omega
theorem txt_len {n k : Nat} (h : n < 10 ^ k) (hk : 0 < k) : (txt n).length ≤ k := by
  unfold txt
  split
  · show 1 ≤ k; omega
  · rw [List.length_map, List.length_reverse]; exact toB_len_le b10 h
end Go.Proofs.YtgjncgiekniniaaGreatDoor.A
end
section
set_option linter.unusedVariables false
set_option linter.unusedSimpArgs false
namespace Go.Proofs.YtgjncgiekniniaaGreatDoor.A
open Go
abbrev neg (z : Int) : Bool := decide (z < 0)
theorem dg_len0 (n : Nat) : (((dg n).length : Nat) : Int) = 0 ↔ n = 0 := by
  constructor
  · intro h; exact (toB_nil b4).1 (List.length_eq_zero_iff.1 (Int.ofNat_eq_zero.1 h))
  · rintro rfl; simp [dg, toB_zero]
theorem dg_lenp (n : Nat) : (((dg n).length : Nat) : Int) > 0 ↔ 0 < n := by
  have := dg_len0 n; omega
theorem ref04_Of (n : Nat) (b : Bool) : z8.F (dg n) b = some (dg n, b && decide (0 < n)) := by
  unfold z8.F
  cases b
  · rfl
  · simp only [cond_true, Bool.true_and]
    congr 2
    exact decide_eq_decide.2 (dg_lenp n)
theorem ref04_Of' {z : Int} {b : Bool} (h : (b = true ∧ z ≤ 0) ∨ (b = false ∧ 0 ≤ z)) : z8.F (dg z.natAbs) b = some (dg z.natAbs, neg z) := by
  rw [ref04_Of]
  congr 2
  rcases h with ⟨rfl, h⟩ | ⟨rfl, h⟩
  · rw [Bool.true_and]; exact decide_eq_decide.2 (by omega)
  · rw [Bool.false_and]; symm; exact decide_eq_false (by omega)
theorem ref04_From {z : Int} (h : -9223372036854775808 < z ∧ z < 9223372036854775808) : z10.F z = some (dg z.natAbs, neg z) := by
  unfold z10.F
  by_cases hz : z < 0
  · have e : wr .i64 (0 - z) = ((z.natAbs : Nat) : Int) := by rw [wr_i64 (by omega) (by omega)]; omega
    rw [bif_t hz, e, ref01_Small (by omega)]
    simp only [Option.bind_some]
    rw [ref04_Of' (z := z) (.inl ⟨rfl, by omega⟩)]; rfl
  · have e : z = ((z.natAbs : Nat) : Int) := by omega
    rw [bif_f hz]
    conv => lhs; rw [e]
    rw [ref01_Small (by omega)]
    simp only [Option.bind_some]
    rw [ref04_Of' (z := z) (.inr ⟨rfl, by omega⟩)]; rfl
theorem ref04_Mul {x y : Int} (hl : (dg x.natAbs).length + (dg y.natAbs).length ≤ 900000000) : z17.F (dg x.natAbs) (neg x) (dg y.natAbs) (neg y) = some (dg (x * y).natAbs, neg (x * y)) := by
  unfold z17.F
  rw [ref01_Mul hl, ← Int.natAbs_mul]
  simp only [Option.bind_some]
  rw [ref04_Of]
  simp only [Option.bind_some]
  congr 2
  have h0 : 0 < (x * y).natAbs ↔ x ≠ 0 ∧ y ≠ 0 := by
    rw [Int.natAbs_mul]
    constructor
    · intro h; exact ⟨by rintro rfl; simp at h, by rintro rfl; simp at h⟩
    · rintro ⟨h1, h2⟩; exact Nat.mul_pos (by omega) (by omega)
  rw [Bool.eq_iff_iff]
  simp only [Bool.and_eq_true, Bool.not_eq_true', decide_eq_true_eq, decide_eq_false_iff_not, h0]
  rcases Int.lt_trichotomy x 0 with hx | hx | hx <;> rcases Int.lt_trichotomy y 0 with hy | hy | hy
  · have := Int.mul_pos_of_neg_of_neg hx hy; simp [hx, hy]; omega
  · subst hy; simp
  · have := Int.mul_neg_of_neg_of_pos hx hy; simp [hx]; omega
  · subst hx; simp
  · subst hx; simp
  · subst hx; simp
  · have := Int.mul_neg_of_pos_of_neg hx hy; simp [hy]; omega
  · subst hy; simp
  · have := Int.mul_pos hx hy; simp; omega
theorem ref04_Print {z : Int} (hs : 4 * (dg z.natAbs).length ≤ 1000000000) (hl : (txt z.natAbs).length ≤ 1000000000) : z7.F (dg z.natAbs) (neg z) = some (if z < 0 then 45 :: txt z.natAbs else txt z.natAbs) := by
  unfold z7.F
  rw [ref01_Print hs]
  simp only [Option.bind_some]
  by_cases h : z < 0
  · rw [bif_t h, if_pos (by simp; omega), if_pos h]; rfl
  · rw [bif_f h, if_neg h]
theorem cmpI_sub (x y : Int) : cmpI (x - y) 0 = cmpI x y := by
  unfold cmpI; split <;> split <;> (try split) <;> (try split) <;> first | rfl | omega
end Go.Proofs.YtgjncgiekniniaaGreatDoor.A
end
section
set_option linter.unusedVariables false
set_option linter.unusedSimpArgs false
namespace Go.Proofs.YtgjncgiekniniaaGreatDoor.A
open Go
abbrev LB : Nat := 18446744073709551616
abbrev lb (n : Nat) : List Int := toB LB n
theorem bL : 2 ≤ LB := by decide
theorem lb_len0 (n : Nat) : (((lb n).length : Nat) : Int) = 0 ↔ n = 0 := by
  constructor
  · intro h; exact (toB_nil bL).1 (List.length_eq_zero_iff.1 (Int.ofNat_eq_zero.1 h))
  · rintro rfl; simp [lb, toB_zero]
theorem nat_Zero (n : Nat) : z20.F (lb n) = some (decide (n = 0)) := by
  unfold z20.F; congr 1; exact decide_eq_decide.2 (lb_len0 n)
theorem nat_limb {l : List Int} {i : Nat} : z23.F l (i : Int) = some (l.getD i 0) := by
  unfold z23.F
  by_cases h : (i : Int) ≥ (l.length : Int)
  · rw [bif_t h]
    have : l.getD i 0 = 0 := by simp [List.getD, List.getElem?_eq_none (show l.length ≤ i by omega)]
    rw [this]
  · rw [bif_f h, if_pos (by omega), Int.toNat_natCast]
theorem nat_trim {l : List Int} (hl : inB LB l) (hs : short l) : z24.F l = some (lb (valB LB l).toNat) := by
  have h := ref01_Trim_gen bL hl hs
  unfold z15.F at h
  unfold z24.F
  have e : z24.l0b6 l = z15.l0b6 l := rfl
  rw [e]
  revert h
  cases z15.l0b6 l ((l.length : Nat) : Int) with
  | none => exact id
  | some o =>
    simp only [Option.bind_some]
    intro h
    split at h
    · rename_i hc
      rw [if_pos ⟨hc.1, Int.le_refl _, hc.2⟩]; exact h
    · simp at h
theorem cmp_int (x y : Int) : z27.F x y = some (cmpI x y) := by
  unfold z27.F z26.F cmpI
  simp only [Option.bind_some, decide_true, Bool.not_true, cond_false]
  by_cases h : x < y
  · rw [bif_t h, if_pos h]
  · rw [bif_f h, if_neg h]
    by_cases h' : x > y
    · rw [bif_t h', if_neg (by omega)]
    · rw [bif_f h', if_pos (by omega)]
theorem cmp_u64 (x y : Int) : z29.F x y = some (cmpI x y) := cmp_int x y
theorem natcmp_loop {a b : List Int} (ha : inB LB a) (hb : inB LB b) (hl : a.length = b.length) (hal : a.length ≤ 900000000) : ∀ k : Nat, k ≤ a.length →
    ∃ o : Int ⊕ Int, Runs (fun rec x => z30.l0P a b rec some x) ((k : Int) - 1) o ∧ (match o with | .inl _ => (0 : Int) | .inr q => q) = cmpI (valB LB (a.take k)) (valB LB (b.take k))
  | 0, _ => ⟨.inl (-1), .done fun rec => by unfold z30.l0P; rw [bif_f (by omega)]; rfl, by simp [cmpI, valB]⟩
  | k + 1, hk => by
    have hka : k < a.length := by omega
    have hkb : k < b.length := by omega
    have e0 : ((k + 1 : Nat) : Int) - 1 = (k : Int) := by omega
    obtain ⟨p1, p2⟩ := cmp_part bL ha hb hka hkb
    obtain ⟨p3, _⟩ := cmp_part bL hb ha hkb hka
    have c1 : (0 : Int) ≤ (k : Int) ∧ (k : Int) < (a.length : Int) := by omega
    have c2 : (0 : Int) ≤ (k : Int) ∧ (k : Int) < (b.length : Int) := by omega
    rw [e0]
    by_cases h : a[k] = b[k]
    · obtain ⟨o, r1, r2⟩ := natcmp_loop ha hb hl hal k (by omega)
      refine ⟨o, .step (fun rec => ?_) r1, ?_⟩
      · unfold z30.l0P
        rw [bif_t (by omega), Int.toNat_natCast, getD_eq hka, getD_eq hkb, if_pos c1, if_pos c2, cmp_u64]
        simp only [Option.bind_some]
        have : cmpI a[k] b[k] = 0 := by unfold cmpI; rw [if_neg (by omega), if_pos h]
        rw [this, wr_i64 (by omega) (by omega)]
        rfl
      · rw [r2]
        have := p2 h
        unfold cmpI
        split <;> split <;> (try split) <;> (try split) <;> first | rfl | omega
    · refine ⟨.inr (cmpI a[k] b[k]), .done fun rec => ?_, ?_⟩
      · unfold z30.l0P
        rw [bif_t (by omega), Int.toNat_natCast, getD_eq hka, getD_eq hkb, if_pos c1, if_pos c2, cmp_u64]
        simp only [Option.bind_some]
        have : ¬ cmpI a[k] b[k] = 0 := by unfold cmpI; split <;> (try split) <;> omega
        rw [decide_eq_false this]
        rfl
      · rcases Int.lt_or_gt_of_ne h with h' | h'
        · have := p1 h'
          unfold cmpI; rw [if_pos h', if_pos this]
        · have := p3 h'
          unfold cmpI; rw [if_neg (by omega), if_neg (by omega), if_neg (by omega), if_neg (by omega)]
theorem nat_Cmp {m n : Nat} (hl : (lb m).length ≤ 900000000) : z30.F (lb m) (lb n) = some (cmpI m n) := by
  unfold z30.F
  rw [cmp_int]
  simp only [Option.bind_some]
  by_cases he : (lb m).length = (lb n).length
  · have e1 : cmpI ((lb m).length : Int) ((lb n).length : Int) = 0 := by unfold cmpI; rw [if_neg (by omega), if_pos (by omega)]
    rw [e1]
    simp only [decide_true, Bool.not_true, cond_false]
    obtain ⟨o, r1, r2⟩ := natcmp_loop (a := lb m) (b := lb n) (toB_in bL m) (toB_in bL n) he hl (lb m).length (Nat.le_refl _)
    rw [wr_i64 (by omega) (by omega)]
    unfold z30.l0
    rw [r1.lfp]
    simp only [Option.bind_some]
    rw [List.take_length, he, List.take_length, valB_toB bL, valB_toB bL] at r2
    rw [← r2]
    cases o <;> rfl
  · rcases Nat.lt_or_gt_of_ne he with h | h
    · have := toB_lt_of_len bL h
      have e1 : cmpI ((lb m).length : Int) ((lb n).length : Int) = -1 := by unfold cmpI; rw [if_pos (by omega)]
      have e2 : cmpI (m : Int) n = -1 := by unfold cmpI; rw [if_pos (by omega)]
      rw [e1, e2]; rfl
    · have := toB_lt_of_len bL h
      have e1 : cmpI ((lb m).length : Int) ((lb n).length : Int) = 1 := by unfold cmpI; rw [if_neg (by omega), if_neg (by omega)]
      have e2 : cmpI (m : Int) n = 1 := by unfold cmpI; rw [if_neg (by omega), if_neg (by omega)]
      rw [e1, e2]; rfl
end Go.Proofs.YtgjncgiekniniaaGreatDoor.A
end
section
set_option linter.unusedVariables false
set_option linter.unusedSimpArgs false
namespace Go.Proofs.YtgjncgiekniniaaGreatDoor.A
open Go
theorem and_mask (a : Int) (h0 : 0 ≤ a) : wr .u64 ((BitVec.ofInt (IntKind.bits .u64) a &&& BitVec.ofInt (IntKind.bits .u64) (4294967295 : Int)).toNat : Int) = a % 4294967296 := by
  have e : (BitVec.ofInt (IntKind.bits .u64) a &&& BitVec.ofInt (IntKind.bits .u64) (4294967295 : Int)).toNat = (a % 4294967296).toNat := by
    rw [BitVec.toNat_and]
    have e1 : (BitVec.ofInt (IntKind.bits .u64) (4294967295 : Int)).toNat = 2 ^ 32 - 1 := rfl
    have e2 : (BitVec.ofInt (IntKind.bits .u64) a).toNat = (a % 18446744073709551616).toNat := by
      rw [BitVec.toNat_ofInt]; rfl
    rw [e1, Nat.and_two_pow_sub_one_eq_mod, e2]
    omega
  rw [e, wr_u64 (by omega) (by omega)]; omega
theorem shr32 (a : Int) : Int.fdiv a (2 ^ (min 32 (64 : Nat))) = a / 4294967296 := by
  rw [Int.fdiv_eq_ediv_of_nonneg _ (by decide)]; rfl
theorem mul64 {a b : Int} (ha : 0 ≤ a ∧ a < 18446744073709551616) (hb : 0 ≤ b ∧ b < 18446744073709551616) : z40.F a b = some (a * b / 18446744073709551616, a * b % 18446744073709551616) := by
  unfold z40.F
  simp only [shr32]
  rw [and_mask a ha.1, and_mask b hb.1]
  generalize hx1 : a / 4294967296 = x1
  generalize hx0 : a % 4294967296 = x0
  generalize hy1 : b / 4294967296 = y1
  generalize hy0 : b % 4294967296 = y0
  have ea : a = 4294967296 * x1 + x0 := by omega
  have eb : b = 4294967296 * y1 + y0 := by omega
  have bx1 : 0 ≤ x1 ∧ x1 ≤ 4294967295 := by omega
  have bx0 : 0 ≤ x0 ∧ x0 ≤ 4294967295 := by omega
  have by1 : 0 ≤ y1 ∧ y1 ≤ 4294967295 := by omega
  have by0 : 0 ≤ y0 ∧ y0 ≤ 4294967295 := by omega
  have m00 : 0 ≤ x0 * y0 ∧ x0 * y0 ≤ 4294967295 * 4294967295 := ⟨Int.mul_nonneg bx0.1 by0.1, Int.mul_le_mul bx0.2 by0.2 by0.1 (by decide)⟩
  have m10 : 0 ≤ x1 * y0 ∧ x1 * y0 ≤ 4294967295 * 4294967295 := ⟨Int.mul_nonneg bx1.1 by0.1, Int.mul_le_mul bx1.2 by0.2 by0.1 (by decide)⟩
  have m01 : 0 ≤ x0 * y1 ∧ x0 * y1 ≤ 4294967295 * 4294967295 := ⟨Int.mul_nonneg bx0.1 by1.1, Int.mul_le_mul bx0.2 by1.2 by1.1 (by decide)⟩
  have m11 : 0 ≤ x1 * y1 ∧ x1 * y1 ≤ 4294967295 * 4294967295 := ⟨Int.mul_nonneg bx1.1 by1.1, Int.mul_le_mul bx1.2 by1.2 by1.1 (by decide)⟩
  have eab : a * b = 18446744073709551616 * (x1 * y1) + 4294967296 * (x1 * y0) + 4294967296 * (x0 * y1) + x0 * y0 := by rw [ea, eb]; grind
  rw [eab]
  generalize x0 * y0 = p00 at *
  generalize x1 * y0 = p10 at *
  generalize x0 * y1 = p01 at *
  generalize x1 * y1 = p11 at *
  rw [wr_u64 (n := p00) (by omega) (by omega), wr_u64 (n := p10) (by omega) (by omega), wr_u64 (n := p01) (by omega) (by omega), wr_u64 (n := p11) (by omega) (by omega)]
  rw [wr_u64 (n := p10 + p00 / 4294967296) (by omega) (by omega)]
  rw [and_mask _ (by omega)]
  rw [wr_u64 (n := p11 + (p10 + p00 / 4294967296) / 4294967296) (by omega) (by omega)]
  rw [wr_u64 (n := (p10 + p00 / 4294967296) % 4294967296 + p01) (by omega) (by omega)]
  rw [wr_u64 (n := p11 + (p10 + p00 / 4294967296) / 4294967296 + ((p10 + p00 / 4294967296) % 4294967296 + p01) / 4294967296) (by omega) (by omega)]
  rw [wr_u64_mod]
  congr 2; omega
theorem add64 {x y c : Int} (hx : 0 ≤ x) (hy : 0 ≤ y) (hc : 0 ≤ c ∧ c ≤ 1) : z0.F x y c = some ((x + y + c) % 18446744073709551616, (x + y + c) / 18446744073709551616) := by
  unfold z0.F; rw [if_pos (by omega)]
end Go.Proofs.YtgjncgiekniniaaGreatDoor.A
end
section
set_option linter.unusedVariables false
set_option linter.unusedSimpArgs false
namespace Go.Proofs.YtgjncgiekniniaaGreatDoor.A
open Go
theorem getD_set_ne {s : List Int} {i j : Nat} {x : Int} (h : i ≠ j) : (s.set i x).getD j 0 = s.getD j 0 := by
  simp [List.getD, List.getElem?_set_ne h]
theorem getD_replicate (n j : Nat) : (List.replicate n (0 : Int)).getD j 0 = 0 := by
  simp only [List.getD, List.getElem?_replicate]; split <;> rfl
theorem natadd_loop {a b : List Int} {n : Nat} (ha : inB LB a) (hb : inB LB b) (hn : n ≤ 900000000) (han : a.length < n) (hbn : b.length < n) :
    ∀ (f i : Nat) (c : Int) (s : List Int), i + f = n → s.length = n → inB LB s → (∀ j, i ≤ j → s.getD j 0 = 0) → 0 ≤ c ∧ c ≤ 1 →
      valB LB s + (c + valB LB (a.drop i) + valB LB (b.drop i)) * (LB ^ i : Nat) = valB LB a + valB LB b →
      ∃ c' s', Runs (fun rec x => z25.l0P (n : Int) a b rec some x) (c, (i : Int), s) (c', (n : Int), s') ∧ inB LB s' ∧ s'.length = n ∧ (0 ≤ c' ∧ c' ≤ 1) ∧ valB LB s' + c' * (LB ^ n : Nat) = valB LB a + valB LB b
  | 0, i, c, s, hf, hl, hs, hz, hc, hv => by
    have : i = n := by omega
    subst this
    refine ⟨c, s, .done fun rec => ?_, hs, hl, hc, ?_⟩
    · unfold z25.l0P
      simp only
      rw [bif_f (by omega)]
    · rw [List.drop_eq_nil_of_le (by omega), List.drop_eq_nil_of_le (by omega)] at hv
      simpa [valB] using hv
  | f + 1, i, c, s, hf, hl, hs, hz, hc, hv => by
    have hLB : ((LB : Nat) : Int) = 18446744073709551616 := rfl
    have h1 := getD_in (B := LB) (by decide) ha i
    have h2 := getD_in (B := LB) (by decide) hb i
    have hi : i < s.length := by omega
    obtain ⟨c', s', r1, r2, r3, r4, r5⟩ := natadd_loop ha hb hn han hbn f (i + 1) ((a.getD i 0 + b.getD i 0 + c) / 18446744073709551616) (s.set i ((a.getD i 0 + b.getD i 0 + c) % 18446744073709551616)) (by omega) (by simp [hl]) (inB_set hs (by omega))
      (fun j hj => by rw [getD_set_ne (by omega)]; exact hz j (by omega)) (by omega) (by
        rw [valB_set hi, hz i (Nat.le_refl _), ← hv, valB_drop a i, valB_drop b i, Nat.pow_succ, Nat.mul_comm (LB ^ i) LB, Int.natCast_mul]
        generalize hx : a.getD i 0 + b.getD i 0 + c = x
        have e2 : x = 18446744073709551616 * (x / 18446744073709551616) + x % 18446744073709551616 := (Int.mul_ediv_add_emod x _).symm
        have e3 : ((LB : Nat) : Int) = 18446744073709551616 := rfl
        rw [e3]
        generalize x / 18446744073709551616 = q at *
        generalize x % 18446744073709551616 = m at *
        subst e2
        generalize ((LB ^ i : Nat) : Int) = p
        generalize valB LB (a.drop (i + 1)) = w
        generalize valB LB (b.drop (i + 1)) = w'
        generalize a.getD i 0 = u at *
        generalize b.getD i 0 = v at *
        have hc' : c = 18446744073709551616 * q + m - u - v := by omega
        subst hc'
        grind)
    refine ⟨c', s', .step (fun rec => ?_) r1, r2, r3, r4, r5⟩
    unfold z25.l0P
    simp only [nat_limb, Option.bind_some]
    rw [bif_t (by omega), add64 h1.1 h2.1 hc]
    simp only [Option.bind_some]
    rw [if_pos (by omega), Int.toNat_natCast, if_pos hi, wr_i64 (by omega) (by omega)]
    rfl
theorem lb_lt {n k : Nat} (h : (lb n).length ≤ k) : n < LB ^ k := Nat.lt_of_lt_of_le (toB_len_lt bL) (Nat.pow_le_pow_right (by decide) h)
theorem nat_Add {m n : Nat} (hl : (lb m).length + (lb n).length ≤ 800000000) : z25.F (lb m) (lb n) = some (lb (m + n)) := by
  unfold z25.F
  generalize hk : max (lb m).length (lb n).length = k
  have e0 : (if (((lb n).length : Nat) : Int) > (((lb m).length : Nat) : Int) then (((lb n).length : Nat) : Int) else (((lb m).length : Nat) : Int)) = (k : Int) := by split <;> omega
  have e1 : wr .i64 ((k : Int) + 1) = ((k + 1 : Nat) : Int) := by rw [wr_i64 (by omega) (by omega)]; omega
  rw [e0, e1, if_pos (by omega), Int.toNat_natCast, List.length_replicate]
  obtain ⟨c', s', r1, r2, r3, r4, r5⟩ := natadd_loop (a := lb m) (b := lb n) (n := k + 1) (toB_in bL m) (toB_in bL n) (by omega) (by omega) (by omega) (k + 1) 0 0 (List.replicate (k + 1) 0) (by omega) (by simp) (inB_replicate (by decide) _)
    (fun j _ => getD_replicate _ j) (by omega) (by rw [valB_replicate]; simp)
  have e : z25.l0 ((k + 1 : Nat) : Int) (lb m) (lb n) ((0 : Int), (0 : Int), List.replicate (k + 1) 0) = some (c', ((k + 1 : Nat) : Int), s') := r1.lfp
  rw [e]
  simp only [Option.bind_some]
  rw [valB_toB bL, valB_toB bL] at r5
  have hm : m < LB ^ k := lb_lt (by omega)
  have hn : n < LB ^ k := lb_lt (by omega)
  have hc : c' = 0 := by
    rcases (show c' = 0 ∨ c' = 1 by omega) with h | h
    · exact h
    · exfalso
      subst h
      have := valB_nonneg r2
      have e3 : ((LB ^ (k + 1) : Nat) : Int) = (LB ^ k : Nat) * 18446744073709551616 := by rw [Nat.pow_succ, Int.natCast_mul]; rfl
      rw [e3] at r5
      omega
  subst hc
  rw [nat_trim r2 (by show List.length _ ≤ _; omega)]
  simp only [Option.bind_some]
  congr 2; omega
theorem natsub_loop {a b : List Int} (ha : inB LB a) (hb : inB LB b) (hal : a.length ≤ 900000000) :
    ∀ (f i : Nat) (c : Int) (s : List Int), i + f = a.length → s.length = a.length → inB LB s → (∀ j, i ≤ j → s.getD j 0 = 0) → 0 ≤ c ∧ c ≤ 1 →
      valB LB s - c * (LB ^ i : Nat) = valB LB (a.take i) - valB LB (b.take i) →
      ∃ c' s', Runs (fun rec x => z31.l0P (a.length : Int) a b rec some x) (c, (i : Int), s) (c', (a.length : Int), s') ∧ inB LB s' ∧ s'.length = a.length ∧ (0 ≤ c' ∧ c' ≤ 1) ∧ valB LB s' - c' * (LB ^ a.length : Nat) = valB LB a - valB LB (b.take a.length)
  | 0, i, c, s, hf, hl, hs, hz, hc, hv => by
    have : i = a.length := by omega
    subst this
    refine ⟨c, s, .done fun rec => ?_, hs, hl, hc, by rwa [List.take_length] at hv⟩
    unfold z31.l0P
    simp only
    rw [bif_f (by omega)]
  | f + 1, i, c, s, hf, hl, hs, hz, hc, hv => by
    have hi : i < a.length := by omega
    have his : i < s.length := by omega
    have hLB : ((LB : Nat) : Int) = 18446744073709551616 := rfl
    have h1 := getD_in (B := LB) (by decide) ha i
    have h2 := getD_in (B := LB) (by decide) hb i
    have eb : valB LB (b.take (i + 1)) = valB LB (b.take i) + (LB ^ i : Nat) * b.getD i 0 := by
      by_cases hb' : i < b.length
      · rw [valB_take_succ hb', getD_eq hb']
      · rw [List.take_of_length_le (by omega), List.take_of_length_le (by omega)]
        simp [List.getD, List.getElem?_eq_none (show b.length ≤ i by omega)]
    have hsub : z1.F (a.getD i 0) (b.getD i 0) c = some ((a.getD i 0 - b.getD i 0 - c) % 18446744073709551616, if a.getD i 0 < b.getD i 0 + c then 1 else 0) := by
      unfold z1.F; rw [if_pos (by omega)]
    obtain ⟨c', s', r1, r2, r3, r4, r5⟩ := natsub_loop ha hb hal f (i + 1) (if a.getD i 0 < b.getD i 0 + c then 1 else 0) (s.set i ((a.getD i 0 - b.getD i 0 - c) % 18446744073709551616)) (by omega) (by simp [hl]) (inB_set hs (by omega))
      (fun j hj => by rw [getD_set_ne (by omega)]; exact hz j (by omega)) (by split <;> omega) (by
        rw [valB_set his, hz i (Nat.le_refl _), valB_take_succ hi, eb, Nat.pow_succ, Nat.mul_comm (LB ^ i) LB, Int.natCast_mul, ← getD_eq hi]
        have e3 : ((LB : Nat) : Int) = 18446744073709551616 := rfl
        rw [e3]
        have e4 : (a.getD i 0 - b.getD i 0 - c) % 18446744073709551616 = a.getD i 0 - b.getD i 0 - c + (if a.getD i 0 < b.getD i 0 + c then 1 else 0) * 18446744073709551616 := by split <;> omega
        rw [e4]
        generalize (if a.getD i 0 < b.getD i 0 + c then (1 : Int) else 0) = q
        generalize ((LB ^ i : Nat) : Int) = p at *
        grind)
    refine ⟨c', s', .step (fun rec => ?_) r1, r2, r3, r4, r5⟩
    unfold z31.l0P
    simp only [nat_limb, Option.bind_some]
    rw [bif_t (by omega), if_pos (by omega), Int.toNat_natCast, hsub]
    simp only [Option.bind_some]
    rw [if_pos (by omega), if_pos his, wr_i64 (by omega) (by omega)]
    rfl
theorem nat_Sub {m n : Nat} (hl : (lb m).length ≤ 800000000) : z31.F (lb m) (lb n) = some (if n ≤ m then (lb (m - n), true) else ([], false)) := by
  unfold z31.F
  rw [nat_Cmp (by omega)]
  simp only [Option.bind_some]
  by_cases h : n ≤ m
  · have h0 : ¬ cmpI (m : Int) n < 0 := by unfold cmpI; split <;> (try split) <;> omega
    rw [bif_f h0, if_pos h, if_pos (by omega), Int.toNat_natCast, List.length_replicate]
    obtain ⟨c', s', r1, r2, r3, r4, r5⟩ := natsub_loop (a := lb m) (b := lb n) (toB_in bL m) (toB_in bL n) (by omega) (lb m).length 0 0 (List.replicate (lb m).length 0) (by omega) (by simp) (inB_replicate (by decide) _)
      (fun j _ => getD_replicate _ j) (by omega) (by rw [valB_replicate]; simp [valB])
    have hlen : (lb n).length ≤ (lb m).length := by
      rcases Nat.lt_or_ge (lb m).length (lb n).length with h' | h'
      · have := toB_lt_of_len bL h'; omega
      · exact h'
    rw [List.take_of_length_le hlen, valB_toB bL, valB_toB bL] at r5
    have h1 := valB_lt bL r2
    rw [r3] at h1
    have hc : c' = 0 := by
      rcases (show c' = 0 ∨ c' = 1 by omega) with h | h
      · exact h
      · subst h; omega
    subst hc
    have e : z31.l0 ((lb m).length : Int) (lb m) (lb n) ((0 : Int), (0 : Int), List.replicate (lb m).length 0) = some ((0 : Int), ((lb m).length : Int), s') := r1.lfp
    rw [e]
    simp only [Option.bind_some]
    rw [nat_trim r2 (by show List.length _ ≤ _; omega)]
    simp only [Option.bind_some]
    congr 3; omega
  · have h0 : cmpI (m : Int) n < 0 := by unfold cmpI; rw [if_pos (by omega)]; decide
    rw [bif_t h0, if_neg h]
end Go.Proofs.YtgjncgiekniniaaGreatDoor.A
end
section
set_option linter.unusedVariables false
set_option linter.unusedSimpArgs false
namespace Go.Proofs.YtgjncgiekniniaaGreatDoor.A
open Go
theorem nat_Of_gen {l : List Int} (hl : inB LB l) (hs : short l) : z39.F l = some (lb (valB LB l).toNat) := by
  have hs' : l.length ≤ 1000000000 := hs
  unfold z39.F
  rw [if_pos (by omega), nat_trim hl hs]; rfl
theorem nat_Of1 {x : Int} (h : 0 ≤ x ∧ x < 18446744073709551616) : z39.F [x] = some (lb x.toNat) := by
  rw [nat_Of_gen (inB_cons.2 ⟨h, inB_nil _⟩) (by show [x].length ≤ _; simp)]
  simp [valB]
theorem nat_Limbs {l : List Int} (hs : short l) : z61.F l = some l := by
  have hs' : l.length ≤ 1000000000 := hs
  unfold z61.F
  rw [if_pos (by omega)]
theorem natmul_inner {x : Int} {a : List Int} {off tot : Nat} (hx : 0 ≤ x ∧ x < 18446744073709551616) (ha : inB LB a) (ht : tot ≤ 1800000000) (hot : off + a.length < tot) :
    ∀ (f i : Nat) (c : Int) (s : List Int), i + f = a.length → s.length = tot → inB LB s → 0 ≤ c ∧ c < 18446744073709551616 →
      ∃ c' s', Runs (fun rec y => z41.l0aP x off (tot - off) a (a.length : Int) rec some y) (c, (i : Int), s) (c', (a.length : Int), s') ∧ inB LB s' ∧ s'.length = tot ∧ (0 ≤ c' ∧ c' < 18446744073709551616) ∧
        (∀ j, off + a.length ≤ j → s'.getD j 0 = s.getD j 0) ∧ valB LB s' + c' * (LB ^ (off + a.length) : Nat) = valB LB s + (c + x * valB LB (a.drop i)) * (LB ^ (off + i) : Nat)
  | 0, i, c, s, hf, hl, hs, hc => by
    have : i = a.length := by omega
    subst this
    refine ⟨c, s, .done fun rec => ?_, hs, hl, hc, fun j _ => rfl, ?_⟩
    · unfold z41.l0aP
      simp only
      rw [bif_f (by omega)]
    · rw [List.drop_eq_nil_of_le (Nat.le_refl _)]; simp [valB]
  | f + 1, i, c, s, hf, hl, hs, hc => by
    have hi : i < a.length := by omega
    have his : off + i < s.length := by omega
    have h1 := getD_in (B := LB) (by decide) ha i
    have h2 := getD_in (B := LB) (by decide) hs (off + i)
    have h1' : 0 ≤ a.getD i 0 ∧ a.getD i 0 < 18446744073709551616 := h1
    have h2' : 0 ≤ s.getD (off + i) 0 ∧ s.getD (off + i) 0 < 18446744073709551616 := h2
    have hp : 0 ≤ x * a.getD i 0 ∧ x * a.getD i 0 ≤ 18446744073709551615 * 18446744073709551615 := ⟨Int.mul_nonneg hx.1 h1'.1, Int.mul_le_mul (by omega) (by omega) h1'.1 (by decide)⟩
    obtain ⟨c', s', r1, r2, r3, r4, r5, r6⟩ := natmul_inner hx ha ht hot f (i + 1) ((x * a.getD i 0 + c + s.getD (off + i) 0) / 18446744073709551616) (s.set (off + i) ((x * a.getD i 0 + c + s.getD (off + i) 0) % 18446744073709551616))
      (by omega) (by simp [hl]) (inB_set hs (by show 0 ≤ _ ∧ _ < (18446744073709551616 : Int); omega)) (by omega)
    refine ⟨c', s', .step (fun rec => ?_) r1, r2, r3, r4, fun j hj => ?_, ?_⟩
    · unfold z41.l0aP
      simp only
      rw [bif_t (by omega), if_pos (by omega), Int.toNat_natCast, mul64 hx h1']
      simp only [Option.bind_some]
      rw [add64 (by omega) hc.1 (by omega)]
      simp only [Option.bind_some]
      rw [if_pos (by omega), if_pos his, add64 h2'.1 (by omega) (by omega)]
      simp only [Option.bind_some]
      rw [if_pos (by omega), if_pos his]
      generalize x * a.getD i 0 = p at hp ⊢
      generalize s.getD (off + i) 0 = u at h2' ⊢
      rw [wr_u64 (n := p / 18446744073709551616 + _) (by omega) (by omega), wr_u64 (by omega) (by omega), wr_i64 (by omega) (by omega)]
      congr 2
      · omega
      · congr 2; omega
    · rw [r5 j hj, getD_set_ne (by omega)]
    · rw [r6, valB_set his, valB_drop a i]
      have e1 : ((LB ^ (off + (i + 1)) : Nat) : Int) = 18446744073709551616 * (LB ^ (off + i) : Nat) := by
        rw [← Nat.add_assoc, Nat.pow_succ, Nat.mul_comm, Int.natCast_mul]; rfl
      rw [e1]
      have e3 : ((LB : Nat) : Int) = 18446744073709551616 := rfl
      rw [e3]
      generalize hy : x * a.getD i 0 + c + s.getD (off + i) 0 = y
      have e2 : y = 18446744073709551616 * (y / 18446744073709551616) + y % 18446744073709551616 := (Int.mul_ediv_add_emod y _).symm
      generalize y / 18446744073709551616 = q at *
      generalize y % 18446744073709551616 = m at *
      generalize ((LB ^ (off + i) : Nat) : Int) = p
      generalize valB LB (a.drop (i + 1)) = w
      generalize valB LB s = z
      generalize s.getD (off + i) 0 = u at *
      generalize a.getD i 0 = v at *
      have hc' : c = 18446744073709551616 * q + m - u - x * v := by omega
      subst hc'
      grind
theorem natmul_outer {a b : List Int} {tot : Nat} (ha : inB LB a) (hb : inB LB b) (ht : tot ≤ 1800000000) (hab : tot = a.length + b.length + 1) :
    ∀ (f i : Nat) (s : List Int), i + f = b.length → s.length = tot → inB LB s → (∀ j, i + a.length ≤ j → s.getD j 0 = 0) → valB LB s = valB LB a * valB LB (b.take i) →
      ∃ s', Runs (fun rec y => z41.l0P b (b.length : Int) a rec some y) ((i : Int), s) ((b.length : Int), s') ∧ inB LB s' ∧ s'.length = tot ∧ valB LB s' = valB LB a * valB LB b
  | 0, i, s, hf, hl, hs, hz, hv => by
    have : i = b.length := by omega
    subst this
    refine ⟨s, .done fun rec => ?_, hs, hl, by rwa [List.take_length] at hv⟩
    unfold z41.l0P
    simp only
    rw [bif_f (by omega)]
  | f + 1, i, s, hf, hl, hs, hz, hv => by
    have hi : i < b.length := by omega
    have hx := getD_in (B := LB) (by decide) hb i
    have hx' : 0 ≤ b.getD i 0 ∧ b.getD i 0 < 18446744073709551616 := hx
    obtain ⟨c, s1, r1, r2, r3, r4, r5, r6⟩ := natmul_inner (x := b.getD i 0) (a := a) (off := i) (tot := tot) hx' ha ht (by omega) a.length 0 0 s (by omega) hl hs (by omega)
    have e0 : z41.l0a (b.getD i 0) i (tot - i) a (a.length : Int) ((0 : Int), (0 : Int), s) = some (c, (a.length : Int), s1) := r1.lfp
    have hz1 : s1.getD (i + a.length) 0 = 0 := by rw [r5 _ (Nat.le_refl _)]; exact hz _ (Nat.le_refl _)
    have hi1 : i + a.length < s1.length := by omega
    obtain ⟨s', q1, q2, q3, q4⟩ := natmul_outer ha hb ht hab f (i + 1) (s1.set (i + a.length) c) (by omega) (by simp [r3]) (inB_set r2 r4)
      (fun j hj => by rw [getD_set_ne (by omega), r5 j (by omega)]; exact hz j (by omega)) (by
        rw [valB_set hi1, hz1, valB_take_succ hi, Int.mul_add, ← hv, ← getD_eq hi]
        simp only [List.drop_zero, Nat.add_zero, Int.zero_add] at r6
        generalize ((LB ^ (i + a.length) : Nat) : Int) = p at *
        generalize ((LB ^ i : Nat) : Int) = p2 at *
        grind)
    refine ⟨s', .step (fun rec => ?_) q1, q2, q3, q4⟩
    unfold z41.l0P
    simp only
    rw [bif_t (by omega), if_pos (by omega), if_pos (by omega), Int.toNat_natCast, hl, e0]
    simp only [Option.bind_some, Int.toNat_natCast]
    rw [if_pos (by omega), if_pos hi1, if_pos (by omega), if_pos hi1, hz1, wr_i64 (by omega) (by omega), wr_u64 (by omega) (by omega), Int.zero_add]
    rfl
theorem nat_Mul_gen {a b : List Int} (ha : inB LB a) (hb : inB LB b) (hl : a.length + b.length ≤ 800000000) : z41.F a b = some (lb (valB LB a * valB LB b).toNat) := by
  obtain ⟨s', r1, r2, r3, r4⟩ := natmul_outer (tot := a.length + b.length + 1) ha hb (by omega) rfl b.length 0 (List.replicate (a.length + b.length + 1) 0) (by omega) (by simp) (inB_replicate (by decide) _)
    (fun j _ => getD_replicate _ j) (by rw [valB_replicate]; simp [valB])
  have e0 : z41.l0 b (b.length : Int) a ((0 : Int), List.replicate (a.length + b.length + 1) 0) = some ((b.length : Int), s') := r1.lfp
  have e1 : wr .i64 (wr .i64 ((a.length : Int) + (b.length : Int)) + 1) = ((a.length + b.length + 1 : Nat) : Int) := by
    rw [wr_i64 (n := (a.length : Int) + (b.length : Int)) (by omega) (by omega), wr_i64 (by omega) (by omega)]; omega
  unfold z41.F
  rw [e1, if_pos (by omega), Int.toNat_natCast, e0]
  simp only [Option.bind_some]
  rw [nat_trim r2 (by show List.length _ ≤ _; omega), r4]
  rfl
theorem nat_Mul {m n : Nat} (hl : (lb m).length + (lb n).length ≤ 800000000) : z41.F (lb m) (lb n) = some (lb (m * n)) := by
  rw [nat_Mul_gen (toB_in bL m) (toB_in bL n) hl, valB_toB bL, valB_toB bL]
  congr 2
end Go.Proofs.YtgjncgiekniniaaGreatDoor.A
end
section
set_option linter.unusedVariables false
set_option linter.unusedSimpArgs false
namespace Go.Proofs.YtgjncgiekniniaaGreatDoor.A
open Go
theorem whole_Of (n : Nat) (b : Bool) : z22.F (lb n) b = some (lb n, b && decide (0 < n)) := by
  unfold z22.F
  cases b
  · rfl
  · rw [nat_Zero]
    simp only [cond_true, Bool.true_and, Option.bind_some]
    congr 2
    by_cases h : n = 0
    · subst h; rfl
    · rw [decide_eq_false h, decide_eq_true (by omega : 0 < n)]; rfl
theorem whole_Of' {z : Int} {b : Bool} (h : (b = true ∧ z ≤ 0) ∨ (b = false ∧ 0 ≤ z)) : z22.F (lb z.natAbs) b = some (lb z.natAbs, neg z) := by
  rw [whole_Of]
  congr 2
  rcases h with ⟨rfl, h⟩ | ⟨rfl, h⟩
  · rw [Bool.true_and]; exact decide_eq_decide.2 (by omega)
  · rw [Bool.false_and]; symm; exact decide_eq_false (by omega)
theorem whole_at {z : Int} {n : Nat} {b : Bool} (hn : n = z.natAbs) (h : (b = true ∧ z ≤ 0) ∨ (b = false ∧ 0 ≤ z)) : z22.F (lb n) b = some (lb z.natAbs, neg z) := by
  subst hn; exact whole_Of' h
theorem whole_From {z : Int} (h : -9223372036854775808 ≤ z ∧ z < 9223372036854775808) : z49.F z = some (lb z.natAbs, neg z) := by
  unfold z49.F
  by_cases hz : z < 0
  · have e : wr .u64 (0 - wr .u64 z) = ((z.natAbs : Nat) : Int) := by rw [wr_u64_mod z, wr_u64_mod]; omega
    rw [bif_t hz, e, nat_Of1 (by omega)]
    simp only [Option.bind_some, Int.toNat_natCast]
    rw [whole_Of' (z := z) (.inl ⟨rfl, by omega⟩)]; rfl
  · have e : wr .u64 z = ((z.natAbs : Nat) : Int) := by rw [wr_u64 (by omega) (by omega)]; omega
    rw [bif_f hz, e, nat_Of1 (by omega)]
    simp only [Option.bind_some, Int.toNat_natCast]
    rw [whole_Of' (z := z) (.inr ⟨rfl, by omega⟩)]; rfl
theorem whole_Neg (z : Int) : z33.F (lb z.natAbs) (neg z) = some (lb (-z).natAbs, neg (-z)) := by
  unfold z33.F
  rw [whole_at (z := -z) (by omega) (by by_cases h : z < 0; exact .inr ⟨by simp [neg, h], by omega⟩; exact .inl ⟨by simp [neg, h], by omega⟩)]
  rfl
theorem whole_Sign (z : Int) : z21.F (lb z.natAbs) (neg z) = some (cmpI z 0) := by
  unfold z21.F cmpI
  rw [nat_Zero]
  simp only [Option.bind_some]
  by_cases h0 : z = 0
  · subst h0; rfl
  · rw [bif_f (by omega)]
    by_cases h : z < 0
    · rw [bif_t h, if_pos h]
    · rw [bif_f h, if_neg h, if_neg h0]
theorem whole_Add {x y : Int} (hl : (lb x.natAbs).length + (lb y.natAbs).length ≤ 800000000) : z32.F (lb x.natAbs) (neg x) (lb y.natAbs) (neg y) = some (lb (x + y).natAbs, neg (x + y)) := by
  unfold z32.F
  by_cases hs : neg x = neg y
  · have hs' : (x < 0 ↔ y < 0) := by simpa [neg] using hs
    rw [bif_t hs, nat_Add hl]
    simp only [Option.bind_some]
    rw [whole_at (z := x + y) (by omega) (by by_cases hx : x < 0; exact .inl ⟨decide_eq_true hx, by omega⟩; exact .inr ⟨decide_eq_false hx, by omega⟩)]
    rfl
  · have hs' : ¬ (x < 0 ↔ y < 0) := by simpa [neg] using hs
    rw [bif_f hs, nat_Sub (by omega)]
    simp only [Option.bind_some]
    by_cases hc : y.natAbs ≤ x.natAbs
    · rw [if_pos hc]
      simp only [cond_true]
      rw [whole_at (z := x + y) (by omega) (by by_cases hx : x < 0; exact .inl ⟨decide_eq_true hx, by omega⟩; exact .inr ⟨decide_eq_false hx, by omega⟩)]
      rfl
    · rw [if_neg hc]
      simp only [cond_false]
      rw [nat_Sub (by omega), if_pos (by omega)]
      simp only [Option.bind_some]
      rw [whole_at (z := x + y) (by omega) (by by_cases hy : y < 0; exact .inl ⟨decide_eq_true hy, by omega⟩; exact .inr ⟨decide_eq_false hy, by omega⟩)]
      rfl
theorem whole_Sub {x y : Int} (hl : (lb x.natAbs).length + (lb y.natAbs).length ≤ 800000000) : z34.F (lb x.natAbs) (neg x) (lb y.natAbs) (neg y) = some (lb (x - y).natAbs, neg (x - y)) := by
  unfold z34.F
  rw [whole_Neg]
  simp only [Option.bind_some]
  rw [whole_Add (by rw [Int.natAbs_neg]; exact hl)]
  rfl
theorem whole_Cmp {x y : Int} (hl : (lb x.natAbs).length + (lb y.natAbs).length ≤ 800000000) : z35.F (lb x.natAbs) (neg x) (lb y.natAbs) (neg y) = some (cmpI x y) := by
  unfold z35.F
  rw [whole_Sub hl]
  simp only [Option.bind_some]
  rw [whole_Sign, cmpI_sub]
  rfl
theorem neg_mul (x y : Int) : ((!decide (neg x = neg y)) && decide (0 < x.natAbs * y.natAbs)) = neg (x * y) := by
  have h0 : 0 < x.natAbs * y.natAbs ↔ x ≠ 0 ∧ y ≠ 0 := by
    constructor
    · intro h; exact ⟨by rintro rfl; simp at h, by rintro rfl; simp at h⟩
    · rintro ⟨h1, h2⟩; exact Nat.mul_pos (by omega) (by omega)
  rw [Bool.eq_iff_iff]
  simp only [Bool.and_eq_true, Bool.not_eq_true', decide_eq_true_eq, decide_eq_false_iff_not, h0]
  rcases Int.lt_trichotomy x 0 with hx | hx | hx <;> rcases Int.lt_trichotomy y 0 with hy | hy | hy
  · have := Int.mul_pos_of_neg_of_neg hx hy; simp [hx, hy]; omega
  · subst hy; simp
  · have := Int.mul_neg_of_neg_of_pos hx hy; simp [hx]; omega
  · subst hx; simp
  · subst hx; simp
  · subst hx; simp
  · have := Int.mul_neg_of_pos_of_neg hx hy; simp [hy]; omega
  · subst hy; simp
  · have := Int.mul_pos hx hy; simp; omega
theorem whole_Mul {x y : Int} (hl : (lb x.natAbs).length + (lb y.natAbs).length ≤ 800000000) : z55.F (lb x.natAbs) (neg x) (lb y.natAbs) (neg y) = some (lb (x * y).natAbs, neg (x * y)) := by
  unfold z55.F
  rw [nat_Mul hl]
  simp only [Option.bind_some]
  rw [whole_Of, neg_mul, Int.natAbs_mul]
  rfl
end Go.Proofs.YtgjncgiekniniaaGreatDoor.A
end
section
set_option linter.unusedVariables false
set_option linter.unusedSimpArgs false
namespace Go.Proofs.YtgjncgiekniniaaGreatDoor.A
open Go
def sz (n : Nat) : Nat := (toB 10 n).length
theorem sz_lt (n : Nat) : n < 10 ^ sz n := toB_len_lt b10
theorem sz_le {n k : Nat} (h : n < 10 ^ k) : sz n ≤ k := toB_len_le b10 h
theorem sz_mono {m n : Nat} (h : m ≤ n) : sz m ≤ sz n := sz_le (Nat.lt_of_le_of_lt h (sz_lt n))
theorem lb_sz (n : Nat) : (lb n).length ≤ sz n := toB_len_le bL (Nat.lt_of_lt_of_le (sz_lt n) (Nat.pow_le_pow_left (by decide) _))
theorem dg_sz (n : Nat) : (dg n).length ≤ sz n := toB_len_le b4 (Nat.lt_of_lt_of_le (sz_lt n) (Nat.pow_le_pow_left (by decide) _))
theorem sz_mul (m n : Nat) : sz (m * n) ≤ sz m + sz n := sz_le (by rw [Nat.pow_add]; exact Nat.mul_lt_mul_of_lt_of_le (sz_lt m) (Nat.le_of_lt (sz_lt n)) (Nat.pow_pos (by decide)))
theorem sz_zero : sz 0 = 0 := by simp [sz, toB_zero]
theorem lb_zero : lb 0 = [] := toB_zero LB
def isD (b : UInt8) : Bool := decide (48 ≤ b.toNat) && decide (b.toNat ≤ 57)
def digs (s : List UInt8) : Bool := s.all isD
theorem digs_iff {s : List UInt8} : digs s = true ↔ digits s := by simp [digs, digits, digit, isD]
theorem beq_u8 (b c : UInt8) : (b == c) = decide (b.toNat = c.toNat) := by
  rw [Bool.eq_iff_iff]; simp [UInt8.toNat_inj]
theorem has_digit (b : UInt8) : ([48, 49, 50, 51, 52, 53, 54, 55, 56, 57] : List UInt8).contains b = isD b := by
  rw [Bool.eq_iff_iff]
  simp only [List.contains_cons, List.contains_nil, beq_u8, isD]
  simp
  omega
theorem dropWhile_nil_iff {α : Type} {p : α → Bool} : ∀ {l : List α}, l.dropWhile p = [] ↔ ∀ x ∈ l, p x = true
  | [] => by simp
  | a :: l => by
    by_cases h : p a = true
    · rw [List.dropWhile_cons_of_pos h, dropWhile_nil_iff (l := l)]; simp [h]
    · rw [List.dropWhile_cons_of_neg h]; simp [h]
theorem trim_nil (s cs : List UInt8) : Lib.trimS s cs = [] ↔ ∀ b ∈ s, cs.contains b = true := by
  unfold Lib.trimS Lib.trimLeftS Lib.trimRightS
  rw [dropWhile_nil_iff]
  constructor
  · intro h
    cases he : s.reverse.dropWhile (cs.contains ·) with
    | nil =>
      rw [dropWhile_nil_iff] at he
      exact fun b hb => he b (List.mem_reverse.2 hb)
    | cons x l =>
      have h1 := List.head?_dropWhile_not (cs.contains ·) s.reverse
      rw [he] at h1
      have h2 := h x (by rw [he]; simp)
      simp only [List.head?_cons] at h1
      rw [h2] at h1; simp at h1
  · intro h
    have he : s.reverse.dropWhile (cs.contains ·) = [] := dropWhile_nil_iff.2 fun b hb => h b (List.mem_reverse.1 hb)
    rw [he]; simp
theorem trim_digits (s : List UInt8) (hs : s.length ≤ 9223372036854775807) : ∃ r, z3.F s [48, 49, 50, 51, 52, 53, 54, 55, 56, 57] = some r ∧ decide (r = []) = digs s := by
  unfold z3.F
  rw [if_pos ⟨hs, by decide, by decide⟩]
  refine ⟨_, rfl, ?_⟩
  rw [Bool.eq_iff_iff, decide_eq_true_iff, trim_nil, digs, List.all_eq_true]
  simp only [has_digit]
def numOK (s : List UInt8) : Bool := !decide (s = []) && digs s && !(decide (1 < s.length) && decide ((s.getD 0 0).toNat = 48))
def mDigits (s : List UInt8) : Nat × Int := if 4096 < s.length then (0, 7) else if numOK s then ((tv 0 s).toNat, 0) else (0, 5)
theorem decode_ascii {s : List UInt8} {i : Nat} (hi : i < s.length) (h : (s.getD i 0).toNat < 128) : Utf8.decode ⟨s.toArray⟩ i = ((s.getD i 0).toNat, 1) := by
  have e : (ByteArray.mk s.toArray).get! (i + 0) = s.getD i 0 := by
    show s.toArray[i + 0]! = _
    simp [List.getD, hi]
  unfold Utf8.decode
  simp only [e]
  rw [if_pos h]
theorem wr_i32 {n : Int} (h1 : -2147483648 ≤ n) (h2 : n < 2147483648) : wr .i32 n = n := by
  simp only [wr, IntKind.wrap, IntKind.signed, IntKind.bits]
  simp; omega
theorem parse_l2 {s : List UInt8} (hs : digits s) (hl : s.length ≤ 18) : ∀ (f i : Nat) (d : Int), i + f = s.length → 0 ≤ d ∧ d < (10 ^ i : Nat) →
    Runs (fun rec x => z42.l2P s rec some x) (d, i) (tv d (s.drop i), s.length)
  | 0, i, d, hf, _ => by
    have : i = s.length := by omega
    subst this
    refine .done fun rec => ?_
    unfold z42.l2P
    simp only
    rw [if_neg (by omega), List.drop_eq_nil_of_le (Nat.le_refl _)]
    rfl
  | f + 1, i, d, hf, hd => by
    have hi : i < s.length := by omega
    have hb := hs s[i] (List.getElem_mem hi)
    unfold digit at hb
    have eg : s.getD i 0 = s[i] := by simp [List.getD, hi]
    have hp : (10 ^ i : Nat) ≤ 10 ^ 17 := Nat.pow_le_pow_right (by decide) (by omega)
    have hp' : ((10 ^ i : Nat) : Int) ≤ 100000000000000000 := Int.ofNat_le.2 hp
    have ih := parse_l2 hs hl f (i + 1) (10 * d + (s[i].toNat : Int) - 48) (by omega) ⟨by omega, by rw [Nat.pow_succ, Int.natCast_mul]; omega⟩
    rw [List.drop_eq_getElem_cons hi]
    refine .step (fun rec => ?_) ih
    unfold z42.l2P
    simp only
    rw [if_pos hi, decode_ascii hi (by rw [eg]; omega), eg]
    simp only
    rw [wr_i32 (by omega) (by omega), wr_u64 (n := (s[i].toNat : Int) - 48) (by omega) (by omega), wr_u64 (n := 10 * d) (by omega) (by omega), wr_u64 (by omega) (by omega)]
    congr 2; omega
theorem parse_body {s : List UInt8} {n j k : Nat} (hs : digits s) (hk : k ≤ s.length) (hk' : k ≤ 18) (hn : n < 10 ^ j) (hj : j ≤ 8192) {R : Type} (rec done : (List UInt8 × Bool × List Int) → Option R) :
    z42.j5011a rec done (k : Int) s (lb n) = rec (s.drop k, false, lb (n * 1000000000000000000 + (tv 0 (s.take k)).toNat)) := by
  have hds : digits (s.take k) := fun b hb => hs b (List.mem_of_mem_take hb)
  have hlen : (s.take k).length = k := by rw [List.length_take]; omega
  have htb := tv_bound hds
  rw [hlen] at htb
  have hp : (10 ^ k : Nat) ≤ 10 ^ 18 := Nat.pow_le_pow_right (by decide) hk'
  have hp' : ((10 ^ k : Nat) : Int) ≤ 1000000000000000000 := Int.ofNat_le.2 hp
  have r := parse_l2 hds (by omega) (s.take k).length 0 0 (by omega) ⟨Int.le_refl 0, by decide⟩
  have er : z42.l2a (s.take k) ((0 : Int), 0) = some (tv 0 (s.take k), (s.take k).length) := r.lfp
  obtain ⟨U, hU⟩ : ∃ U : Nat, 1000000000000000000 = U := ⟨_, rfl⟩
  have hU' : Int.toNat 1000000000000000000 = U := by omega
  have hUs : sz U ≤ 19 := sz_le (by omega)
  have hsn := Nat.le_trans (lb_sz n) (sz_le hn)
  have hsu := Nat.le_trans (lb_sz U) hUs
  have hsm := Nat.le_trans (lb_sz (n * U)) (Nat.le_trans (sz_mul n U) (Nat.add_le_add (sz_le hn) hUs))
  have hst := Nat.le_trans (lb_sz (tv 0 (s.take k)).toNat) (sz_le (k := 18) (by omega))
  have e1 : z39.F [(1000000000000000000 : Int)] = some (lb U) := by rw [nat_Of1 (by omega), hU']
  have e2 : z39.F [tv 0 (s.take k)] = some (lb (tv 0 (s.take k)).toNat) := nat_Of1 (by omega)
  have e3 : z41.F (lb n) (lb U) = some (lb (n * U)) := nat_Mul (by omega)
  have e4 : z25.F (lb (n * U)) (lb (tv 0 (s.take k)).toNat) = some (lb (n * U + (tv 0 (s.take k)).toNat)) := nat_Add (by omega)
  have e5 : (0 : Int) ≤ (k : Int) ∧ (k : Int) ≤ ((s.length : Nat) : Int) := by omega
  rw [hU]
  unfold z42.j5011a
  rw [if_pos e5, Int.toNat_natCast, er]
  simp only [Option.bind_some]
  rw [e1]
  simp only [Option.bind_some]
  rw [e3]
  simp only [Option.bind_some]
  rw [e2]
  simp only [Option.bind_some]
  rw [e4]
  simp only [Option.bind_some]
  rw [if_pos e5]
theorem parse_loop : ∀ (m : Nat) (s : List UInt8), s.length ≤ m → digits s → ∀ (n j : Nat) (first : Bool), n < 10 ^ j → j + s.length ≤ 8192 → ((first = true ∧ n = 0) ∨ (first = false ∧ s.length % 18 = 0)) →
    ∃ f', Runs (fun rec x => z42.l0aaP rec some x) (s, first, lb n) ([], f', lb (tv n s).toNat)
  | 0, s, hm, hs, n, j, first, hn, hj, hf => by
    have : s = [] := List.length_eq_zero_iff.1 (by omega)
    subst this
    refine ⟨first, .done fun rec => ?_⟩
    simp [z42.l0aaP, tv]
  | m + 1, s, hm, hs, n, j, first, hn, hj, hf => by
    by_cases hne : s = []
    · subst hne
      refine ⟨first, .done fun rec => ?_⟩
      simp [z42.l0aaP, tv]
    · have hpos : 0 < s.length := List.length_pos_iff.2 hne
      have key : ∃ k : Nat, 0 < k ∧ k ≤ s.length ∧ k ≤ 18 ∧ (n = 0 ∨ k = 18) ∧ (s.length - k) % 18 = 0 ∧
          ∀ rec, z42.l0aaP rec some (s, first, lb n) = z42.j5011a rec some (k : Int) s (lb n) := by
        have hd : (!decide (s = ([] : List UInt8))) = true := by rw [decide_eq_false hne]; rfl
        rcases hf with ⟨rfl, hn0⟩ | ⟨rfl, h18⟩
        · have em : Int.tmod (s.length : Int) 18 = ((s.length % 18 : Nat) : Int) := by rw [tmod_emod (by omega)]; rfl
          by_cases h0 : s.length % 18 = 0
          · refine ⟨18, by omega, by omega, by omega, .inr rfl, by omega, fun rec => ?_⟩
            unfold z42.l0aaP
            simp only [hd, Bool.not_true, cond_true, cond_false]
            rw [em, bif_t (by omega)]; rfl
          · refine ⟨s.length % 18, by omega, Nat.mod_le _ _, by omega, .inl hn0, by omega, fun rec => ?_⟩
            unfold z42.l0aaP
            simp only [hd, Bool.not_true, cond_true, cond_false]
            rw [em, bif_f (by omega)]
        · refine ⟨18, by omega, by omega, by omega, .inr rfl, by omega, fun rec => ?_⟩
          unfold z42.l0aaP
          simp only [hd, Bool.not_false, cond_true]
          rfl
      obtain ⟨k, k0, k1, k2, k3, k4, k5⟩ := key
      have hds : digits (s.take k) := fun b hb => hs b (List.mem_of_mem_take hb)
      have hdd : digits (s.drop k) := fun b hb => hs b (List.mem_of_mem_drop hb)
      have hlen : (s.take k).length = k := by rw [List.length_take]; omega
      have htb := tv_bound hds
      rw [hlen] at htb
      have htv : tv n (s.take k) = ((n * 1000000000000000000 + (tv 0 (s.take k)).toNat : Nat) : Int) := by
        rw [tv_acc, hlen]
        rcases k3 with h | h
        · subst h; simp; omega
        · subst h
          have : ((10 ^ 18 : Nat) : Int) = 1000000000000000000 := rfl
          rw [this]; omega
      have hn' : n * 1000000000000000000 + (tv 0 (s.take k)).toNat < 10 ^ (j + k) := by
        have hp0 : 0 < 10 ^ j := Nat.pow_pos (by decide)
        rcases k3 with h | h
        · subst h
          have : 10 ^ k ≤ 10 ^ (j + k) := Nat.pow_le_pow_right (by decide) (by omega)
          omega
        · subst h
          have e18 : (10 ^ (j + 18) : Nat) = 10 ^ j * 1000000000000000000 := by rw [Nat.pow_add]
          have e18' : ((10 ^ 18 : Nat) : Int) = 1000000000000000000 := rfl
          rw [e18]
          have : (n + 1) * 1000000000000000000 ≤ 10 ^ j * 1000000000000000000 := Nat.mul_le_mul_right _ hn
          omega
      obtain ⟨f', r⟩ := parse_loop m (s.drop k) (by rw [List.length_drop]; omega) hdd (n * 1000000000000000000 + (tv 0 (s.take k)).toNat) (j + k) false hn' (by rw [List.length_drop]; omega) (.inr ⟨rfl, by rw [List.length_drop]; exact k4⟩)
      refine ⟨f', .step (y := (s.drop k, false, lb (n * 1000000000000000000 + (tv 0 (s.take k)).toNat))) (fun rec => ?_) ?_⟩
      · rw [k5, parse_body hs k1 k2 hn (by omega)]
      · have e : tv n s = tv ((n * 1000000000000000000 + (tv 0 (s.take k)).toNat : Nat) : Int) (s.drop k) := by
          conv => lhs; rw [← List.take_append_drop k s]
          rw [tv_append, htv]
        rw [e]; exact r
theorem digits_Parse (s : List UInt8) : z42.F s = some (lb (mDigits s).1, (mDigits s).2) := by
  unfold z42.F mDigits
  by_cases h1 : 4096 < s.length
  · rw [bif_t (by omega), if_pos h1, lb_zero]
  · rw [bif_f (by omega), if_neg h1]
    by_cases h2 : s = []
    · subst h2; rw [bif_t rfl]; simp [numOK, lb_zero]
    · rw [bif_f h2]
      obtain ⟨r, t1, t2⟩ := trim_digits s (by omega)
      rw [t1]
      simp only [Option.bind_some]
      rw [t2]
      cases hd : digs s with
      | false => simp [numOK, hd, lb_zero]
      | true =>
        have hds := digs_iff.1 hd
        obtain ⟨f', r⟩ := parse_loop s.length s (Nat.le_refl _) hds 0 0 true (by decide) (by omega) (.inl ⟨rfl, rfl⟩)
        rw [lb_zero] at r
        have er : z42.l0aa (s, true, []) = some ([], f', lb (tv ((0 : Nat) : Int) s).toNat) := r.lfp
        simp only [Bool.not_true, cond_false]
        rw [er]
        have hpos : 0 < s.length := List.length_pos_iff.2 h2
        by_cases h3 : 1 < s.length
        · rw [bif_t (by omega), if_pos (by omega)]
          by_cases h4 : (s.getD 0 0).toNat = 48
          · rw [bif_t (by omega)]
            have : numOK s = false := by simp [numOK, h3]; intro _ _ ; simpa [List.getD] using h4
            rw [this]; simp [lb_zero]
          · rw [bif_f (by omega)]
            have : numOK s = true := by simp only [numOK, decide_eq_false h2, hd, decide_eq_false h4]; simp
            rw [this]; rfl
        · rw [bif_f (by omega)]
          have : numOK s = true := by simp only [numOK, decide_eq_false h2, hd, decide_eq_false h3]; simp
          rw [this]; rfl
theorem and_one (a : Int) (h0 : 0 ≤ a) (h1 : a < 9223372036854775808) : wr .i64 ((BitVec.ofInt (IntKind.bits .i64) a &&& BitVec.ofInt (IntKind.bits .i64) (1 : Int)).toNat : Int) = a % 2 := by
  have e : (BitVec.ofInt (IntKind.bits .i64) a &&& BitVec.ofInt (IntKind.bits .i64) (1 : Int)).toNat = (a % 2).toNat := by
    rw [BitVec.toNat_and]
    have e1 : (BitVec.ofInt (IntKind.bits .i64) (1 : Int)).toNat = 2 ^ 1 - 1 := rfl
    have e2 : (BitVec.ofInt (IntKind.bits .i64) a).toNat = (a % 18446744073709551616).toNat := by
      rw [BitVec.toNat_ofInt]; rfl
    rw [e1, Nat.and_two_pow_sub_one_eq_mod, e2]
    omega
  rw [e, wr_i64 (by omega) (by omega)]; omega
theorem shr1 (a : Int) : Int.fdiv a (2 ^ (min 1 (64 : Nat))) = a / 2 := by
  rw [Int.fdiv_eq_ediv_of_nonneg _ (by decide)]; rfl
theorem power_loop : ∀ (f t n out : Nat), t ≤ f → t < 9223372036854775808 → sz out + t * sz n ≤ 800000000 →
    ∃ n', Runs (fun rec x => z44.l0P rec some x) ((t : Int), lb n, lb out) ((0 : Int), n', lb (out * n ^ t))
  | 0, t, n, out, hf, ht, hb => by
    have : t = 0 := by omega
    subst this
    refine ⟨lb n, .done fun rec => ?_⟩
    simp [z44.l0P]
  | f + 1, t, n, out, hf, ht, hb => by
    rcases Nat.eq_zero_or_pos t with h0 | h0
    · subst h0
      refine ⟨lb n, .done fun rec => ?_⟩
      simp [z44.l0P]
    · have hn := lb_sz n
      have ho := lb_sz out
      have hsq := sz_mul n n
      have hon := sz_mul out n
      have e2 : (t : Int) / 2 = ((t / 2 : Nat) : Int) := by omega
      have em : (t : Int) % 2 = ((t % 2 : Nat) : Int) := by omega
      have hq : t * sz n = 2 * (t / 2 * sz n) + t % 2 * sz n := by
        conv => lhs; rw [← Nat.div_add_mod t 2]
        rw [Nat.add_mul, Nat.mul_assoc]
      have hq2 : t / 2 * sz (n * n) ≤ 2 * (t / 2 * sz n) := by
        have := Nat.mul_le_mul_left (t / 2) hsq
        have e : t / 2 * (sz n + sz n) = 2 * (t / 2 * sz n) := by rw [Nat.mul_add]; omega
        omega
      have hpow : n ^ t = n ^ (t % 2) * (n * n) ^ (t / 2) := by
        rw [← Nat.pow_two, ← Nat.pow_mul, ← Nat.pow_add]; congr 1; omega
      by_cases hodd : t % 2 = 1
      · rw [hodd, Nat.one_mul] at hq
        by_cases h1 : 1 < t
        · have hge : 1 ≤ t / 2 := by omega
          have hge' : sz n ≤ t / 2 * sz n := Nat.le_mul_of_pos_left _ hge
          obtain ⟨n', r⟩ := power_loop f (t / 2) (n * n) (out * n) (by omega) (by omega) (by omega)
          refine ⟨n', .step (fun rec => ?_) (by rw [hpow, hodd, Nat.pow_one, ← Nat.mul_assoc]; exact r)⟩
          unfold z44.l0P
          simp only
          rw [bif_t (by omega), and_one _ (by omega) (by omega), em, hodd, bif_t (by omega), nat_Mul (by omega)]
          simp only [Option.bind_some]
          rw [bif_t (by omega), nat_Mul (by omega), shr1, e2]
          rfl
        · have ht1 : t = 1 := by omega
          subst ht1
          obtain ⟨n', r⟩ := power_loop f 0 n (out * n) (by omega) (by omega) (by omega)
          refine ⟨n', .step (fun rec => ?_) (by simpa using r)⟩
          unfold z44.l0P
          simp only
          rw [bif_t (by omega), and_one _ (by omega) (by omega), bif_t (by decide), nat_Mul (by omega)]
          simp only [Option.bind_some]
          rw [bif_f (by omega), shr1]
          rfl
      · have h2 : t % 2 = 0 := by omega
        rw [h2, Nat.zero_mul, Nat.add_zero] at hq
        have hge : 1 ≤ t / 2 := by omega
        have hge' : sz n ≤ t / 2 * sz n := Nat.le_mul_of_pos_left _ hge
        obtain ⟨n', r⟩ := power_loop f (t / 2) (n * n) out (by omega) (by omega) (by omega)
        refine ⟨n', .step (fun rec => ?_) (by rw [hpow, h2, Nat.pow_zero, Nat.one_mul]; exact r)⟩
        unfold z44.l0P
        simp only
        rw [bif_t (by omega), and_one _ (by omega) (by omega), em, h2, bif_f (by omega), bif_t (by omega), nat_Mul (by omega)]
        simp only [Option.bind_some]
        rw [shr1, e2]
theorem digits_power {n t : Nat} (ht : t < 9223372036854775808) (h : t * sz n ≤ 700000000) : z44.F (lb n) (t : Int) = some (lb (n ^ t)) := by
  have h1 : sz 1 ≤ 1 := sz_le (by decide)
  obtain ⟨n', r⟩ := power_loop t t n 1 (Nat.le_refl _) ht (by omega)
  have e : z44.l0 ((t : Int), lb n, lb 1) = some ((0 : Int), n', lb (1 * n ^ t)) := r.lfp
  unfold z44.F
  rw [nat_Of1 (by omega)]
  simp only [Option.bind_some]
  rw [show Int.toNat 1 = 1 from rfl, e, Nat.one_mul]
  rfl
theorem digits_Ten {t : Nat} (ht : t ≤ 4096) : z45.F (t : Int) = some (lb (10 ^ t), 0) := by
  have h1 : sz 10 ≤ 2 := sz_le (by decide)
  have h2 := Nat.mul_le_mul_left t h1
  unfold z45.F
  rw [bif_f (by omega), bif_f (by omega), nat_Of1 (by omega)]
  simp only [Option.bind_some]
  rw [show Int.toNat 10 = 10 from rfl, digits_power (by omega) (by omega)]
  rfl
end Go.Proofs.YtgjncgiekniniaaGreatDoor.A
end
section
set_option linter.unusedVariables false
set_option linter.unusedSimpArgs false
namespace Go.Proofs.YtgjncgiekniniaaGreatDoor.A
open Go
def DivOK (a b : Nat) : Prop := z66.F (lb a) (lb b) = some (lb (a / b), lb (a % b), 0)
def DivTo (M : Nat) : Prop := ∀ x y, x ≤ M → y ≤ M → 0 < y → DivOK x y
theorem cmpI_lt0 {m n : Int} : cmpI m n < 0 ↔ m < n := by unfold cmpI; split <;> (try split) <;> omega
theorem cmpI_gt0 {m n : Int} : cmpI m n > 0 ↔ n < m := by unfold cmpI; split <;> (try split) <;> omega
theorem cmpI_eq0 {m n : Int} : cmpI m n = 0 ↔ m = n := by unfold cmpI; split <;> (try split) <;> omega
theorem lb_one {a : Nat} (h0 : 0 < a) (h : a < 18446744073709551616) : lb a = [(a : Int)] := by
  show toB LB a = _
  rw [toB_pos bL h0, Nat.mod_eq_of_lt h, Nat.div_eq_of_lt h, toB_zero]
theorem div64_small {a b : Int} (ha : 0 ≤ a ∧ a < 18446744073709551616) (hb : 0 < b) : z64.F 0 a b = some (a / b, a % b) := by
  unfold z64.F
  rw [bif_f (by omega), bif_f (by omega), bif_t rfl, if_neg (by omega), if_neg (by omega), tdiv_ediv ha.1, tmod_emod ha.1]
  have h1 := Int.ediv_nonneg ha.1 (Int.le_of_lt hb)
  have h2 := Int.ediv_le_self b ha.1
  rw [wr_u64 h1 (by omega)]
theorem quot_by_small {a b : Int} (ha : 0 ≤ a ∧ a < 18446744073709551616) (hb : 0 < b) : z65.F [a] b = some ([a / b], a % b) := by
  have h0 : z65.l0 [a] b ((0 : Int), (0 : Int), [(0 : Int)]) = some (a % b, (-1 : Int), [a / b]) := by
    refine (Runs.step (y := (a % b, (-1 : Int), [a / b])) (fun rec => ?_) (Runs.done fun rec => ?_) : Runs (fun rec x => z65.l0P [a] b rec some x) _ _).lfp
    · unfold z65.l0P
      simp only [List.length_singleton]
      rw [bif_t (by omega), if_pos (by omega), show [a].getD (Int.toNat 0) 0 = a from rfl, div64_small ha hb]
      rfl
    · unfold z65.l0P
      simp only
      rw [bif_f (by omega)]
  unfold z65.F
  simp only [List.length_singleton]
  rw [if_pos (by omega)]
  show ((z65.l0 [a] b ((0 : Int), wr .i64 0, [(0 : Int)])).bind _) = _
  rw [wr_i64 (by omega) (by omega), h0]
  rfl
theorem DivOK_lt {a b : Nat} (h : a < b) (hs : (lb a).length ≤ 900000000) : DivOK a b := by
  unfold DivOK z66.F
  rw [nat_Zero]
  simp only [Option.bind_some]
  rw [bif_f (by omega), nat_Cmp hs]
  simp only [Option.bind_some]
  have : cmpI (a : Int) b < 0 := by unfold cmpI; rw [if_pos (by omega)]; decide
  rw [bif_t this, Nat.div_eq_of_lt h, Nat.mod_eq_of_lt h, lb_zero]
theorem DivOK_small {a b : Nat} (ha : a < 18446744073709551616) (hb : 0 < b) : DivOK a b := by
  have hl : (lb a).length ≤ 1 := toB_len_le bL (by simpa using ha)
  rcases Nat.lt_or_ge a b with h | h
  · exact DivOK_lt h (by omega)
  · unfold DivOK z66.F
    rw [nat_Zero]
    simp only [Option.bind_some]
    rw [bif_f (by omega), nat_Cmp (by omega)]
    simp only [Option.bind_some]
    have : ¬ cmpI (a : Int) b < 0 := by unfold cmpI; rw [if_neg (by omega)]; split <;> omega
    rw [bif_f this, lb_one (by omega) ha, lb_one hb (by omega), nat_Limbs (by show List.length _ ≤ _; simp), nat_Limbs (by show List.length _ ≤ _; simp)]
    simp only [Option.bind_some, List.length_singleton]
    rw [bif_t (by omega), if_pos (by omega), show [(b : Int)].getD 0 0 = b from rfl, quot_by_small (by omega) (by omega)]
    simp only [Option.bind_some]
    have b1 : a / b ≤ a := Nat.div_le_self a b
    have b2 : a % b ≤ a := Nat.mod_le a b
    obtain ⟨q, hq⟩ : ∃ q, a / b = q := ⟨_, rfl⟩
    obtain ⟨m, hm⟩ : ∃ m, a % b = m := ⟨_, rfl⟩
    have e1 : ((a : Int) / b) = (q : Int) := by rw [← hq]; rfl
    have e2 : ((a : Int) % b) = (m : Int) := by rw [← hm]; rfl
    rw [hq] at b1 ⊢
    rw [hm] at b2 ⊢
    rw [e1, e2, nat_Of1 (by omega)]
    simp only [Option.bind_some]
    rw [nat_Of1 (by omega)]
    rfl
theorem quot_Gcd {M : Nat} (hD : DivTo M) {a b : Nat} (ha : a ≤ M) (hb : b ≤ M) : z67.F (lb a) (lb b) = some (lb (Nat.gcd a b)) := by
  have key : ∀ (f a b : Nat), b < f → a ≤ M → b ≤ M → Runs (fun rec x => z67.l0P rec some x) (lb a, lb b) (lb (Nat.gcd a b), []) := by
    intro f
    induction f with
    | zero => intro a b h; omega
    | succ f ih =>
      intro a b h ha hb
      rcases Nat.eq_zero_or_pos b with h0 | h0
      · subst h0
        refine .done fun rec => ?_
        unfold z67.l0P
        simp only [nat_Zero, Option.bind_some]
        rw [Nat.gcd_zero_right, lb_zero]; rfl
      · have hm := Nat.mod_lt a h0
        have hmm := Nat.mod_le a b
        have e : Nat.gcd a b = Nat.gcd b (a % b) := by rw [Nat.gcd_comm, Nat.gcd_rec, Nat.gcd_comm]
        rw [e]
        refine .step (fun rec => ?_) (ih b (a % b) (by omega) hb (by omega))
        unfold z67.l0P
        simp only [nat_Zero, Option.bind_some]
        rw [decide_eq_false (by omega), Bool.not_false, cond_true, hD a b ha hb h0]
        rfl
  unfold z67.F
  have e : z67.l0 (lb a, lb b) = some (lb (Nat.gcd a b), []) := (key (b + 1) a b (by omega) ha hb).lfp
  rw [e]; rfl
theorem cmpI_neg (z : Int) : decide (cmpI z 0 < 0) = neg z := by
  unfold cmpI; apply decide_eq_decide.2; split <;> (try split) <;> omega
theorem abs_ediv {z : Int} {g : Nat} (h : g ∣ z.natAbs) (h0 : 0 < g) : (z / (g : Int)).natAbs = z.natAbs / g ∧ (z / (g : Int) < 0 ↔ z < 0) := by
  obtain ⟨k, hk⟩ := Int.ofNat_dvd_left.2 h
  subst hk
  have hg : (g : Int) ≠ 0 := by omega
  rw [Int.mul_ediv_cancel_left _ hg, Int.natAbs_mul, Int.natAbs_natCast, Nat.mul_div_cancel_left _ h0]
  refine ⟨rfl, ?_⟩
  constructor
  · intro h; exact Int.mul_neg_of_pos_of_neg (by omega) h
  · intro h
    rcases Int.lt_or_le k 0 with h' | h'
    · exact h'
    · have := Int.mul_nonneg (show (0 : Int) ≤ g by omega) h'; omega
theorem frac_made {M : Nat} (hD : DivTo M) {num : Int} {den : Nat} (h0 : 0 < den) (hn : num.natAbs ≤ M) (hd : den ≤ M) (hs : sz den ≤ 700000000) :
    z68.F (lb num.natAbs) (neg num) (lb den) = some (lb (mkRat num den).num.natAbs, neg (mkRat num den).num, lb ((mkRat num den).den - 1)) := by
  have hg : 0 < Nat.gcd num.natAbs den := Nat.gcd_pos_of_pos_right _ h0
  have hgd : Nat.gcd num.natAbs den ≤ den := Nat.gcd_le_right _ h0
  have hdv := Nat.gcd_dvd_right num.natAbs den
  have hdv2 := Nat.gcd_dvd_left num.natAbs den
  have hp : 0 < den / Nat.gcd num.natAbs den := Nat.div_pos hgd hg
  have hle : den / Nat.gcd num.natAbs den ≤ den := Nat.div_le_self _ _
  have hsz := Nat.le_trans (lb_sz _) (Nat.le_trans (sz_mono hle) hs)
  obtain ⟨q1, q2⟩ := abs_ediv hdv2 hg
  unfold z68.F z60.F
  simp only [Option.bind_some]
  rw [quot_Gcd hD hn hd]
  simp only [Option.bind_some]
  rw [Rat.num_mkRat, Rat.den_mkRat, if_neg (by omega), if_neg (by omega), Nat.gcd_comm den]
  generalize Nat.gcd num.natAbs den = g at *
  have d1 : z66.F (lb num.natAbs) (lb g) = _ := hD _ _ hn (by omega) hg
  have d2 : z66.F (lb den) (lb g) = _ := hD _ _ hd (by omega) hg
  rw [d1]
  simp only [Option.bind_some]
  rw [d2]
  simp only [Option.bind_some]
  rw [nat_Of1 (by omega)]
  simp only [Option.bind_some]
  rw [show Int.toNat 1 = 1 from rfl, nat_Sub (by omega), if_pos (by omega)]
  simp only [Option.bind_some]
  rw [whole_Sign]
  simp only [Option.bind_some]
  rw [cmpI_neg, whole_at (z := num / (g : Int)) q1.symm (by
    have hz : num / (g : Int) < 0 ↔ num < 0 := q2
    by_cases h : num < 0
    · exact .inl ⟨decide_eq_true h, by omega⟩
    · exact .inr ⟨decide_eq_false h, by omega⟩)]
  rfl
abbrev fr (q : Rat) : List Int × Bool × List Int := (lb q.num.natAbs, neg q.num, lb (q.den - 1))
theorem frac_Of {M : Nat} (hD : DivTo M) {num den : Int} (h0 : den ≠ 0) (hn : num.natAbs ≤ M) (hd : den.natAbs ≤ M) (hs : sz den.natAbs ≤ 700000000) :
    z69.F (lb num.natAbs) (neg num) (lb den.natAbs) (neg den) = some ((fr (Rat.divInt num den)).1, (fr (Rat.divInt num den)).2.1, (fr (Rat.divInt num den)).2.2, 0) := by
  have hc : cmpI den 0 = if den < 0 then -1 else 1 := by
    unfold cmpI
    by_cases h : den < 0
    · rw [if_pos h, if_pos h]
    · rw [if_neg h, if_neg h, if_neg h0]
  unfold z69.F
  rw [whole_Sign]
  simp only [Option.bind_some]
  rw [hc]
  by_cases h : den < 0
  · have e : Rat.divInt num den = mkRat (-num) den.natAbs := by
      have : den = -((den.natAbs : Nat) : Int) := by omega
      conv => lhs; rw [this]
      rw [Rat.divInt_neg', Rat.divInt_ofNat]
    rw [if_pos h, bif_f (by decide), bif_t rfl, whole_Neg]
    simp only [Option.bind_some]
    unfold z69.j4 z60.F
    simp only [Option.bind_some]
    rw [frac_made hD (by omega) (by omega) hd hs, e]
    rfl
  · have e : Rat.divInt num den = mkRat num den.natAbs := by
      have : den = ((den.natAbs : Nat) : Int) := by omega
      conv => lhs; rw [this]
      rw [Rat.divInt_ofNat]
    rw [if_neg h, bif_f (by decide), bif_f (by decide)]
    unfold z69.j4 z60.F
    simp only [Option.bind_some]
    rw [frac_made hD (by omega) hn hd hs, e]
    rfl
theorem frac_Den (q : Rat) (a : List Int) (b : Bool) (hs : sz q.den ≤ 700000000) : z71.F a b (lb (q.den - 1)) = some (lb q.den) := by
  have h1 : sz 1 ≤ 1 := sz_le (by decide)
  have h2 := Nat.le_trans (lb_sz (q.den - 1)) (Nat.le_trans (sz_mono (Nat.sub_le _ _)) hs)
  have h3 := Nat.le_trans (lb_sz 1) h1
  unfold z71.F
  rw [nat_Of1 (by omega)]
  simp only [Option.bind_some]
  rw [show Int.toNat 1 = 1 from rfl, nat_Add (by omega), Nat.sub_add_cancel q.den_pos]
  rfl
theorem frac_den (q : Rat) (a : List Int) (b : Bool) (hs : sz q.den ≤ 700000000) : z72.F a b (lb (q.den - 1)) = some (lb (q.den : Int).natAbs, neg (q.den : Int)) := by
  unfold z72.F
  rw [frac_Den q a b hs]
  simp only [Option.bind_some]
  rw [whole_at (z := (q.den : Int)) (by omega) (.inr ⟨rfl, by omega⟩)]
  rfl
theorem rat_div (q r : Rat) : q / r = Rat.divInt (q.num * r.den) (q.den * r.num) := by
  rw [Rat.div_def, Rat.inv_def]
  conv => lhs; rw [← Rat.num_divInt_den q, Rat.divInt_mul_divInt]
theorem frac_Quo {M : Nat} (hD : DivTo M) {q r : Rat} (h0 : r ≠ 0) (hn : (q.num * r.den).natAbs ≤ M) (hd : (q.den * r.num).natAbs ≤ M) (hs : sz q.num.natAbs + sz r.den ≤ 600000000) (hs' : sz r.num.natAbs + sz q.den ≤ 600000000) :
    z73.F (lb q.num.natAbs) (neg q.num) (lb (q.den - 1)) (lb r.num.natAbs) (neg r.num) (lb (r.den - 1)) = some ((fr (q / r)).1, (fr (q / r)).2.1, (fr (q / r)).2.2, 0) := by
  have e1 : sz (r.den : Int).natAbs = sz r.den := rfl
  have e2 : sz (q.den : Int).natAbs = sz q.den := rfl
  have l1 := lb_sz q.num.natAbs
  have l2 := lb_sz (r.den : Int).natAbs
  have l3 := lb_sz (q.den : Int).natAbs
  have l4 := lb_sz r.num.natAbs
  have hr : r.num ≠ 0 := fun h => h0 (Rat.num_eq_zero.1 h)
  have hqd := q.den_nz
  have m1 := sz_mul (q.den : Int).natAbs r.num.natAbs
  rw [← Int.natAbs_mul] at m1
  unfold z73.F
  rw [frac_den r _ _ (by omega)]
  simp only [Option.bind_some]
  rw [whole_Mul (by omega)]
  simp only [Option.bind_some]
  rw [frac_den q _ _ (by omega)]
  simp only [Option.bind_some]
  rw [whole_Mul (by omega)]
  simp only [Option.bind_some]
  rw [frac_Of hD (Int.mul_ne_zero (by omega) hr) hn hd (by show sz _ ≤ _; omega), rat_div]
  rfl
end Go.Proofs.YtgjncgiekniniaaGreatDoor.A
end
section
set_option linter.unusedVariables false
set_option linter.unusedSimpArgs false
namespace Go.Proofs.YtgjncgiekniniaaGreatDoor.A
open Go
def cutNeg (s : List UInt8) : List UInt8 × Bool := match s with | [] => ([], false) | b :: t => if b = 45 then (t, true) else (b :: t, false)
theorem cutNeg_len (s : List UInt8) : (cutNeg s).1.length ≤ s.length := by
  unfold cutNeg; split
  · simp
  · split <;> simp
theorem strings_Cut (s : List UInt8) : z38.F s [45] = some (cutNeg s) := by
  unfold z38.F z37.F z36.F cutNeg
  cases s with
  | nil => rfl
  | cons b t =>
    have e1 : ([45] : List UInt8).length = 1 := rfl
    have e2 : Int.toNat ((1 : Nat) : Int) = 1 := rfl
    simp only [e1, e2]
    rw [bif_t (by simp; omega), if_pos (by simp; omega)]
    simp only [Option.bind_some, List.take_succ_cons, List.take_zero, List.drop_succ_cons, List.drop_zero, List.cons.injEq, and_true]
    by_cases h : b = 45
    · rw [decide_eq_true h, if_pos h, if_pos (by simp; omega)]; rfl
    · rw [decide_eq_false h, if_neg h]; rfl
def mWhole (s : List UInt8) : Int × Int :=
  if (mDigits (cutNeg s).1).2 ≠ 0 then (0, (mDigits (cutNeg s).1).2)
  else if (cutNeg s).2 && decide ((mDigits (cutNeg s).1).1 = 0) then (0, 5)
  else (if (cutNeg s).2 then -((mDigits (cutNeg s).1).1 : Int) else (mDigits (cutNeg s).1).1, 0)
theorem whole_Parse (s : List UInt8) : z43.F s = some (lb (mWhole s).1.natAbs, neg (mWhole s).1, (mWhole s).2) := by
  unfold z43.F mWhole
  rw [strings_Cut]
  simp only [Option.bind_some]
  rw [digits_Parse]
  simp only [Option.bind_some]
  generalize mDigits (cutNeg s).1 = d
  generalize (cutNeg s).2 = below
  by_cases h : d.2 = 0
  · have h' : ¬ (d.2 ≠ 0) := fun hh => hh h
    rw [decide_eq_true h, if_neg h']
    simp only [Bool.not_true, cond_false]
    cases below with
    | true =>
      simp only [cond_true, Bool.true_and, if_true]
      rw [nat_Zero]
      simp only [Option.bind_some]
      by_cases h0 : d.1 = 0
      · rw [decide_eq_true h0]
        simp only [if_true, cond_true]
        rw [show Int.natAbs 0 = 0 from rfl, lb_zero]; rfl
      · rw [decide_eq_false h0]
        simp only [cond_false]
        rw [whole_at (z := -(d.1 : Int)) (by omega) (.inl ⟨rfl, by omega⟩)]
        simp
    | false =>
      simp only [cond_false, Bool.false_and]
      rw [whole_at (z := (d.1 : Int)) (by omega) (.inr ⟨rfl, by omega⟩)]
      simp
  · rw [decide_eq_false h, if_pos h]
    simp only [Bool.not_false, cond_true]
    rw [show Int.natAbs 0 = 0 from rfl, lb_zero]; rfl
def cutDot : List UInt8 → List UInt8 × Option (List UInt8)
  | [] => ([], none)
  | b :: t => if b = 46 then ([], some t) else (b :: (cutDot t).1, (cutDot t).2)
theorem cutDot_none : ∀ {t : List UInt8}, (cutDot t).2 = none → (cutDot t).1 = t
  | [], _ => rfl
  | b :: t, h => by
    unfold cutDot at h ⊢
    split at h
    · simp at h
    · rename_i hb
      rw [if_neg hb]
      simp only at h ⊢
      rw [cutDot_none h]
theorem cutDot_some : ∀ {t r : List UInt8}, (cutDot t).2 = some r → t = (cutDot t).1 ++ 46 :: r
  | [], r, h => by simp [cutDot] at h
  | b :: t, r, h => by
    unfold cutDot at h ⊢
    split at h
    · rename_i hb
      rw [if_pos hb, hb]
      simp only [Option.some.injEq] at h
      rw [h]; rfl
    · rename_i hb
      rw [if_neg hb]
      simp only at h ⊢
      conv => lhs; rw [cutDot_some h]
      rfl
theorem byteIdx_cons (b : UInt8) (t : List UInt8) (c : UInt8) : byteIdx (b :: t) c = if b = c then 0 else if byteIdx t c < 0 then -1 else byteIdx t c + 1 := by
  unfold byteIdx
  rw [List.length_cons, List.range_succ_eq_map, List.find?_cons]
  by_cases h : b = c
  · simp [h]
  · have h1 : ((b :: t).getD 0 0 == c) = false := by simp [h]
    rw [h1, if_neg h]
    simp only
    rw [List.find?_map]
    have e : ((fun i => (b :: t).getD i 0 == c) ∘ Nat.succ) = fun i => t.getD i 0 == c := by funext i; simp [List.getD]
    rw [e]
    cases (List.range t.length).find? fun i => t.getD i 0 == c with
    | none => simp
    | some i => simp; omega
theorem byteIdx_dot : ∀ t : List UInt8, byteIdx t 46 = if (cutDot t).2 = none then -1 else ((cutDot t).1.length : Int)
  | [] => by simp [byteIdx, cutDot]
  | b :: t => by
    have e : cutDot (b :: t) = if b = 46 then ([], some t) else (b :: (cutDot t).1, (cutDot t).2) := by rw [cutDot]
    rw [byteIdx_cons, byteIdx_dot t, e]
    by_cases h : b = 46
    · simp [h]
    · rw [if_neg h, if_neg h]
      by_cases h2 : (cutDot t).2 = none
      · simp [h2]
      · simp [h2]; omega
def plainB (s : List UInt8) : Bool := !decide (s = []) && digs s
def zeros (s : List UInt8) : Bool := s.all (· == 48)
theorem dec_plain (s : List UInt8) (h : s.length ≤ 9223372036854775807) : z50.F s = some (plainB s) := by
  unfold z50.F plainB
  by_cases h0 : s = []
  · rw [decide_eq_true h0]; rfl
  · rw [decide_eq_false h0]
    obtain ⟨r, t1, t2⟩ := trim_digits s h
    simp only [Bool.not_false, cond_true]
    rw [t1]
    simp only [Option.bind_some]
    rw [t2]; simp
theorem has_zero (b : UInt8) : ([48] : List UInt8).contains b = (b == 48) := by
  simp only [List.contains_cons, List.contains_nil, Bool.or_false]
theorem trim_zeros (s : List UInt8) (hs : s.length ≤ 9223372036854775807) : ∃ r, z3.F s [48] = some r ∧ decide (r = []) = zeros s := by
  unfold z3.F
  rw [if_pos ⟨hs, by decide, by decide⟩]
  refine ⟨_, rfl, ?_⟩
  rw [Bool.eq_iff_iff, decide_eq_true_iff, trim_nil, zeros, List.all_eq_true]
  simp only [has_zero]
theorem trimL_spec : ∀ {s : List UInt8}, digits s → tv 0 (trimL s [48]) = tv 0 s ∧ digits (trimL s [48]) ∧ (trimL s [48]).length ≤ s.length ∧ (trimL s [48] ≠ [] → ((trimL s [48]).getD 0 0).toNat ≠ 48)
  | [], h => by simp [trimL, tv, digits]
  | b :: s, h => by
    have ih := trimL_spec (s := s) fun x hx => h x (by simp [hx])
    by_cases hb : b = 48
    · have e : trimL (b :: s) [48] = trimL s [48] := by unfold trimL; exact List.dropWhile_cons_of_pos (by rw [hb]; decide)
      rw [e]
      refine ⟨?_, ih.2.1, by rw [List.length_cons]; omega, ih.2.2.2⟩
      rw [ih.1, hb]; rfl
    · have e : trimL (b :: s) [48] = b :: s := by unfold trimL; exact List.dropWhile_cons_of_neg (by simp [hb])
      rw [e]
      refine ⟨rfl, h, Nat.le_refl _, fun _ hh => hb (UInt8.toNat_inj.1 hh)⟩
theorem parse_trim {s : List UInt8} (hd : digits s) (hl : s.length ≤ 4096) : z42.F (if trimL s [48] = [] then [48] else trimL s [48]) = some (lb (tv 0 s).toNat, 0) := by
  obtain ⟨h1, h2, h3, h4⟩ := trimL_spec hd
  rw [digits_Parse]
  by_cases h : trimL s [48] = []
  · rw [if_pos h]
    rw [h] at h1
    rw [← h1]; rfl
  · rw [if_neg h, ← h1]
    unfold mDigits
    have : numOK (trimL s [48]) = true := by
      unfold numOK
      rw [decide_eq_false h, digs_iff.2 h2, decide_eq_false (h4 h)]; simp
    rw [if_neg (by omega), this]; rfl
def decOf (below : Bool) (a : List UInt8) (o : Option (List UInt8)) : Int × Nat × Int :=
  if !plainB a || (o.isSome && !plainB (o.getD [])) || (decide (1 < a.length) && decide ((a.getD 0 0).toNat = 48)) then (0, 0, 5)
  else if below && zeros (a ++ o.getD []) then (0, 0, 5)
  else if 64 < (o.getD []).length then (0, 0, 10)
  else (if below then -tv 0 (a ++ o.getD []) else tv 0 (a ++ o.getD []), (o.getD []).length, 0)
def mDec (s : List UInt8) : Int × Nat × Int := if 4096 < s.length then (0, 0, 7) else decOf (cutNeg s).2 (cutDot (cutNeg s).1).1 (cutDot (cutNeg s).1).2
abbrev decR (m : Int × Nat × Int) : List Int × Bool × Int × Int := (lb m.1.natAbs, neg m.1, (m.2.1 : Int), m.2.2)
theorem decR0 (e : Int) : decR (0, 0, e) = ([], false, 0, e) := by unfold decR; simp [lb_zero]
theorem sign_of (n : Int) (h : 0 ≤ n) (below : Bool) : z22.F (lb n.toNat) below = some (lb (if below then -n else n).natAbs, neg (if below then -n else n)) := by
  cases below
  · rw [whole_at (z := n) (by omega) (.inr ⟨rfl, h⟩)]; rfl
  · rw [whole_at (z := -n) (by omega) (.inl ⟨rfl, by omega⟩)]; rfl
theorem dec_j14 {rest a b : List UInt8} {below lead : Bool} (h1 : rest.take a.length = a) (h2 : rest.drop (a.length + 1) = b) (ha : digits a) (hb : digits b) (hl : a.length + b.length ≤ 4096) :
    z51.j14 lead (rest, below) (a.length : Int) = some (decR (if lead then (0, 0, 5) else if below && zeros (a ++ b) then (0, 0, 5) else if 64 < b.length then (0, 0, 10) else (if below then -tv 0 (a ++ b) else tv 0 (a ++ b), b.length, 0))) := by
  have e1 : (wr .i64 ((a.length : Int) + 1)).toNat = a.length + 1 := by rw [wr_i64 (by omega) (by omega)]; omega
  have hab : digits (a ++ b) := fun x hx => (List.mem_append.1 hx).elim (ha x) (hb x)
  have hln : (a ++ b).length ≤ 4096 := by rw [List.length_append]; exact hl
  have key : z51.j16 false (rest, below) (a.length : Int) = some (decR (if 64 < b.length then (0, 0, 10) else (if below then -tv 0 (a ++ b) else tv 0 (a ++ b), b.length, 0))) := by
    unfold z51.j16
    simp only [e1, Int.toNat_natCast, h1, h2, cond_false]
    by_cases h64 : 64 < b.length
    · rw [bif_t (by omega), if_pos h64, decR0]
    · rw [bif_f (by omega), if_neg h64, if_pos (by omega)]
      have et : z4.F (a ++ b) [48] = some (trimL (a ++ b) [48]) := by unfold z4.F; rw [if_pos ⟨by decide, by decide⟩]
      rw [et]
      simp only [Option.bind_some]
      have ep := parse_trim hab hln
      have fin : ∀ x, z42.F x = some (lb (tv 0 (a ++ b)).toNat, 0) → z51.j18 x (rest, below) (a.length : Int) = some (decR (if below then -tv 0 (a ++ b) else tv 0 (a ++ b), b.length, 0)) := fun x hx => by
        unfold z51.j18
        rw [hx]
        simp only [Option.bind_some, e1, h2]
        rw [sign_of _ (tv_bound hab).1]
        rfl
      by_cases ht : trimL (a ++ b) [48] = []
      · rw [if_pos ht] at ep
        rw [bif_t ht]; exact fin _ ep
      · rw [if_neg ht] at ep
        rw [bif_f ht]; exact fin _ ep
  unfold z51.j14
  simp only [e1, Int.toNat_natCast, h1, h2]
  cases lead with
  | true => simp only [cond_true, if_true]; rw [decR0]
  | false =>
    simp only [cond_false]
    rw [if_neg Bool.false_ne_true]
    cases below with
    | false => simp only [cond_false, Bool.false_and]; rw [key]; rfl
    | true =>
      obtain ⟨r, t1, t2⟩ := trim_zeros (a ++ b) (by omega)
      simp only [cond_true, Bool.true_and]
      rw [if_pos (by omega), t1]
      simp only [Option.bind_some]
      rw [t2]
      cases hz : zeros (a ++ b) with
      | true => unfold z51.j16; simp only [cond_true, if_true]; rw [decR0]
      | false => rw [key]; rfl
theorem dec_j22 {a : List UInt8} {below lead : Bool} (ha : digits a) (hl : a.length ≤ 4096) :
    z51.j22 lead (a, below) = some (decR (if lead then (0, 0, 5) else if below && zeros a then (0, 0, 5) else (if below then -tv 0 a else tv 0 a, 0, 0))) := by
  have key : z51.j24 (a, below) = some (decR (if below then -tv 0 a else tv 0 a, 0, 0)) := by
    unfold z51.j24
    simp only [List.append_nil]
    rw [if_pos (by simp; omega)]
    have et : z4.F a [48] = some (trimL a [48]) := by unfold z4.F; rw [if_pos ⟨by decide, by decide⟩]
    rw [et]
    simp only [Option.bind_some]
    have ep := parse_trim ha hl
    have fin : ∀ x, z42.F x = some (lb (tv 0 a).toNat, 0) → z51.j26 x (a, below) = some (decR (if below then -tv 0 a else tv 0 a, 0, 0)) := fun x hx => by
      unfold z51.j26
      rw [hx]
      simp only [Option.bind_some]
      rw [sign_of _ (tv_bound ha).1]
      rfl
    by_cases ht : trimL a [48] = []
    · rw [if_pos ht] at ep
      rw [bif_t ht]; exact fin _ ep
    · rw [if_neg ht] at ep
      rw [bif_f ht]; exact fin _ ep
  unfold z51.j22
  simp only [List.append_nil]
  cases lead with
  | true => simp only [cond_true, if_true]; rw [decR0]
  | false =>
    simp only [cond_false]
    rw [if_neg Bool.false_ne_true]
    cases below with
    | false => simp only [cond_false, Bool.false_and]; rw [key]; rfl
    | true =>
      obtain ⟨r, t1, t2⟩ := trim_zeros a (by omega)
      simp only [cond_true, Bool.true_and]
      rw [if_pos (by simp; omega), t1]
      simp only [Option.bind_some]
      rw [t2]
      cases hz : zeros a with
      | true => simp only [cond_true, if_true]; rw [decR0]
      | false => simp only [cond_false]; rw [key]; rfl
theorem plainB_digits {s : List UInt8} (h : plainB s = true) : digits s ∧ s ≠ [] := by
  unfold plainB at h
  rw [Bool.and_eq_true] at h
  exact ⟨digs_iff.1 h.2, by simpa using h.1⟩
theorem dec_lead {a : List UInt8} (hne : a ≠ []) {α : Type} (f : Bool → Option α) :
    (bif decide ((a.length : Int) > 1) then (if (0 : Int) ≤ (0 : Int) ∧ (0 : Int) < (a.length : Int) then f (decide (((a.getD 0 0).toNat : Int) = (48 : Int))) else none) else f false) = f (decide (1 < a.length) && decide ((a.getD 0 0).toNat = 48)) := by
  have hpos := List.length_pos_iff.2 hne
  by_cases h : 1 < a.length
  · rw [bif_t (by omega), if_pos (by omega), decide_eq_true h, Bool.true_and]
    congr 1; exact decide_eq_decide.2 (by omega)
  · rw [bif_f (by omega), decide_eq_false h, Bool.false_and]
theorem dec_Parse (s : List UInt8) : z51.F s = some (decR (mDec s)) := by
  unfold z51.F mDec
  by_cases h0 : 4096 < s.length
  · rw [bif_t (by omega), if_pos h0, decR0]
  · rw [bif_f (by omega), if_neg h0, strings_Cut]
    simp only [Option.bind_some]
    have hlen := cutNeg_len s
    generalize cutNeg s = c at *
    obtain ⟨rest, below⟩ := c
    simp only at hlen ⊢
    have hp0 : z50.F ([] : List UInt8) = some false := rfl
    by_cases hdot : ([46] : List UInt8) = rest
    · subst hdot
      rw [bif_t rfl]
      simp only [List.length_singleton, List.take_zero, hp0, Option.bind_some]
      unfold z51.j4
      simp only [Bool.not_false, cond_true]
      have : decOf below (cutDot [46]).1 (cutDot [46]).2 = (0, 0, 5) := by simp [cutDot, decOf, plainB]
      rw [this, decR0]
      rfl
    · rw [bif_f hdot, if_pos (by simp)]
      have hi : z2.F rest ((([46] : List UInt8).getD 0 0).toNat : Int) = some (byteIdx rest 46) := rfl
      rw [hi]
      simp only [Option.bind_some]
      rw [byteIdx_dot]
      cases ho : (cutDot rest).2 with
      | none =>
        have ha := cutDot_none ho
        rw [if_pos rfl, bif_f (by omega), ha, dec_plain _ (by omega)]
        simp only [Option.bind_some]
        unfold decOf
        simp only [Option.isSome_none, Bool.false_and, Bool.or_false, Option.getD_none, List.append_nil, List.length_nil]
        cases hpl : plainB rest with
        | false => unfold z51.j22; simp only [Bool.not_false, cond_true, Bool.true_or, if_true]; rw [decR0]
        | true =>
          obtain ⟨hd, hne⟩ := plainB_digits hpl
          simp only [Bool.not_true, cond_false, Bool.false_or]
          rw [dec_lead hne fun b => z51.j22 b (rest, below), dec_j22 hd (by omega)]
          rfl
      | some b =>
        have hab := cutDot_some ho
        generalize (cutDot rest).1 = a at *
        have hl : rest.length = a.length + (b.length + 1) := by rw [hab]; simp
        have t1 : rest.take a.length = a := by rw [hab]; simp
        have t2 : rest.drop (a.length + 1) = b := by
          rw [hab, ← List.drop_drop]; simp
        have e1 : (wr .i64 ((a.length : Int) + 1)) = ((a.length + 1 : Nat) : Int) := by rw [wr_i64 (by omega) (by omega)]; omega
        rw [if_neg (by simp), bif_t (by omega), if_pos (by omega)]
        simp only [e1, Int.toNat_natCast, t1, t2]
        rw [if_pos (by omega), dec_plain a (by omega)]
        simp only [Option.bind_some]
        unfold decOf
        simp only [Option.isSome_some, Bool.true_and, Option.getD_some]
        cases hpl : plainB a with
        | false => unfold z51.j14; simp only [Bool.not_false, cond_true, Bool.true_or, if_true]; rw [decR0]
        | true =>
          obtain ⟨hd, hne⟩ := plainB_digits hpl
          simp only [Bool.not_true, cond_false, Bool.false_or]
          rw [dec_plain b (by omega)]
          simp only [Option.bind_some]
          cases hpb : plainB b with
          | false => unfold z51.j14; simp only [Bool.not_false, cond_true, Bool.true_or, if_true]; rw [decR0]
          | true =>
            obtain ⟨hdb, hneb⟩ := plainB_digits hpb
            simp only [Bool.not_true, cond_false, Bool.false_or]
            rw [dec_lead hne fun x => z51.j14 x (rest, below) (a.length : Int), dec_j14 t1 t2 hd hdb (by omega)]
end Go.Proofs.YtgjncgiekniniaaGreatDoor.A
end
section
set_option linter.unusedVariables false
set_option linter.unusedSimpArgs false
namespace Go.Proofs.YtgjncgiekniniaaGreatDoor.A
open Go
abbrev leap (y : Int) : Prop := y % 4 = 0 ∧ ¬ y % 100 = 0 ∨ y % 400 = 0
abbrev goodY (y : Int) : Prop := 1 ≤ y ∧ y ≤ 9999
def dDays (y m : Int) : Int := if ¬ goodY y ∨ m < 1 ∨ 12 < m then 0 else if m = 2 then (if leap y then 29 else 28) else if m = 4 ∨ m = 6 ∨ m = 9 ∨ m = 11 then 30 else 31
abbrev right (y m d : Int) : Prop := 1 ≤ d ∧ d ≤ dDays y m
theorem tmod_z {a b : Int} (hb : 0 < b) : Int.tmod a b = 0 ↔ a % b = 0 := by
  rw [← Int.dvd_iff_tmod_eq_zero, ← Int.dvd_iff_emod_eq_zero]
theorem date_good (y : Int) : z84.F y = some (decide (goodY y)) := by
  unfold z84.F
  by_cases h : y ≥ 1
  · rw [bif_t h]; congr 1; exact decide_eq_decide.2 (by omega)
  · rw [bif_f h]; congr 1; symm; exact decide_eq_false (by omega)
theorem date_Leap (y : Int) : z85.F y = some (decide (goodY y ∧ leap y)) := by
  unfold z85.F
  rw [date_good]
  simp only [Option.bind_some, tmod_z (show (0 : Int) < 4 by decide), tmod_z (show (0 : Int) < 100 by decide), tmod_z (show (0 : Int) < 400 by decide)]
  by_cases h : goodY y
  · rw [bif_t h]
    by_cases h4 : y % 4 = 0
    · rw [bif_t h4]
      by_cases h1 : y % 100 = 0
      · rw [decide_eq_true h1]; simp only [Bool.not_true, cond_false]; congr 1; exact decide_eq_decide.2 (by omega)
      · rw [decide_eq_false h1]; simp only [Bool.not_false, cond_true]; congr 1; symm; exact decide_eq_true (by omega)
    · rw [bif_f h4]; congr 1; exact decide_eq_decide.2 (by omega)
  · rw [bif_f h]; congr 1; symm; exact decide_eq_false (fun hh => h hh.1)
theorem date_Days (y m : Int) : z86.F y m = some (dDays y m) := by
  unfold z86.F dDays
  rw [date_good]
  simp only [Option.bind_some]
  by_cases hy : goodY y
  · rw [decide_eq_true hy]
    simp only [Bool.not_true, cond_false]
    by_cases h1 : m < 1
    · rw [bif_t h1, if_pos (by omega)]
    · rw [bif_f h1]
      by_cases h12 : m > 12
      · rw [bif_t h12, if_pos (by omega)]
      · rw [bif_f h12, if_neg (by omega)]
        by_cases h2 : m = 2
        · subst h2
          rw [bif_t rfl, if_pos rfl, date_Leap]
          simp only [Option.bind_some]
          by_cases hl : leap y
          · rw [decide_eq_true ⟨hy, hl⟩, if_pos hl]; rfl
          · rw [decide_eq_false (fun hh => hl hh.2), if_neg hl]; rfl
        · rw [bif_f h2, if_neg h2]
          have : m = 1 ∨ m = 3 ∨ m = 4 ∨ m = 5 ∨ m = 6 ∨ m = 7 ∨ m = 8 ∨ m = 9 ∨ m = 10 ∨ m = 11 ∨ m = 12 := by omega
          rcases this with rfl | rfl | rfl | rfl | rfl | rfl | rfl | rfl | rfl | rfl | rfl <;> rfl
  · rw [decide_eq_false hy, if_pos (.inl hy)]; rfl
theorem ref09_Leap (y : Int) : z11.F y = some (decide (goodY y ∧ leap y)) := by
  unfold z11.F z11.j1
  simp only [tmod_z (show (0 : Int) < 4 by decide), tmod_z (show (0 : Int) < 100 by decide), tmod_z (show (0 : Int) < 400 by decide)]
  by_cases h1 : y < 1
  · rw [bif_t h1]; congr 1; symm; exact decide_eq_false (by omega)
  · rw [bif_f h1]
    by_cases h2 : y > 9999
    · rw [bif_t h2]; congr 1; symm; exact decide_eq_false (by omega)
    · rw [bif_f h2]
      by_cases h4 : y % 400 = 0
      · rw [bif_t h4]; congr 1; symm; exact decide_eq_true (by omega)
      · rw [bif_f h4]
        by_cases h3 : y % 4 = 0
        · rw [bif_t h3]; congr 1
          by_cases h5 : y % 100 = 0
          · rw [decide_eq_true h5]; symm; exact decide_eq_false (by omega)
          · rw [decide_eq_false h5]; symm; exact decide_eq_true (by omega)
        · rw [bif_f h3]; congr 1; symm; exact decide_eq_false (by omega)
theorem ref09_Days (y m : Int) : z12.F y m = some (dDays y m) := by
  unfold z12.F z12.j1 dDays
  by_cases h0 : y < 1
  · rw [bif_t h0, if_pos (by omega)]
  · rw [bif_f h0]
    by_cases h9 : y > 9999
    · rw [bif_t h9, if_pos (by omega)]
    · rw [bif_f h9]
      by_cases h1 : m < 1
      · rw [bif_t h1, if_pos (by omega)]
      · rw [bif_f h1]
        by_cases h12 : m > 12
        · rw [bif_t h12, if_pos (by omega)]
        · rw [bif_f h12, if_neg (by omega)]
          by_cases h2 : m = 2
          · rw [bif_t h2, if_pos h2, ref09_Leap]
            simp only [Option.bind_some]
            by_cases hl : leap y
            · rw [decide_eq_true ⟨by omega, hl⟩, if_pos hl]; rfl
            · rw [decide_eq_false (fun hh => hl hh.2), if_neg hl]; rfl
          · rw [bif_f h2, if_neg h2]
            by_cases g4 : m = 4
            · rw [bif_t g4, if_pos (.inl g4)]
            · rw [bif_f g4]
              by_cases g6 : m = 6
              · rw [bif_t g6, if_pos (by omega)]
              · rw [bif_f g6]
                by_cases g9 : m = 9
                · rw [bif_t g9, if_pos (by omega)]
                · rw [bif_f g9]
                  by_cases g11 : m = 11
                  · rw [bif_t g11, if_pos (by omega)]
                  · rw [bif_f g11, if_neg (by omega)]
theorem dDays_le (y m : Int) : 0 ≤ dDays y m ∧ dDays y m ≤ 31 := by
  unfold dDays; split
  · omega
  · split
    · split <;> omega
    · split <;> omega
theorem dDays_ge {y m : Int} (hy : goodY y) (hm : 1 ≤ m ∧ m ≤ 12) : 28 ≤ dDays y m := by
  unfold dDays; rw [if_neg (by omega)]; split
  · split <;> omega
  · split <;> omega
theorem right_good {y m d : Int} (h : right y m d) : goodY y ∧ 1 ≤ m ∧ m ≤ 12 ∧ 1 ≤ d ∧ d ≤ 31 := by
  have h1 := h.2
  have h2 := dDays_le y m
  unfold dDays at h1
  split at h1
  · have := h.1; omega
  · rename_i hn
    have := h.1
    refine ⟨by omega, by omega, by omega, by omega, by omega⟩
theorem date_Check (y m d : Int) : z87.F y m d = some (if right y m d then 0 else 11) := by
  unfold z87.F
  rw [date_Days]
  simp only [Option.bind_some]
  by_cases h : d < 1
  · rw [bif_t h, if_neg (by omega)]
  · rw [bif_f h]
    by_cases h' : d > dDays y m
    · rw [bif_t h', if_neg (by omega)]
    · rw [bif_f h', if_pos (by omega)]
def addM (y m d k : Int) : Int × Int × Int := (((12 * y + m - 1) + k) / 12, ((12 * y + m - 1) + k) % 12 + 1, min d (dDays (((12 * y + m - 1) + k) / 12) (((12 * y + m - 1) + k) % 12 + 1)))
abbrev okM (y m k : Int) : Prop := 12 ≤ (12 * y + m - 1) + k ∧ (12 * y + m - 1) + k < 120000
theorem min_if (a b : Int) : (if a < b then a else b) = min b a := by omega
theorem month_Add {y m d k : Int} : z88.F y m d k = some (if right y m d ∧ okM y m k then ((addM y m d k).1, (addM y m d k).2.1, (addM y m d k).2.2, 0) else (0, 0, 0, 11)) := by
  unfold z88.F
  rw [date_Check]
  simp only [Option.bind_some]
  by_cases h : right y m d
  · have hg := right_good h
    rw [if_pos h]
    simp only [decide_true, Bool.not_true, cond_false]
    by_cases h1 : k < -119988
    · rw [bif_t h1, if_neg (by omega)]
    · rw [bif_f h1]
      by_cases h2 : k > 119988
      · rw [bif_t h2, if_neg (by omega)]
      · rw [bif_f h2]
        unfold z88.j2 z88.j3
        rw [wr_i64 (n := 12 * y) (by omega) (by omega), wr_i64 (n := 12 * y + m) (by omega) (by omega), wr_i64 (n := 12 * y + m - 1) (by omega) (by omega), wr_i64 (n := 12 * y + m - 1 + k) (by omega) (by omega)]
        by_cases h3 : 12 * y + m - 1 + k < 12
        · rw [bif_t h3, if_neg (by omega)]
        · rw [bif_f h3, tdiv_ediv (by omega), wr_i64 (n := (12 * y + m - 1 + k) / 12) (by omega) (by omega)]
          by_cases h4 : (12 * y + m - 1 + k) / 12 > 9999
          · rw [bif_t h4, if_neg (by omega)]
          · rw [bif_f h4, tmod_emod (by omega), wr_i64 (n := (12 * y + m - 1 + k) % 12 + 1) (by omega) (by omega), date_Days, if_pos (by exact ⟨h, by omega⟩)]
            simp only [Option.bind_some, min_if]
            rfl
  · rw [if_neg h, if_neg (fun hh => h hh.1)]; rfl
def aheadY (y : Int) : Int := 365 * (y - 1) + (y - 1) / 4 - (y - 1) / 100 + (y - 1) / 400
def cumD (y m : Int) : Int := (367 * m - 362) / 12 - (if m ≤ 2 then 0 else if leap y then 1 else 2)
def num (y m d : Int) : Int := aheadY y + cumD y m + d
def dcmp (a b c a' b' c' : Int) : Int := if a < a' then -1 else if a' < a then 1 else if b < b' then -1 else if b' < b then 1 else if c < c' then -1 else if c' < c then 1 else 0
theorem or3 (x y z : Int) : z94.F [x, y, z] = some (if x ≠ 0 then x else if y ≠ 0 then y else z) := by
  have e0 : wr .i64 (0 + 1) = 1 := by decide
  have e1 : wr .i64 (1 + 1) = 2 := by decide
  have e2 : wr .i64 (2 + 1) = 3 := by decide
  have r3 : Runs (fun rec i => z94.l0P 0 [x, y, z] 3 rec some i) 3 (.inl 3) := .done fun rec => by unfold z94.l0P; rw [bif_f (by decide)]
  have r2 : Runs (fun rec i => z94.l0P 0 [x, y, z] 3 rec some i) 2 (if z ≠ 0 then .inr z else .inl 3) := by
    by_cases h : z = 0
    · rw [if_neg (by omega)]
      refine .step (fun rec => ?_) r3
      unfold z94.l0P
      rw [bif_t (by decide), if_pos (by simp), show [x, y, z].getD (Int.toNat 2) 0 = z from rfl, decide_eq_true h, e2]; rfl
    · rw [if_pos h]
      refine .done fun rec => ?_
      unfold z94.l0P
      rw [bif_t (by decide), if_pos (by simp), show [x, y, z].getD (Int.toNat 2) 0 = z from rfl, decide_eq_false h]; rfl
  have r1 : Runs (fun rec i => z94.l0P 0 [x, y, z] 3 rec some i) 1 (if y ≠ 0 then .inr y else if z ≠ 0 then .inr z else .inl 3) := by
    by_cases h : y = 0
    · rw [if_neg (by omega)]
      refine .step (fun rec => ?_) r2
      unfold z94.l0P
      rw [bif_t (by decide), if_pos (by simp), show [x, y, z].getD (Int.toNat 1) 0 = y from rfl, decide_eq_true h, e1]; rfl
    · rw [if_pos h]
      refine .done fun rec => ?_
      unfold z94.l0P
      rw [bif_t (by decide), if_pos (by simp), show [x, y, z].getD (Int.toNat 1) 0 = y from rfl, decide_eq_false h]; rfl
  have r0 : Runs (fun rec i => z94.l0P 0 [x, y, z] 3 rec some i) 0 (if x ≠ 0 then .inr x else if y ≠ 0 then .inr y else if z ≠ 0 then .inr z else .inl 3) := by
    by_cases h : x = 0
    · rw [if_neg (by omega)]
      refine .step (fun rec => ?_) r1
      unfold z94.l0P
      rw [bif_t (by decide), if_pos (by simp), show [x, y, z].getD (Int.toNat 0) 0 = x from rfl, decide_eq_true h, e0]; rfl
    · rw [if_pos h]
      refine .done fun rec => ?_
      unfold z94.l0P
      rw [bif_t (by decide), if_pos (by simp), show [x, y, z].getD (Int.toNat 0) 0 = x from rfl, decide_eq_false h]; rfl
  have e : z94.l0 0 [x, y, z] 3 0 = _ := r0.lfp
  unfold z94.F
  show ((z94.l0 0 [x, y, z] 3 0).bind _) = _
  rw [e]
  simp only [Option.bind_some]
  by_cases hx : x = 0 <;> by_cases hy : y = 0 <;> by_cases hz : z = 0 <;> simp [hx, hy, hz]
theorem date_Cmp (a b c a' b' c' : Int) : z95.F a b c a' b' c' = some (dcmp a b c a' b' c') := by
  unfold z95.F
  rw [cmp_int]
  simp only [Option.bind_some]
  rw [cmp_int]
  simp only [Option.bind_some]
  rw [cmp_int]
  simp only [Option.bind_some]
  rw [or3]
  simp only [Option.bind_some]
  congr 1
  unfold cmpI dcmp
  rcases Int.lt_trichotomy a a' with h | h | h <;> rcases Int.lt_trichotomy b b' with g | g | g <;> rcases Int.lt_trichotomy c c' with k | k | k <;>
    (repeat' split) <;> omega
end Go.Proofs.YtgjncgiekniniaaGreatDoor.A
end
section
set_option linter.unusedVariables false
set_option linter.unusedSimpArgs false
namespace Go.Proofs.YtgjncgiekniniaaGreatDoor.A
open Go
theorem tv_sz {s : List UInt8} (h : digits s) : sz (tv 0 s).toNat ≤ s.length := sz_le (by have := tv_bound h; omega)
theorem mDigits_sz (s : List UInt8) : sz (mDigits s).1 ≤ 4096 := by
  have h0 : sz 0 ≤ 4096 := by rw [sz_zero]; omega
  unfold mDigits
  split
  · exact h0
  · split
    · rename_i h1 h2
      unfold numOK at h2
      simp only [Bool.and_eq_true] at h2
      have := tv_sz (digs_iff.1 h2.1.2)
      show sz (tv 0 s).toNat ≤ 4096
      omega
    · exact h0
theorem mWhole_sz (s : List UInt8) : sz (mWhole s).1.natAbs ≤ 4096 := by
  have h := mDigits_sz (cutNeg s).1
  have h0 : sz 0 ≤ 4096 := by rw [sz_zero]; omega
  unfold mWhole
  split
  · exact h0
  · split
    · exact h0
    · show sz (if _ then _ else _ : Int).natAbs ≤ _
      split
      · rw [Int.natAbs_neg]; exact h
      · exact h
def mMoney (s : List UInt8) : Int × Int :=
  if (mWhole s).2 ≠ 0 then (0, (mWhole s).2) else if (mWhole s).1 < 0 ∨ 10 ^ 30 < (mWhole s).1 then (0, 19) else ((mWhole s).1, 0)
theorem terms_greatest : z46.F = some (lb (Int.natAbs (10 ^ 30)), neg (10 ^ 30)) := by
  unfold z46.F
  have h := digits_Ten (t := 30) (by decide)
  rw [show ((30 : Nat) : Int) = 30 from rfl] at h
  rw [h]
  simp only [Option.bind_some]
  rw [whole_at (z := 10 ^ 30) (by decide) (.inr ⟨rfl, by decide⟩)]
  rfl
theorem terms_Money (s : List UInt8) : z47.F s = some (lb (mMoney s).1.natAbs, neg (mMoney s).1, (mMoney s).2) := by
  have hz := mWhole_sz s
  unfold z47.F mMoney
  rw [whole_Parse]
  simp only [Option.bind_some]
  generalize mWhole s = w at *
  have hn : lb (Int.natAbs 0) = [] := lb_zero
  by_cases h : w.2 = 0
  · rw [decide_eq_true h, if_neg (by omega)]
    simp only [Bool.not_true, cond_false]
    rw [whole_Sign]
    simp only [Option.bind_some]
    by_cases h1 : w.1 < 0
    · rw [bif_t (cmpI_lt0.2 h1), if_pos (.inl h1), hn]; rfl
    · rw [bif_f (fun h => h1 (cmpI_lt0.1 h)), terms_greatest]
      simp only [Option.bind_some]
      have l1 := lb_sz w.1.natAbs
      have l2 : (lb (Int.natAbs (10 ^ 30))).length ≤ 31 := Nat.le_trans (lb_sz _) (sz_le (by decide))
      have l3 : sz w.1.natAbs ≤ 4096 := hz
      rw [whole_Cmp (by omega)]
      simp only [Option.bind_some]
      by_cases h2 : 10 ^ 30 < w.1
      · rw [bif_t (cmpI_gt0.2 h2), if_pos (.inr h2), hn]; rfl
      · rw [bif_f (fun h => h2 (cmpI_gt0.1 h)), if_neg (by omega)]
  · rw [decide_eq_false h, if_pos h, hn]; rfl
theorem mDec_bound (s : List UInt8) : (mDec s).2.1 ≤ 64 ∧ sz (mDec s).1.natAbs ≤ 4096 := by
  have h0 : sz (Int.natAbs 0) ≤ 4096 := by show sz 0 ≤ 4096; rw [sz_zero]; omega
  unfold mDec
  split
  · exact ⟨Nat.zero_le _, h0⟩
  · rename_i hl
    have hc := cutNeg_len s
    generalize (cutNeg s).1 = t at *
    unfold decOf
    split
    · exact ⟨Nat.zero_le _, h0⟩
    · rename_i hp
      split
      · exact ⟨Nat.zero_le _, h0⟩
      · split
        · exact ⟨Nat.zero_le _, h0⟩
        · rename_i h64
          refine ⟨by show List.length _ ≤ 64; omega, ?_⟩
          have hd : digits ((cutDot t).1 ++ (cutDot t).2.getD []) ∧ ((cutDot t).1 ++ (cutDot t).2.getD []).length ≤ 4096 := by
            simp only [Bool.or_eq_true, not_or, Bool.not_eq_true', Bool.not_eq_false, Bool.and_eq_true] at hp
            obtain ⟨⟨p1, p2⟩, p3⟩ := hp
            have q1 := (plainB_digits (by simpa using p1)).1
            cases ho : (cutDot t).2 with
            | none =>
              have := cutDot_none ho
              simp only [Option.getD_none, List.append_nil]
              exact ⟨q1, by rw [this]; omega⟩
            | some b =>
              have := cutDot_some ho
              rw [ho] at p2
              have q2 := (plainB_digits (s := b) (by simpa using p2)).1
              simp only [Option.getD_some]
              refine ⟨fun x hx => (List.mem_append.1 hx).elim (q1 x) (q2 x), ?_⟩
              have hlen : t.length = (cutDot t).1.length + (b.length + 1) := by
                conv => lhs; rw [this]
                simp
              rw [List.length_append]; omega
          have h1 := Nat.le_trans (tv_sz hd.1) hd.2
          have h2 := (tv_bound hd.1).1
          show sz (if _ then _ else _ : Int).natAbs ≤ _
          have e : ∀ z : Int, 0 ≤ z → z.natAbs = z.toNat := fun z hz => by omega
          split
          · rw [Int.natAbs_neg, e _ h2]; exact h1
          · rw [e _ h2]; exact h1
theorem dec_ten {t : Nat} (ht : t ≤ 4096) : z56.F (t : Int) = some (lb (10 ^ t : Nat), false) := by
  unfold z56.F
  rw [digits_Ten ht]
  simp only [Option.bind_some]
  rw [whole_Of]; rfl
theorem dec_ten' {t : Nat} (ht : t ≤ 4096) : z56.F (t : Int) = some (lb ((10 ^ t : Nat) : Int).natAbs, neg ((10 ^ t : Nat) : Int)) := by
  rw [dec_ten ht]
  have : neg ((10 ^ t : Nat) : Int) = false := decide_eq_false (Int.not_lt.2 (Int.natCast_nonneg _))
  rw [this]; rfl
theorem sz_ten (t : Nat) : sz (10 ^ t) ≤ t + 1 := sz_le (by rw [Nat.pow_succ]; have : 0 < 10 ^ t := Nat.pow_pos (by decide); omega)
theorem dec_at {c : Int} {s t : Nat} (h : s ≤ t) (ht : t ≤ 4096) (hc : sz c.natAbs ≤ 100000000) : z57.F (lb c.natAbs) (neg c) (s : Int) (t : Int) = some (lb (c * (10 ^ (t - s) : Nat)).natAbs, neg (c * (10 ^ (t - s) : Nat))) := by
  have l1 := lb_sz c.natAbs
  have l2 := lb_sz ((10 ^ (t - s) : Nat) : Int).natAbs
  have l3 := sz_ten (t - s)
  have l4 : sz ((10 ^ (t - s) : Nat) : Int).natAbs = sz (10 ^ (t - s)) := rfl
  unfold z57.F
  rw [wr_i64 (by omega) (by omega), show (t : Int) - s = ((t - s : Nat) : Int) by omega, dec_ten' (by omega)]
  simp only [Option.bind_some]
  rw [whole_Mul (by omega)]
  rfl
theorem dec_Cmp {c c' : Int} {s s' : Nat} (hs : s ≤ 2000) (hs' : s' ≤ 2000) (hc : sz c.natAbs ≤ 100000000) (hc' : sz c'.natAbs ≤ 100000000) :
    z58.F (lb c.natAbs) (neg c) (s : Int) (lb c'.natAbs) (neg c') (s' : Int) = some (cmpI (c * (10 ^ (max s s' - s) : Nat)) (c' * (10 ^ (max s s' - s') : Nat))) := by
  have e : (if (s' : Int) > (s : Int) then (s' : Int) else (s : Int)) = ((max s s' : Nat) : Int) := by split <;> omega
  have m1 := sz_mul c.natAbs (10 ^ (max s s' - s))
  have m2 := sz_mul c'.natAbs (10 ^ (max s s' - s'))
  have t1 := sz_ten (max s s' - s)
  have t2 := sz_ten (max s s' - s')
  have l1 := lb_sz (c * (10 ^ (max s s' - s) : Nat)).natAbs
  have l2 := lb_sz (c' * (10 ^ (max s s' - s') : Nat)).natAbs
  have e1 : (c * (10 ^ (max s s' - s) : Nat)).natAbs = c.natAbs * 10 ^ (max s s' - s) := by rw [Int.natAbs_mul]; rfl
  have e2 : (c' * (10 ^ (max s s' - s') : Nat)).natAbs = c'.natAbs * 10 ^ (max s s' - s') := by rw [Int.natAbs_mul]; rfl
  have hc1 : sz c.natAbs ≤ 100000000 := hc
  have hc2 : sz c'.natAbs ≤ 100000000 := hc'
  rw [← e1] at m1
  rw [← e2] at m2
  unfold z58.F
  rw [e, dec_at (by omega) (by omega) hc]
  simp only [Option.bind_some]
  rw [dec_at (by omega) (by omega) hc']
  simp only [Option.bind_some]
  rw [whole_Cmp (by omega)]
  rfl
theorem mkRat_num_le (n : Int) {d : Nat} (hd : 0 < d) : (mkRat n d).num.natAbs ≤ n.natAbs := by
  rw [Rat.num_mkRat, if_neg (by omega), Nat.gcd_comm]
  have hg : 0 < Nat.gcd n.natAbs d := Nat.gcd_pos_of_pos_right _ hd
  rw [(abs_ediv (Nat.gcd_dvd_left n.natAbs d) hg).1]
  exact Nat.div_le_self _ _
theorem mkRat_den_le (n : Int) {d : Nat} (hd : 0 < d) : (mkRat n d).den ≤ d := by
  rw [Rat.den_mkRat, if_neg (by omega)]
  exact Nat.div_le_self _ _
theorem dec_Frac {M : Nat} (hD : DivTo M) {c : Int} {s : Nat} (hs : s ≤ 4096) (hc : c.natAbs ≤ M) (hM : 10 ^ s ≤ M) : z70.F (lb c.natAbs) (neg c) (s : Int) = some (fr (mkRat c (10 ^ s))) := by
  have hp : 0 < 10 ^ s := Nat.pow_pos (by decide)
  have l := sz_ten s
  unfold z70.F
  rw [dec_ten' hs]
  simp only [Option.bind_some]
  rw [frac_Of (num := c) (den := ((10 ^ s : Nat) : Int)) hD (by exact_mod_cast (Nat.ne_of_gt hp)) hc (by show 10 ^ s ≤ M; exact hM) (by show sz (10 ^ s) ≤ _; omega), Rat.divInt_ofNat]
  rfl
def mRate (s : List UInt8) : Rat × Int :=
  if (mDec s).2.2 ≠ 0 then (0, (mDec s).2.2)
  else if (mDec s).1 < 0 ∨ 1000 * (10 ^ (mDec s).2.1 : Nat) < (mDec s).1 ∨ 12 < (mDec s).2.1 then (0, 18)
  else (mkRat (mDec s).1 (10 ^ (mDec s).2.1) / 100, 0)
theorem fr_zero : fr 0 = ([], false, []) := by
  show (lb 0, neg 0, lb 0) = _
  rw [lb_zero]; rfl
theorem rate0 (e : Int) : some (([] : List Int), false, ([] : List Int), e) = some ((fr (0 : Rat)).1, (fr (0 : Rat)).2.1, (fr (0 : Rat)).2.2, e) := by
  rw [fr_zero]
theorem fr_100 : fr 100 = (lb (Int.natAbs 100), neg 100, []) := by
  show (lb 100, neg 100, lb 0) = _
  rw [lb_zero]; rfl
theorem divTo_small : DivTo 1000000000000000000 := fun x y hx hy h0 => DivOK_small (by omega) h0
theorem terms_Rate (s : List UInt8) : z74.F s = some ((fr (mRate s).1).1, (fr (mRate s).1).2.1, (fr (mRate s).1).2.2, (mRate s).2) := by
  obtain ⟨hb1, hb2⟩ := mDec_bound s
  unfold z74.F mRate
  rw [dec_Parse]
  simp only [Option.bind_some, decR]
  generalize mDec s = d at *
  obtain ⟨c, sc, e⟩ := d
  simp only at *
  have hcz : sz c.natAbs ≤ 4096 := hb2
  by_cases h : e = 0
  · rw [decide_eq_true h, if_neg (by omega)]
    simp only [Bool.not_true, cond_false]
    rw [whole_From (by omega)]
    simp only [Option.bind_some]
    have ho : z53.F (lb (Int.natAbs 1000)) (neg 1000) 0 = some (lb (Int.natAbs 1000), neg 1000, 0, 0) := rfl
    rw [ho]
    simp only [Option.bind_some]
    unfold z54.F z59.F
    simp only [Option.bind_some]
    rw [whole_Sign]
    simp only [Option.bind_some]
    by_cases h1 : c < 0
    · rw [bif_t (cmpI_lt0.2 h1), if_pos (.inl h1)]; exact rate0 18
    · rw [bif_f (fun h => h1 (cmpI_lt0.1 h))]
      have hk : sz (Int.natAbs 1000) ≤ 4 := sz_le (by decide)
      have hcmp := dec_Cmp (c := c) (c' := 1000) (s := sc) (s' := 0) (by omega) (by omega) (by omega) (by omega)
      rw [show ((0 : Nat) : Int) = 0 from rfl] at hcmp
      rw [hcmp]
      simp only [Option.bind_some, Nat.max_zero, Nat.sub_self, Nat.pow_zero, Nat.sub_zero, Int.natCast_one, Int.mul_one]
      by_cases h2 : 1000 * ((10 ^ sc : Nat) : Int) < c
      · rw [bif_t (cmpI_gt0.2 h2), if_pos (.inr (.inl h2))]; exact rate0 18
      · rw [bif_f (fun h => h2 (cmpI_gt0.1 h))]
        by_cases h3 : 12 < sc
        · rw [bif_t (by omega), if_pos (.inr (.inr h3))]; exact rate0 18
        · rw [bif_f (by omega), if_neg (by omega)]
          have hp12 : 10 ^ sc ≤ 10 ^ 12 := Nat.pow_le_pow_right (by decide) (by omega)
          have hp0 : 0 < 10 ^ sc := Nat.pow_pos (by decide)
          have n1 := mkRat_num_le c hp0
          have n2 := mkRat_den_le c hp0
          have hd0 := (mkRat c (10 ^ sc)).den_pos
          unfold z74.j8
          rw [dec_Frac divTo_small (by omega) (by omega) (by omega)]
          simp only [Option.bind_some]
          rw [whole_From (by omega)]
          simp only [Option.bind_some]
          have hf : z48.F (lb (Int.natAbs 100)) (neg 100) = some (fr 100) := by rw [fr_100]; rfl
          rw [hf]
          simp only [Option.bind_some]
          generalize mkRat c (10 ^ sc) = q at *
          have hq := frac_Quo divTo_small (q := q) (r := 100) (by decide)
            (by rw [show (100 : Rat).den = 1 from rfl]; simp; omega)
            (by rw [show (100 : Rat).num = 100 from rfl, Int.natAbs_mul]; show q.den * 100 ≤ _; omega)
            (by rw [show (100 : Rat).den = 1 from rfl]
                have a1 : sz q.num.natAbs ≤ 20 := sz_le (by omega)
                have a2 : sz 1 ≤ 1 := sz_le (by decide)
                omega)
            (by rw [show (100 : Rat).num = 100 from rfl]
                have a1 : sz q.den ≤ 20 := sz_le (by omega)
                have a2 : sz (Int.natAbs 100) ≤ 3 := sz_le (by decide)
                omega)
          rw [hq]
          rfl
  · rw [decide_eq_false h, if_pos h]; exact rate0 e
structure Tm where
  p : List UInt8
  r : List UInt8
  kind : Int
  basis : Int
  mode : Int
  y : Int
  m : Int
  d : Int
  every : Int
  count : Int
abbrev everyOK (e : Int) : Prop := e = 1 ∨ e = 2 ∨ e = 3 ∨ e = 4 ∨ e = 6 ∨ e = 12
abbrev kindsOK (t : Tm) : Prop := (0 ≤ t.kind ∧ t.kind ≤ 2) ∧ (0 ≤ t.basis ∧ t.basis ≤ 2) ∧ (0 ≤ t.mode ∧ t.mode ≤ 4) ∧ everyOK t.every
def mCheck (t : Tm) : Int :=
  if (mMoney t.p).2 ≠ 0 then (mMoney t.p).2 else if (mMoney t.p).1 = 0 then 19 else if (mRate t.r).2 ≠ 0 then (mRate t.r).2
  else if ¬ kindsOK t then 2 else if t.count < 1 ∨ 1200 < t.count then 6 else if right t.y t.m t.d ∧ okM t.y t.m (t.every * t.count) then 0 else 11
theorem terms_Word (k : Int) : ∃ w, z76.F k = some w ∧ decide (w = []) = decide (¬ (0 ≤ k ∧ k ≤ 2)) := by
  unfold z76.F
  by_cases h : k < 0
  · rw [bif_t h]; exact ⟨_, rfl, by simp; omega⟩
  · rw [bif_f h]
    by_cases h' : k ≥ 3
    · rw [bif_t h']; exact ⟨_, rfl, by simp; omega⟩
    · rw [bif_f h']
      have : k = 0 ∨ k = 1 ∨ k = 2 := by omega
      rcases this with rfl | rfl | rfl <;> exact ⟨_, rfl, rfl⟩
theorem basis_Word (k : Int) : ∃ w, z82.F k = some w ∧ decide (w = []) = decide (¬ (0 ≤ k ∧ k ≤ 2)) := by
  unfold z82.F z80.F
  by_cases h : k ≥ 0
  · rw [bif_t h]
    by_cases h' : k < 3
    · have : k = 0 ∨ k = 1 ∨ k = 2 := by omega
      rcases this with rfl | rfl | rfl <;> exact ⟨_, rfl, rfl⟩
    · rw [decide_eq_false h']; exact ⟨_, rfl, by simp; omega⟩
  · rw [bif_f h]; exact ⟨_, rfl, by simp; omega⟩
theorem mode_Word (k : Int) : ∃ w, z79.F k = some w ∧ decide (w = []) = decide (¬ (0 ≤ k ∧ k ≤ 4)) := by
  unfold z79.F z77.F
  by_cases h : k ≥ 0
  · rw [bif_t h]
    by_cases h' : k < 5
    · have : k = 0 ∨ k = 1 ∨ k = 2 ∨ k = 3 ∨ k = 4 := by omega
      rcases this with rfl | rfl | rfl | rfl | rfl <;> exact ⟨_, rfl, rfl⟩
    · rw [decide_eq_false h']; exact ⟨_, rfl, by simp; omega⟩
  · rw [bif_f h]; exact ⟨_, rfl, by simp; omega⟩
theorem tmod12 {e : Int} (h : 1 ≤ e) (h5 : e ≠ 5) : Int.tmod 12 e = 0 ↔ everyOK e := by
  rw [tmod_emod (by decide)]
  by_cases hb : 12 < e
  · rw [Int.emod_eq_of_lt (by decide) hb]; omega
  · have : e = 1 ∨ e = 2 ∨ e = 3 ∨ e = 4 ∨ e = 6 ∨ e = 7 ∨ e = 8 ∨ e = 9 ∨ e = 10 ∨ e = 11 ∨ e = 12 := by omega
    rcases this with rfl | rfl | rfl | rfl | rfl | rfl | rfl | rfl | rfl | rfl | rfl <;> decide
theorem terms_odd (t : Tm) : z83.F t.p t.r t.kind t.basis t.mode t.y t.m t.d t.every t.count = some (decide (¬ kindsOK t)) := by
  obtain ⟨w1, e1, d1⟩ := terms_Word t.kind
  obtain ⟨w2, e2, d2⟩ := basis_Word t.basis
  obtain ⟨w3, e3, d3⟩ := mode_Word t.mode
  unfold z83.F
  rw [e1]
  simp only [Option.bind_some]
  rw [d1]
  by_cases h1 : 0 ≤ t.kind ∧ t.kind ≤ 2
  · rw [bif_f (fun hh => hh h1), e2]
    simp only [Option.bind_some]
    rw [d2]
    by_cases h2 : 0 ≤ t.basis ∧ t.basis ≤ 2
    · rw [bif_f (fun hh => hh h2), e3]
      simp only [Option.bind_some]
      rw [d3]
      by_cases h3 : 0 ≤ t.mode ∧ t.mode ≤ 4
      · rw [bif_f (fun hh => hh h3)]
        by_cases h4 : t.every < 1
        · rw [bif_t h4]; congr 1; symm; exact decide_eq_true (by omega)
        · rw [bif_f h4]
          by_cases h5 : t.every = 5
          · rw [bif_t h5]; congr 1; symm; exact decide_eq_true (by omega)
          · rw [bif_f h5, if_neg (by omega)]
            congr 1
            have := tmod12 (e := t.every) (by omega) h5
            rw [← decide_not]
            exact decide_eq_decide.2 (by omega)
      · rw [bif_t h3]; congr 1; symm; exact decide_eq_true (by omega)
    · rw [bif_t h2]; congr 1; symm; exact decide_eq_true (by omega)
  · rw [bif_t h1]; congr 1; symm; exact decide_eq_true (by omega)
theorem every_bound {e c : Int} (he : everyOK e) (hc : 1 ≤ c ∧ c ≤ 1200) : 1 ≤ e * c ∧ e * c ≤ 14400 := by
  rcases he with rfl | rfl | rfl | rfl | rfl | rfl <;> omega
theorem terms_Check (t : Tm) : z89.F t.p t.r t.kind t.basis t.mode t.y t.m t.d t.every t.count = some (mCheck t) := by
  unfold z89.F mCheck
  rw [terms_Money]
  simp only [Option.bind_some]
  by_cases h1 : (mMoney t.p).2 = 0
  · rw [decide_eq_true h1, if_neg (by omega)]
    simp only [Bool.not_true, cond_false]
    rw [whole_Sign]
    simp only [Option.bind_some]
    by_cases h2 : (mMoney t.p).1 = 0
    · rw [bif_t (cmpI_eq0.2 h2), if_pos h2]
    · rw [bif_f (fun h => h2 (cmpI_eq0.1 h)), if_neg h2, terms_Rate]
      simp only [Option.bind_some]
      by_cases h3 : (mRate t.r).2 = 0
      · rw [decide_eq_true h3, if_neg (by omega)]
        simp only [Bool.not_true, cond_false]
        rw [terms_odd]
        simp only [Option.bind_some]
        by_cases h4 : kindsOK t
        · rw [bif_f (fun hh => hh h4), if_neg (fun hh => hh h4)]
          by_cases h5 : t.count < 1
          · rw [bif_t h5, if_pos (.inl h5)]
          · rw [bif_f h5]
            by_cases h6 : t.count > 1200
            · rw [bif_t h6, if_pos (.inr h6)]
            · have hb := every_bound (e := t.every) (c := t.count) h4.2.2.2 (by omega)
              rw [bif_f h6, if_neg (by omega), wr_i64 (by omega) (by omega), month_Add]
              simp only [Option.bind_some]
              by_cases h7 : right t.y t.m t.d ∧ okM t.y t.m (t.every * t.count)
              · rw [if_pos h7, if_pos h7]
              · rw [if_neg h7, if_neg h7]
        · rw [bif_t h4, if_pos h4]
      · rw [decide_eq_false h3, if_pos h3]; rfl
  · rw [decide_eq_false h1, if_pos h1]; rfl
end Go.Proofs.YtgjncgiekniniaaGreatDoor.A
end
section
set_option linter.unusedVariables false
set_option linter.unusedSimpArgs false
namespace Go.Proofs.YtgjncgiekniniaaGreatDoor.A
open Go
theorem tmod_fix {a b : Int} (hb : 0 < b) : (Int.tmod a b < 0 → Int.tmod a b + b = a % b) ∧ (¬ Int.tmod a b < 0 → Int.tmod a b = a % b) ∧ -b < Int.tmod a b ∧ Int.tmod a b < b := by
  have h1 := Int.emod_nonneg a (show b ≠ 0 by omega)
  have h2 := Int.emod_lt_of_pos a hb
  have h3 := Int.tmod_eq_emod (a := a) (b := b)
  by_cases h : 0 ≤ a ∨ b ∣ a
  · rw [if_pos h] at h3; omega
  · rw [if_neg h] at h3
    have : a % b ≠ 0 := fun e => h (.inr (Int.dvd_of_emod_eq_zero e))
    omega
theorem ref09_Make {a b c n : Int} (hn : 1 ≤ n ∧ n ≤ 9999) : ∃ y m d, z13.F a b c n = some (y, m, d) ∧ right y m d ∧ y ≤ n := by
  have f1 := tmod_fix (a := a) (b := n) (by omega)
  have f2 := tmod_fix (a := b) (b := 12) (by omega)
  have m1 := Int.emod_nonneg a (show n ≠ 0 by omega)
  have m2 := Int.emod_lt_of_pos a (show 0 < n by omega)
  have hd := dDays_ge (y := a % n + 1) (m := b % 12 + 1) (by omega) (by omega)
  have hd' := dDays_le (a % n + 1) (b % 12 + 1)
  have f3 := tmod_fix (a := c) (b := dDays (a % n + 1) (b % 12 + 1)) (by omega)
  have m5 := Int.emod_nonneg c (show dDays (a % n + 1) (b % 12 + 1) ≠ 0 by omega)
  have m6 := Int.emod_lt_of_pos c (show 0 < dDays (a % n + 1) (b % 12 + 1) by omega)
  refine ⟨a % n + 1, b % 12 + 1, c % dDays (a % n + 1) (b % 12 + 1) + 1, ?_, ⟨by omega, by omega⟩, by omega⟩
  have hj8 : ∀ j, j = b % 12 → Int.tmod a n = a % n → z13.j8 a n j c = some (a % n + 1, b % 12 + 1, c % dDays (a % n + 1) (b % 12 + 1) + 1) := fun j hj ht => by
    subst hj
    unfold z13.j8
    rw [ht, wr_i64 (n := a % n + 1) (by omega) (by omega), wr_i64 (n := b % 12 + 1) (by omega) (by omega), ref09_Days]
    simp only [Option.bind_some]
    rw [if_neg (by omega)]
    generalize dDays (a % n + 1) (b % 12 + 1) = k at *
    by_cases h : Int.tmod c k < 0
    · rw [bif_t h, wr_i64 (n := Int.tmod c k + k) (by omega) (by omega), f3.1 h, wr_i64 (by omega) (by omega)]
    · rw [bif_f h, f3.2.1 h, wr_i64 (by omega) (by omega)]
  have hj5 : ∀ j, j = b % 12 → Int.tmod a n < 0 → z13.j5 a n j c = some (a % n + 1, b % 12 + 1, c % dDays (a % n + 1) (b % 12 + 1) + 1) := fun j hj ht => by
    subst hj
    unfold z13.j5 z13.j7
    rw [wr_i64 (n := Int.tmod a n + n) (by omega) (by omega), f1.1 ht, wr_i64 (n := a % n + 1) (by omega) (by omega), wr_i64 (n := b % 12 + 1) (by omega) (by omega), ref09_Days]
    simp only [Option.bind_some]
    rw [if_neg (by omega)]
    generalize dDays (a % n + 1) (b % 12 + 1) = k at *
    by_cases h : Int.tmod c k < 0
    · rw [bif_t h, wr_i64 (n := Int.tmod c k + k) (by omega) (by omega), f3.1 h, wr_i64 (by omega) (by omega)]
    · rw [bif_f h, f3.2.1 h, wr_i64 (by omega) (by omega)]
  unfold z13.F
  rw [if_neg (by omega)]
  by_cases h1 : Int.tmod a n < 0
  · rw [bif_t h1]
    by_cases h2 : Int.tmod b 12 < 0
    · rw [bif_t h2, wr_i64 (by omega) (by omega), f2.1 h2]; exact hj5 _ rfl h1
    · rw [bif_f h2, f2.2.1 h2]; exact hj5 _ rfl h1
  · rw [bif_f h1]
    by_cases h2 : Int.tmod b 12 < 0
    · rw [bif_t h2, wr_i64 (by omega) (by omega), f2.1 h2]; exact hj8 _ rfl (f1.2.1 h1)
    · rw [bif_f h2, f2.2.1 h2]; exact hj8 _ rfl (f1.2.1 h1)
theorem txt_numOK (n : Nat) : numOK (txt n) = true := by
  unfold numOK
  rw [decide_eq_false (txt_ne n), digs_iff.2 (txt_digits n)]
  by_cases h : n = 0
  · subst h; rfl
  · obtain ⟨b, s, e, hb⟩ := txt_head h
    rw [e]
    have : ((b :: s).getD 0 0).toNat = b.toNat := rfl
    rw [this, decide_eq_false hb]; simp
theorem cutNeg_digits {s : List UInt8} (h : digits s) : cutNeg s = (s, false) := by
  unfold cutNeg
  cases s with
  | nil => rfl
  | cons b t =>
    have hb := h b (by simp)
    unfold digit at hb
    simp only
    rw [if_neg]
    rintro rfl
    simp at hb
theorem mWhole_txt {n : Nat} (h : (txt n).length ≤ 4096) : mWhole (txt n) = ((n : Int), 0) := by
  have hd : mDigits (txt n) = (n, 0) := by
    unfold mDigits
    rw [if_neg (by omega), if_pos (txt_numOK n), tv_txt, Int.toNat_natCast]
  unfold mWhole
  rw [cutNeg_digits (txt_digits n)]
  simp only [hd]
  rw [if_neg (by simp), if_neg (by simp)]
  rfl
theorem mMoney_txt {n : Nat} (h : n ≤ 10 ^ 30) : mMoney (txt n) = ((n : Int), 0) := by
  unfold mMoney
  have hl : (txt n).length ≤ 31 := txt_len (by omega) (by decide)
  rw [mWhole_txt (by omega)]
  have e : (10 : Int) ^ 30 = ((10 ^ 30 : Nat) : Int) := rfl
  rw [if_neg (by simp), if_neg (by rw [e]; omega)]
theorem pad_loop (s : List UInt8) (k : Nat) (hk : k ≤ 1000000000) : ∀ (f : Nat), k + 1 - s.length = f → Runs (fun rec x => z18.l0P (k : Int) rec some x) s (List.replicate f 48 ++ s) := by
  intro f
  induction f generalizing s with
  | zero =>
    intro h
    refine .done fun rec => ?_
    unfold z18.l0P
    rw [bif_f (by omega)]; rfl
  | succ f ih =>
    intro h
    have := ih (48 :: s) (by simp; omega)
    have e : List.replicate f (48 : UInt8) ++ 48 :: s = List.replicate (f + 1) 48 ++ s := by
      rw [List.replicate_succ', List.append_assoc]; rfl
    rw [e] at this
    refine .step (fun rec => ?_) this
    unfold z18.l0P
    rw [bif_t (by omega), if_pos (by simp; omega)]
    rfl
def padded (n k : Nat) : List UInt8 := List.replicate (k + 1 - (txt n).length) 48 ++ txt n
theorem padded_len (n k : Nat) : k < (padded n k).length ∧ (padded n k).length ≤ k + 1 + (txt n).length := by unfold padded; rw [List.length_append, List.length_replicate]; omega
theorem padded_digits (n k : Nat) : digits (padded n k) := fun b hb => by
  rcases List.mem_append.1 hb with h | h
  · rw [List.eq_of_mem_replicate h]; unfold digit; decide
  · exact txt_digits n b h
theorem tv_zeros (f : Nat) (s : List UInt8) : tv 0 (List.replicate f 48 ++ s) = tv 0 s := by
  induction f with
  | zero => rfl
  | succ f ih => rw [List.replicate_succ, List.cons_append]; exact ih
theorem padded_tv (n k : Nat) : tv 0 (padded n k) = n := by unfold padded; rw [tv_zeros, tv_txt]
def decTxt (n k : Nat) : List UInt8 := (padded n k).take ((padded n k).length - k) ++ 46 :: (padded n k).drop ((padded n k).length - k)
theorem ref07_Print {n k : Nat} (hk : 0 < k ∧ k ≤ 1000000) (hn : 4 * (dg n).length ≤ 1000000000) (hl : (txt n).length ≤ 100000000) : z18.F (dg n) false (k : Int) = some (decTxt n k) := by
  have r := pad_loop (txt n) k (by omega) _ rfl
  have e : z18.l0 (k : Int) (txt n) = some (padded n k) := r.lfp
  have pl := padded_len n k
  unfold z18.F
  rw [ref01_Print hn]
  simp only [Option.bind_some]
  rw [e]
  simp only [Option.bind_some]
  have ew : wr .i64 (((padded n k).length : Int) - (k : Int)) = (((padded n k).length - k : Nat) : Int) := by rw [wr_i64 (by omega) (by omega)]; omega
  rw [bif_t (by omega), ew, if_pos (by omega), if_pos (by simp; omega), if_pos (by omega), if_pos (by simp; omega), Int.toNat_natCast]
  unfold z18.j3 decTxt
  simp
theorem cutDot_digits : ∀ {a : List UInt8} (b : List UInt8), digits a → cutDot (a ++ 46 :: b) = (a, some b)
  | [], b, _ => rfl
  | x :: a, b, h => by
    have hx := h x (by simp)
    have ih := cutDot_digits (a := a) b fun y hy => h y (by simp [hy])
    show cutDot (x :: (a ++ 46 :: b)) = _
    unfold cutDot
    rw [if_neg (by rintro rfl; unfold digit at hx; simp at hx), ih]
theorem mDec_txt {n k : Nat} (hk : 0 < k ∧ k ≤ 64) (hl : (txt n).length ≤ 1000) : mDec (decTxt n k) = ((n : Int), k, 0) := by
  have pl := padded_len n k
  have pd := padded_digits n k
  have hda : digits ((padded n k).take ((padded n k).length - k)) := fun b hb => pd b (List.mem_of_mem_take hb)
  have hdb : digits ((padded n k).drop ((padded n k).length - k)) := fun b hb => pd b (List.mem_of_mem_drop hb)
  have la : ((padded n k).take ((padded n k).length - k)).length = (padded n k).length - k := by rw [List.length_take]; omega
  have lb' : ((padded n k).drop ((padded n k).length - k)).length = k := by rw [List.length_drop]; omega
  have hcat : (padded n k).take ((padded n k).length - k) ++ (padded n k).drop ((padded n k).length - k) = padded n k := List.take_append_drop _ _
  have hlead : (decide (1 < ((padded n k).take ((padded n k).length - k)).length) && decide ((((padded n k).take ((padded n k).length - k)).getD 0 0).toNat = 48)) = false := by
    by_cases h1 : 1 < ((padded n k).take ((padded n k).length - k)).length
    · rw [la] at h1
      have h2 : k + 1 < (padded n k).length := by omega
      have h0 : k + 1 - (txt n).length = 0 := by
        unfold padded at h2
        rw [List.length_append, List.length_replicate] at h2; omega
      have e : padded n k = txt n := by unfold padded; rw [h0]; rfl
      have hn : n ≠ 0 := by
        rintro rfl
        rw [e] at h2
        have : (txt 0).length = 1 := rfl
        omega
      obtain ⟨b, s, ht, hb⟩ := txt_head hn
      rw [e, ht]
      have : (((b :: s).take ((b :: s).length - k)).getD 0 0).toNat = b.toNat := by
        rw [e, ht] at h2
        have : (b :: s).length - k = ((b :: s).length - k - 1) + 1 := by omega
        rw [this, List.take_succ_cons]; rfl
      rw [this, decide_eq_false hb, Bool.and_false]
    · rw [decide_eq_false h1, Bool.false_and]
  have hlen : (decTxt n k).length = (padded n k).length + 1 := by
    unfold decTxt; rw [List.length_append, List.length_cons, la, lb']; omega
  have hneg : cutNeg (decTxt n k) = (decTxt n k, false) := by
    have hne : (padded n k).take ((padded n k).length - k) ≠ [] := fun h => by rw [h] at la; simp at la; omega
    unfold decTxt
    cases hc : (padded n k).take ((padded n k).length - k) with
    | nil => exact absurd hc hne
    | cons b t =>
      have hb := hda b (by rw [hc]; simp)
      unfold digit at hb
      unfold cutNeg
      simp only [List.cons_append]
      rw [if_neg (by rintro rfl; simp at hb)]
  have hpa : plainB ((padded n k).take ((padded n k).length - k)) = true := by
    unfold plainB; rw [digs_iff.2 hda, decide_eq_false (fun h => by rw [h] at la; simp at la; omega)]; rfl
  have hpb : plainB ((padded n k).drop ((padded n k).length - k)) = true := by
    unfold plainB; rw [digs_iff.2 hdb, decide_eq_false (fun h => by rw [h] at lb'; simp at lb'; omega)]; rfl
  unfold mDec
  rw [if_neg (by omega), hneg]
  have hcut : cutDot (decTxt n k) = ((padded n k).take ((padded n k).length - k), some ((padded n k).drop ((padded n k).length - k))) := cutDot_digits _ hda
  rw [hcut]
  unfold decOf
  simp only [Option.isSome_some, Bool.true_and, Option.getD_some, hpa, hpb, hlead, Bool.not_true, Bool.or_false, Bool.false_and]
  rw [if_neg (by simp), if_neg (by simp), if_neg (by omega), hcat, padded_tv, lb', if_neg (by simp)]
theorem shr2 (a : Int) : Int.fdiv a (2 ^ (min 2 (64 : Nat))) = a / 4 := by
  rw [Int.fdiv_eq_ediv_of_nonneg _ (by decide)]; rfl
theorem shr4 (a : Int) : Int.fdiv a (2 ^ (min 4 (64 : Nat))) = a / 16 := by
  rw [Int.fdiv_eq_ediv_of_nonneg _ (by decide)]; rfl
theorem tmod_pos {a b : Int} (ha : 0 ≤ a) (hb : 0 < b) : Int.tmod a b = a % b ∧ 0 ≤ a % b ∧ a % b < b := ⟨tmod_emod ha, Int.emod_nonneg a (by omega), Int.emod_lt_of_pos a hb⟩
structure Good (t : Tm) (most : Int) : Prop where
  money : ∃ n : Nat, t.p = txt n ∧ 0 < n ∧ n ≤ 10 ^ 30
  rate : ∃ n k : Nat, t.r = decTxt n k ∧ n < 100000 ∧ 2 ≤ k ∧ k ≤ 8
  kinds : kindsOK t
  date : right t.y t.m t.d
  year : t.y ≤ 9000
  count : 1 ≤ t.count ∧ t.count ≤ most
theorem ref14_Make {a0 a1 a2 a3 a4 a5 a6 a7 a8 a9 a10 a11 most : Int} (h0 : 0 ≤ a0 ∧ a0 < 18446744073709551616) (h1 : 0 ≤ a1 ∧ a1 < 65536) (h2 : 0 ≤ a2 ∧ a2 < 4294967296) (h3 : 0 ≤ a3 ∧ a3 < 256) (h4 : 0 ≤ a4 ∧ a4 < 256) (h5 : 0 ≤ a5 ∧ a5 < 256)
    (h6 : 0 ≤ a6 ∧ a6 < 256) (h7 : 0 ≤ a7 ∧ a7 < 256) (h8 : 0 ≤ a8 ∧ a8 < 256) (hm : 1 ≤ most ∧ most ≤ 1000) :
    ∃ t : Tm, Good t most ∧ z19.F a0 a1 a2 a3 a4 a5 a6 a7 a8 a9 a10 a11 most = some (t.p, t.r, t.kind, t.basis, t.mode, t.y, t.m, t.d, t.every, t.count) := by
  obtain ⟨y, m, d, ed, hd, hy⟩ := ref09_Make (a := a9) (b := a10) (c := a11) (n := 9000) (by omega)
  have w8 : wr .i64 a8 = a8 := wr_i64 (by omega) (by omega)
  have t8 := tmod_pos h8.1 (show (0 : Int) < 7 by decide)
  have t7 := tmod_pos h7.1 (show 0 < most by omega)
  have t6 := tmod_pos h6.1 (show (0 : Int) < 5 by decide)
  have t5 := tmod_pos h5.1 (show (0 : Int) < 3 by decide)
  have t4 := tmod_pos h4.1 (show (0 : Int) < 3 by decide)
  have t3 := tmod_pos h3.1 (show (0 : Int) < 7 by decide)
  have t2 := tmod_pos h2.1 (show (0 : Int) < 100000 by decide)
  have hev : everyOK ([(1 : Int), (1 : Int), (2 : Int), (3 : Int), (4 : Int), (6 : Int), (12 : Int)].getD (a8 % 7).toNat 0) := by
    have : a8 % 7 = 0 ∨ a8 % 7 = 1 ∨ a8 % 7 = 2 ∨ a8 % 7 = 3 ∨ a8 % 7 = 4 ∨ a8 % 7 = 5 ∨ a8 % 7 = 6 := by omega
    rcases this with h | h | h | h | h | h | h <;> rw [h] <;> decide
  have hp : ∀ (x : Int) (p : List UInt8), (∃ n : Nat, p = txt n ∧ 0 < n ∧ n ≤ 10 ^ 30) → Good ⟨p, decTxt (a2 % 100000).toNat (a3 % 7 + 2).toNat, a4 % 3, a5 % 3, a6 % 5, y, m, d, [(1 : Int), (1 : Int), (2 : Int), (3 : Int), (4 : Int), (6 : Int), (12 : Int)].getD (a8 % 7).toNat 0, 1 + a7 % most⟩ most := fun x p h => {
    money := h
    rate := ⟨_, _, rfl, by omega, by omega, by omega⟩
    kinds := ⟨by show 0 ≤ a4 % 3 ∧ a4 % 3 ≤ 2; omega, by show 0 ≤ a5 % 3 ∧ a5 % 3 ≤ 2; omega, by show 0 ≤ a6 % 5 ∧ a6 % 5 ≤ 4; omega, hev⟩
    date := hd
    year := hy
    count := by show 1 ≤ 1 + a7 % most ∧ 1 + a7 % most ≤ most; omega }
  have hrate : ∀ {α : Type} (f : List UInt8 → Option α), ((z10.F (Int.tmod (wr .i64 a2) 100000)).bind fun r7 => ((z18.F r7.1 r7.2 (wr .i64 (Int.tmod (wr .i64 a3) 7 + 2))).bind fun r8 => f r8)) = f (decTxt (a2 % 100000).toNat (a3 % 7 + 2).toNat) := fun f => by
    rw [wr_i64 (n := a2) (by omega) (by omega), wr_i64 (n := a3) (by omega) (by omega), t2.1, t3.1, wr_i64 (n := a3 % 7 + 2) (by omega) (by omega), ref04_From (by omega)]
    simp only [Option.bind_some]
    have e1 : neg (a2 % 100000) = false := decide_eq_false (by omega)
    have e2 : (a2 % 100000).natAbs = (a2 % 100000).toNat := by omega
    have e3 : a3 % 7 + 2 = ((a3 % 7 + 2).toNat : Int) := by omega
    have l1 : (dg (a2 % 100000).toNat).length ≤ 5 := toB_len_le b4 (Nat.lt_of_lt_of_le (show (a2 % 100000).toNat < 100000 by omega) (by decide))
    have l2 : (txt (a2 % 100000).toNat).length ≤ 5 := txt_len (show (a2 % 100000).toNat < 10 ^ 5 by omega) (by decide)
    rw [e1, e2]
    conv => lhs; rw [e3]
    rw [ref07_Print (by omega) (by omega) (by omega)]
    rfl
  have e11 : ((Int.natAbs 100000000000 : Nat)) = 100000000000 := rfl
  unfold z19.F
  rw [w8, t8.1, if_pos ⟨t8.2.1, by simp; omega⟩, if_neg (by omega), ed]
  simp only [Option.bind_some]
  rw [shr2, shr4, wr_i64 (n := a0 / 4) (by omega) (by omega), wr_i64 (n := a0 / 4 + 1) (by omega) (by omega), wr_i64 (n := a0 / 16) (by omega) (by omega), wr_i64 (n := a0 / 16 + 1) (by omega) (by omega)]
  rw [wr_i64 (n := a4) (by omega) (by omega), wr_i64 (n := a5) (by omega) (by omega), wr_i64 (n := a6) (by omega) (by omega), wr_i64 (n := a7) (by omega) (by omega), t4.1, t5.1, t6.1, t7.1, wr_i64 (n := 1 + a7 % most) (by omega) (by omega)]
  rw [ref04_From (z := a0 / 4 + 1) (by omega)]
  simp only [Option.bind_some]
  by_cases hc : a1 > 60000
  · rw [bif_t hc, ref04_From (by omega)]
    simp only [Option.bind_some]
    rw [ref04_From (by omega)]
    simp only [Option.bind_some]
    have g1 : (dg (a0 / 16 + 1).natAbs).length ≤ 20 := Nat.le_trans (dg_sz _) (sz_le (by omega))
    have g2 : (dg (Int.natAbs 100000000000)).length ≤ 20 := Nat.le_trans (dg_sz _) (sz_le (by decide))
    have hb : ((a0 / 16 + 1) * 100000000000).natAbs = (a0 / 16 + 1).toNat * 100000000000 := by omega
    have g3 : (dg ((a0 / 16 + 1) * 100000000000).natAbs).length ≤ 40 := Nat.le_trans (dg_sz _) (sz_le (by omega))
    have g4 : (txt ((a0 / 16 + 1) * 100000000000).natAbs).length ≤ 40 := txt_len (by omega) (by decide)
    rw [ref04_Mul (by omega)]
    simp only [Option.bind_some]
    rw [ref04_Print (by omega) (by omega), if_neg (by omega)]
    simp only [Option.bind_some]
    refine ⟨_, hp 0 (txt ((a0 / 16 + 1) * 100000000000).natAbs) ⟨_, rfl, by omega, by omega⟩, ?_⟩
    rw [hrate]
  · rw [bif_f hc]
    have g3 : (dg (a0 / 4 + 1).natAbs).length ≤ 20 := Nat.le_trans (dg_sz _) (sz_le (by omega))
    have g4 : (txt (a0 / 4 + 1).natAbs).length ≤ 20 := txt_len (by omega) (by decide)
    rw [ref04_Print (by omega) (by omega), if_neg (by omega)]
    simp only [Option.bind_some]
    refine ⟨_, hp 0 (txt (a0 / 4 + 1).natAbs) ⟨_, rfl, by omega, by omega⟩, ?_⟩
    rw [hrate]
theorem Good.moneyOK {t : Tm} {most : Int} (h : Good t most) : (mMoney t.p).2 = 0 ∧ (mMoney t.p).1 ≠ 0 := by
  obtain ⟨n, e, h1, h2⟩ := h.money
  rw [e, mMoney_txt h2]
  exact ⟨rfl, by show (n : Int) ≠ 0; omega⟩
theorem Good.rateOK {t : Tm} {most : Int} (h : Good t most) : (mRate t.r).2 = 0 := by
  obtain ⟨n, k, e, h1, h2, h3⟩ := h.rate
  have hl : (txt n).length ≤ 5 := txt_len (Nat.lt_of_lt_of_le h1 (by decide)) (by decide)
  have hk : 10 ^ 2 ≤ 10 ^ k := Nat.pow_le_pow_right (by decide) h2
  rw [e]
  unfold mRate
  rw [mDec_txt (by omega) (by omega)]
  rw [if_neg (by simp), if_neg (by simp only; omega)]
theorem Good.check {t : Tm} {most : Int} (h : Good t most) (hm : t.every * t.count ≤ 11000) (hc : most ≤ 1200) : mCheck t = 0 := by
  have g := right_good h.date
  have hb := every_bound h.kinds.2.2.2 (c := t.count) ⟨h.count.1, by have := h.count.2; omega⟩
  have hy := h.year
  have hcc := h.count
  unfold mCheck
  rw [if_neg (fun hh => hh h.moneyOK.1), if_neg h.moneyOK.2, if_neg (fun hh => hh h.rateOK), if_neg (fun hh => hh h.kinds), if_neg (by omega), if_pos ⟨h.date, by omega⟩]
end Go.Proofs.YtgjncgiekniniaaGreatDoor.A
end
section
set_option linter.unusedVariables false
set_option linter.unusedSimpArgs false
namespace Go.Proofs.YtgjncgiekniniaaGreatDoor.A
open Go
abbrev D3 := Int × Int × Int
def dv (x : D3) : List V := [.int .i64 x.1, .int .i64 x.2.1, .int .i64 x.2.2]
def pv (x : D3 × D3) : List V := [.int .i64 x.1.1, .int .i64 x.1.2.1, .int .i64 x.1.2.2, .int .i64 x.2.1, .int .i64 x.2.2.1, .int .i64 x.2.2.2]
abbrev rightD (x : D3) : Prop := right x.1 x.2.1 x.2.2
theorem asD0 {R : Type} (x : D3) (K : Int → Option R) : V.asInt .i64 ((dv x).getD 0 .undef) K = K x.1 := by simp [dv, V.asInt]
theorem asD1 {R : Type} (x : D3) (K : Int → Option R) : V.asInt .i64 ((dv x).getD 1 .undef) K = K x.2.1 := by simp [dv, V.asInt]
theorem asD2 {R : Type} (x : D3) (K : Int → Option R) : V.asInt .i64 ((dv x).getD 2 .undef) K = K x.2.2 := by simp [dv, V.asInt]
theorem getD_map {α : Type} (f : α → List V) {l : List α} {i : Nat} (h : i < l.length) : (l.map f).getD i [] = f l[i] := by
  simp [List.getD, h]
def series (y m d step : Int) (n : Nat) : List D3 := (List.range n).map fun k : Nat => addM y m d ((k + 1 : Nat) * step)
theorem series_len (y m d step : Int) (n : Nat) : (series y m d step n).length = n := by simp [series]
theorem series_get {y m d step : Int} {n i : Nat} (h : i < (series y m d step n).length) : (series y m d step n)[i] = addM y m d ((i + 1 : Nat) * step) := by simp [series]
theorem series_succ (y m d step : Int) (n : Nat) : series y m d step (n + 1) = series y m d step n ++ [addM y m d ((n + 1 : Nat) * step)] := by
  unfold series; rw [List.range_succ, List.map_append]; rfl
theorem okM_le {y m k k' : Int} (h : okM y m k) (h0 : 0 ≤ k') (hk : k' ≤ k) (hm : 12 ≤ (12 * y + m - 1)) : okM y m k' := by omega
theorem series_loop {y m d step : Int} {n : Nat} (hr : right y m d) (hs : 1 ≤ step ∧ step ≤ 12) (hn : n ≤ 1200) (ho : okM y m (n * step)) : ∀ (f k : Nat), k + f = n →
    Runs (fun rec x => z90.l0P step (n : Int) y m d rec some x) (((k + 1 : Nat) : Int), (series y m d step k).map dv) (.inl (((n + 1 : Nat) : Int), (series y m d step n).map dv))
  | 0, k, hk => by
    have : k = n := by omega
    subst this
    refine .done fun rec => ?_
    unfold z90.l0P
    simp only
    rw [bif_f (by omega)]
  | f + 1, k, hk => by
    have g := right_good hr
    have ih := series_loop hr hs hn ho f (k + 1) (by omega)
    have hb : ((k + 1 : Nat) : Int) * step ≤ n * step := Int.mul_le_mul_of_nonneg_right (by omega) (by omega)
    have hb0 : 0 ≤ ((k + 1 : Nat) : Int) * step := Int.mul_nonneg (by omega) (by omega)
    have hb1 : (n : Int) * step ≤ 1200 * 12 := Int.mul_le_mul (by omega) (by omega) (by omega) (by omega)
    refine .step (fun rec => ?_) ih
    unfold z90.l0P
    simp only
    rw [bif_t (by omega), if_neg (by omega), wr_i64 (n := ((k + 1 : Nat) : Int) * step) (by omega) (by omega), month_Add, if_pos ⟨hr, okM_le ho hb0 hb (by omega)⟩]
    simp only [Option.bind_some, decide_true, Bool.not_true, cond_false]
    rw [if_pos (by rw [List.length_map, series_len]; simp; omega), wr_i64 (by omega) (by omega), series_succ, List.map_append]
    rfl
theorem month_Series {y m d step : Int} {n : Nat} (hr : right y m d) (hs : 1 ≤ step ∧ step ≤ 12) (hn : n ≤ 1200) (ho : okM y m (n * step)) : z90.F y m d step (n : Int) = some ((series y m d step n).map dv, 0) := by
  have e : z90.l0 step (n : Int) y m d ((1 : Int), []) = some (.inl (((n + 1 : Nat) : Int), (series y m d step n).map dv)) := (series_loop hr hs hn ho n 0 (by omega)).lfp
  unfold z90.F z90.j1
  rw [bif_f (by omega), bif_f (by omega), bif_f (by omega), date_Check]
  simp only [Option.bind_some]
  rw [if_pos hr, e]
  rfl
def Tm.dates (t : Tm) : List D3 := series t.y t.m t.d t.every t.count.toNat
theorem mCheck_zero {t : Tm} (h : mCheck t = 0) : kindsOK t ∧ (1 ≤ t.count ∧ t.count ≤ 1200) ∧ right t.y t.m t.d ∧ okM t.y t.m (t.every * t.count) := by
  unfold mCheck at h
  split at h
  · exact absurd h ‹_›
  · split at h
    · simp at h
    · split at h
      · exact absurd h ‹_›
      · split at h
        · simp at h
        · rename_i hk
          split at h
          · simp at h
          · split at h
            · rename_i h5 h6
              exact ⟨Decidable.not_not.1 hk, by omega, h6.1, h6.2⟩
            · simp at h
theorem every_le {e : Int} (h : everyOK e) : 1 ≤ e ∧ e ≤ 12 := by omega
theorem dues_Dates (t : Tm) : z91.F t.p t.r t.kind t.basis t.mode t.y t.m t.d t.every t.count = some (if mCheck t = 0 then (t.dates.map dv, 0) else ([], mCheck t)) := by
  unfold z91.F
  rw [terms_Check]
  simp only [Option.bind_some]
  by_cases h : mCheck t = 0
  · obtain ⟨hk, hc, hr, ho⟩ := mCheck_zero h
    have he := every_le hk.2.2.2
    have ec : t.count = (t.count.toNat : Int) := by omega
    rw [decide_eq_true h, if_pos h]
    simp only [Bool.not_true, cond_false]
    have hs := month_Series (y := t.y) (m := t.m) (d := t.d) (step := t.every) (n := t.count.toNat) hr he (by omega) (by rw [← ec, Int.mul_comm]; exact ho)
    rw [← ec] at hs
    rw [hs]; rfl
  · rw [decide_eq_false h, if_neg h]; rfl
def pairs (a : D3) : List D3 → List (D3 × D3)
  | [] => []
  | b :: l => (a, b) :: pairs b l
theorem periods_loop {l : List D3} (hl : l.length ≤ 2000) : ∀ (f i : Nat) (s : List (List V)) (a : D3), i + f = l.length → s.length = i →
    ∃ z, Runs (fun rec x => z92.l0P (l.map dv) (l.length : Int) rec some x) ((i : Int), s, a.1, a.2.1, a.2.2) ((l.length : Int), s ++ (pairs a (l.drop i)).map pv, z)
  | 0, i, s, a, hf, hs => by
    have : i = l.length := by omega
    refine ⟨(a.1, a.2.1, a.2.2), .done fun rec => ?_⟩
    · unfold z92.l0P
      simp only
      rw [bif_f (by omega), List.drop_eq_nil_of_le (by omega), this]; simp [pairs]
  | f + 1, i, s, a, hf, hs => by
    have hi : i < l.length := by omega
    obtain ⟨z, r⟩ := periods_loop hl f (i + 1) (s ++ [pv (a, l[i])]) l[i] (by omega) (by simp; omega)
    refine ⟨z, .step (fun rec => ?_) (by rw [List.drop_eq_getElem_cons hi]; simp only [pairs, List.map_cons]; rw [← List.append_cons] at r; exact r)⟩
    unfold z92.l0P
    simp only
    rw [bif_t (by omega), if_pos (by rw [List.length_map]; omega), Int.toNat_natCast, getD_map dv hi]
    rw [asD0, asD1, asD2, if_pos (by simp; omega), wr_i64 (by omega) (by omega)]
    rfl
def Tm.start (t : Tm) : D3 := (t.y, t.m, t.d)
def Tm.periods (t : Tm) : List (D3 × D3) := pairs t.start t.dates
theorem Tm.dates_len (t : Tm) : t.dates.length = t.count.toNat := series_len _ _ _ _ _
theorem dues_Periods (t : Tm) : z92.F t.p t.r t.kind t.basis t.mode t.y t.m t.d t.every t.count = some (if mCheck t = 0 then (t.periods.map pv, 0) else ([], mCheck t)) := by
  unfold z92.F
  rw [dues_Dates]
  simp only [Option.bind_some]
  by_cases h : mCheck t = 0
  · obtain ⟨hk, hc, hr, ho⟩ := mCheck_zero h
    rw [if_pos h, if_pos h]
    simp only [decide_true, Bool.not_true, cond_false, List.length_map]
    have hl := t.dates_len
    obtain ⟨z, r⟩ := periods_loop (l := t.dates) (by omega) t.dates.length 0 [] t.start (by omega) rfl
    have e : z92.l0 (t.dates.map dv) (t.dates.length : Int) ((0 : Int), [], t.y, t.m, t.d) = _ := r.lfp
    rw [e]
    rfl
  · rw [if_neg h, if_neg h]
    simp only
    rw [decide_eq_false h]; rfl
abbrev cmpD (x y : D3) : Int := dcmp x.1 x.2.1 x.2.2 y.1 y.2.1 y.2.2
theorem at_loop {l : List D3} {x : D3} {k : Nat} (hl : l.length ≤ 2000) (hk : k ≤ l.length) (h1 : ∀ j (h : j < l.length), j < k → ¬ cmpD l[j] x > 0) (h2 : ∀ h : k < l.length, cmpD l[k] x > 0) : ∀ (f i : Nat), i + f = k →
    Runs (fun rec z => z96.l0P (l.map dv) (l.length : Int) x.1 x.2.1 x.2.2 rec some z) (i : Int) (if k < l.length then .inr (k : Int) else .inl (l.length : Int))
  | 0, i, hf => by
    have : i = k := by omega
    subst this
    refine .done fun rec => ?_
    unfold z96.l0P
    by_cases h : i < l.length
    · rw [if_pos h, bif_t (by omega), if_pos (by rw [List.length_map]; omega), Int.toNat_natCast, getD_map dv h, asD0, asD1, asD2, date_Cmp]
      simp only [Option.bind_some]
      rw [bif_t (h2 h)]
    · have : i = l.length := by omega
      rw [if_neg h, bif_f (by omega), this]
  | f + 1, i, hf => by
    have hi : i < l.length := by omega
    refine .step (fun rec => ?_) (at_loop hl hk h1 h2 f (i + 1) (by omega))
    unfold z96.l0P
    rw [bif_t (by omega), if_pos (by rw [List.length_map]; omega), Int.toNat_natCast, getD_map dv hi, asD0, asD1, asD2, date_Cmp]
    simp only [Option.bind_some]
    rw [bif_f (h1 i hi (by omega)), wr_i64 (by omega) (by omega)]
    rfl
theorem dues_At {t : Tm} (h : mCheck t = 0) {x : D3} (hx : rightD x) (hc : ¬ cmpD x t.start < 0) {k : Nat} (hk : k ≤ t.dates.length) (h1 : ∀ j (h : j < t.dates.length), j < k → ¬ cmpD t.dates[j] x > 0) (h2 : ∀ h : k < t.dates.length, cmpD t.dates[k] x > 0) :
    z96.F t.p t.r t.kind t.basis t.mode t.y t.m t.d t.every t.count x.1 x.2.1 x.2.2 = some ((k : Int), 0) := by
  obtain ⟨hkk, hcc, hr, ho⟩ := mCheck_zero h
  have hl := t.dates_len
  have e : z96.l0 (t.dates.map dv) (t.dates.length : Int) x.1 x.2.1 x.2.2 0 = _ := (at_loop (by omega) hk h1 h2 k 0 (by omega)).lfp
  unfold z96.F
  rw [dues_Dates, if_pos h]
  simp only [Option.bind_some, decide_true, Bool.not_true, cond_false]
  rw [date_Check, if_pos hx]
  simp only [Option.bind_some, decide_true, Bool.not_true, cond_false]
  rw [date_Cmp]
  simp only [Option.bind_some, List.length_map]
  rw [bif_f (p := dcmp x.1 x.2.1 x.2.2 t.y t.m t.d < 0) hc, e]
  simp only [Option.bind_some]
  by_cases hlt : k < t.dates.length
  · rw [if_pos hlt]
    simp only
    rw [bif_f (by omega)]
  · rw [if_neg hlt]
    simp only
    congr 2; omega
end Go.Proofs.YtgjncgiekniniaaGreatDoor.A
end
section
set_option linter.unusedVariables false
set_option linter.unusedSimpArgs false
namespace Go.Proofs.YtgjncgiekniniaaGreatDoor.A
open Go
theorem eq_loop {l l' : List D3} (hl : l.length = l'.length) (hb : l.length ≤ 1000000) : ∀ (f i : Nat), i + f = l.length →
    ∃ o, Runs (fun rec x => z93.l0P (l.map dv) (l'.map dv) (l.length : Int) rec some x) (i : Int) o ∧ (match o with | .inl _ => true | .inr q => q) = decide (l.drop i = l'.drop i)
  | 0, i, hf => by
    refine ⟨.inl (l.length : Int), .done fun rec => ?_, ?_⟩
    · unfold z93.l0P
      rw [bif_f (by omega)]
      congr 2; omega
    · rw [List.drop_eq_nil_of_le (by omega), List.drop_eq_nil_of_le (by omega)]; rfl
  | f + 1, i, hf => by
    have hi : i < l.length := by omega
    have hi' : i < l'.length := by omega
    rw [List.drop_eq_getElem_cons hi, List.drop_eq_getElem_cons hi']
    have e : (decide (l[i].1 = l'[i].1) && (decide (l[i].2.1 = l'[i].2.1) && decide (l[i].2.2 = l'[i].2.2))) = decide (l[i] = l'[i]) := by
      rw [Bool.eq_iff_iff]; simp [Prod.ext_iff]
    by_cases h : l[i] = l'[i]
    · obtain ⟨o, r, ho⟩ := eq_loop hl hb f (i + 1) (by omega)
      refine ⟨o, .step (fun rec => ?_) r, ?_⟩
      · unfold z93.l0P
        rw [bif_t (by omega), if_pos (by rw [List.length_map]; omega), Int.toNat_natCast, getD_map dv hi, asD0, asD1, asD2, if_pos (by rw [List.length_map]; omega), getD_map dv hi', asD0, asD1, asD2, e, decide_eq_true h]
        simp only [Bool.not_true, cond_false]
        rw [wr_i64 (by omega) (by omega)]; rfl
      · rw [ho, h]; apply decide_eq_decide.2; simp only [List.cons.injEq, true_and]
    · refine ⟨.inr false, .done fun rec => ?_, ?_⟩
      · unfold z93.l0P
        rw [bif_t (by omega), if_pos (by rw [List.length_map]; omega), Int.toNat_natCast, getD_map dv hi, asD0, asD1, asD2, if_pos (by rw [List.length_map]; omega), getD_map dv hi', asD0, asD1, asD2, e, decide_eq_false h]
        rfl
      · symm; exact decide_eq_false fun hh => h (List.cons.inj hh).1
theorem equal_dates {l l' : List D3} (hb : l.length ≤ 1000000) : z93.F (l.map dv) (l'.map dv) = some (decide (l = l')) := by
  unfold z93.F
  simp only [List.length_map]
  by_cases hl : l.length = l'.length
  · obtain ⟨o, r, ho⟩ := eq_loop hl hb l.length 0 (by omega)
    have e : z93.l0 (l.map dv) (l'.map dv) (l.length : Int) 0 = some o := r.lfp
    rw [decide_eq_true (by omega), e]
    simp only [Bool.not_true, cond_false, Option.bind_some]
    simp only [List.drop_zero] at ho
    rw [← ho]
    cases o <;> rfl
  · rw [decide_eq_false (by omega)]
    simp only [Bool.not_false, cond_true]
    congr 1; symm; apply decide_eq_false; rintro rfl; exact hl rfl
def t100 : Tm := ⟨[49, 48, 48], [53], 0, 0, 0, 2024, 1, 31, 1, 2⟩
def tNone : Tm := ⟨[], [], 0, 0, 0, 0, 0, 0, 0, 0⟩
theorem t100_ok : mCheck t100 = 0 := by decide +kernel
theorem tNone_bad : mCheck tNone = 5 := by decide +kernel
theorem t100_dates : t100.dates = [(2024, 2, 29), (2024, 3, 31)] := by decide +kernel
theorem law15_wakes : z97.F = some true := by
  have r1 := dues_Dates t100
  have r2 := dues_At (t := t100) (x := (2024, 2, 29)) t100_ok (by decide +kernel) (by decide +kernel) (k := 1) (by rw [t100_dates]; decide) (by rw [t100_dates]; decide +kernel) (by rw [t100_dates]; decide +kernel)
  have r3 := dues_Periods t100
  have r4 := dues_Dates tNone
  rw [if_pos t100_ok] at r1 r3
  rw [tNone_bad, if_neg (by decide)] at r4
  have ep : t100.periods = [((2024, 1, 31), (2024, 2, 29)), ((2024, 2, 29), (2024, 3, 31))] := by unfold Tm.periods; rw [t100_dates]; rfl
  rw [t100_dates] at r1
  rw [ep] at r3
  have r5 := equal_dates (l := [(2024, 2, 29), (2024, 3, 31)]) (l' := [(2024, 2, 29), (2024, 3, 31)]) (by decide)
  unfold t100 at r1 r2 r3
  unfold tNone at r4
  simp only at r1 r2 r3 r4
  unfold z97.F
  rw [r1]
  simp only [Option.bind_some]
  rw [r2]
  simp only [Option.bind_some]
  rw [r3]
  simp only [Option.bind_some]
  rw [r4]
  simp only [Option.bind_some]
  simp only [decide_true, cond_true]
  have e5 : ([[(.int .i64 (2024 : Int)), (.int .i64 (2 : Int)), (.int .i64 (29 : Int))], [(.int .i64 (2024 : Int)), (.int .i64 (3 : Int)), (.int .i64 (31 : Int))]] : List (List V)) = [((2024 : Int), (2 : Int), (29 : Int)), (2024, 3, 31)].map dv := rfl
  rw [e5, r5]
  rfl
theorem mCheck_iff (t : Tm) : mCheck t = 0 ↔ ((mMoney t.p).2 = 0 ∧ (mMoney t.p).1 ≠ 0) ∧ (mRate t.r).2 = 0 ∧ kindsOK t ∧ (1 ≤ t.count ∧ t.count ≤ 1200) ∧ right t.y t.m t.d ∧ okM t.y t.m (t.every * t.count) := by
  constructor
  · intro h
    have h' := mCheck_zero h
    unfold mCheck at h
    split at h
    · exact absurd h ‹_›
    · split at h
      · simp at h
      · split at h
        · exact absurd h ‹_›
        · rename_i h1 h2 h3
          exact ⟨⟨Decidable.not_not.1 h1, h2⟩, Decidable.not_not.1 h3, h'⟩
  · rintro ⟨⟨h1, h2⟩, h3, h4, h5, h6, h7⟩
    unfold mCheck
    rw [if_neg (fun hh => hh h1), if_neg h2, if_neg (fun hh => hh h3), if_neg (fun hh => hh h4), if_neg (by omega), if_pos ⟨h6, h7⟩]
theorem step_loop {y m d e : Int} {n : Nat} (hr : right y m d) (he : 1 ≤ e ∧ e ≤ 12) (hn : n ≤ 12) : ∀ (f i : Nat), i + f = n →
    Runs (fun rec x => z98.l0P ((series y m d e n).map dv) ((series y m d 1 (e * n).toNat).map dv) (n : Int) e rec some x) (i : Int) (.inl (n : Int))
  | 0, i, hf => by
    have : i = n := by omega
    subst this
    refine .done fun rec => ?_
    unfold z98.l0P
    rw [bif_f (by omega)]
  | f + 1, i, hf => by
    have hi : i < (series y m d e n).length := by rw [series_len]; omega
    have p1 : e * ((i : Int) + 1) ≤ 12 * 12 := Int.mul_le_mul (by omega) (by omega) (by omega) (by omega)
    have p2 : e * ((i : Int) + 1) ≤ e * n := Int.mul_le_mul_of_nonneg_left (by omega) (by omega)
    have p3 : 1 * 1 ≤ e * ((i : Int) + 1) := Int.mul_le_mul (by omega) (by omega) (by omega) (by omega)
    have hj : (e * ((i : Int) + 1) - 1).toNat < (series y m d 1 (e * n).toNat).length := by rw [series_len]; omega
    refine .step (fun rec => ?_) (step_loop hr he hn f (i + 1) (by omega))
    unfold z98.l0P
    rw [bif_t (by omega), if_pos (by rw [List.length_map, series_len]; omega), Int.toNat_natCast, getD_map dv hi, wr_i64 (n := (i : Int) + 1) (by omega) (by omega), wr_i64 (n := e * ((i : Int) + 1)) (by omega) (by omega), wr_i64 (n := e * ((i : Int) + 1) - 1) (by omega) (by omega)]
    rw [asD0, asD1, asD2]
    rw [if_pos (by rw [List.length_map, series_len]; omega), getD_map dv hj]
    rw [asD0, asD1, asD2]
    rw [series_get hi, series_get hj]
    have ek : (((e * ((i : Int) + 1) - 1).toNat + 1 : Nat) : Int) * 1 = ((i + 1 : Nat) : Int) * e := by
      have : ((i + 1 : Nat) : Int) = (i : Int) + 1 := rfl
      rw [this, Int.mul_comm ((i : Int) + 1) e, Int.mul_one]; omega
    rw [ek]
    simp only [decide_true, Bool.true_and, Bool.and_true, Bool.not_true, cond_false]
    rfl
theorem series_take (y m d e : Int) {k n : Nat} (h : k ≤ n) : (series y m d e n).take k = series y m d e k := by
  unfold series; rw [← List.map_take, List.take_range, Nat.min_eq_left h]
theorem step_law {a0 a1 a2 a3 a4 a5 a6 a7 a8 a9 a10 a11 a12 : Int} (h0 : (Lit.int .u64 a0).wf = true) (h1 : (Lit.int .u16 a1).wf = true) (h2 : (Lit.int .u32 a2).wf = true) (h3 : (Lit.int .u8 a3).wf = true) (h4 : (Lit.int .u8 a4).wf = true) (h5 : (Lit.int .u8 a5).wf = true)
    (h6 : (Lit.int .u8 a6).wf = true) (h7 : (Lit.int .u8 a7).wf = true) (h8 : (Lit.int .u8 a8).wf = true) (h12 : (Lit.int .u8 a12).wf = true) : z98.F a0 a1 a2 a3 a4 a5 a6 a7 a8 a9 a10 a11 a12 = some true := by
  obtain ⟨t, g, e⟩ := ref14_Make (a9 := a9) (a10 := a10) (a11 := a11) (most := 12) (wf_u64 h0) (wf_u16 h1) (wf_u32 h2) (wf_u8 h3) (wf_u8 h4) (wf_u8 h5) (wf_u8 h6) (wf_u8 h7) (wf_u8 h8) (by decide)
  have w12 := wf_u8 h12
  have hcnt := g.count
  have he := every_le g.kinds.2.2.2
  have hb := every_bound g.kinds.2.2.2 (c := t.count) (by omega)
  have hb2 : t.every * t.count ≤ 12 * 12 := Int.mul_le_mul (by omega) (by omega) (by omega) (by omega)
  have hch := g.check (by omega) (by decide)
  have gr := right_good g.date
  have hy := g.year
  have tm := tmod_pos w12.1 (show 0 < t.count by omega)
  have hu : mCheck { t with every := 1, count := t.every * t.count } = 0 := (mCheck_iff _).2 ⟨g.moneyOK, g.rateOK, ⟨g.kinds.1, g.kinds.2.1, g.kinds.2.2.1, .inl rfl⟩, by show 1 ≤ t.every * t.count ∧ t.every * t.count ≤ 1200; omega, g.date, by show okM t.y t.m (1 * (t.every * t.count)); omega⟩
  have hw1 : t.every * (1 + a12 % t.count) ≤ t.every * t.count := Int.mul_le_mul_of_nonneg_left (by omega) (by omega)
  have hw0 : 0 ≤ t.every * (1 + a12 % t.count) := Int.mul_nonneg (by omega) (by omega)
  have hw : mCheck { t with count := 1 + a12 % t.count } = 0 := (mCheck_iff _).2 ⟨g.moneyOK, g.rateOK, g.kinds, by show 1 ≤ 1 + a12 % t.count ∧ 1 + a12 % t.count ≤ 1200; omega, g.date, by show okM t.y t.m (t.every * (1 + a12 % t.count)); omega⟩
  have r1 := dues_Dates t
  have r2 := dues_Dates { t with every := 1, count := t.every * t.count }
  have r3 := dues_Dates { t with count := 1 + a12 % t.count }
  rw [if_pos hch] at r1
  rw [if_pos hu] at r2
  rw [if_pos hw] at r3
  simp only at r2 r3
  have d1 : t.dates = series t.y t.m t.d t.every t.count.toNat := rfl
  have d2 : Tm.dates { t with every := 1, count := t.every * t.count } = series t.y t.m t.d 1 (t.every * t.count).toNat := rfl
  have d3 : Tm.dates { t with count := 1 + a12 % t.count } = series t.y t.m t.d t.every (1 + a12 % t.count).toNat := rfl
  rw [d1] at r1
  rw [d2] at r2
  rw [d3] at r3
  unfold z98.F
  rw [e]
  simp only [Option.bind_some]
  rw [wr_i64 (n := t.every * t.count) (by omega) (by omega), wr_i64 (n := a12) (by omega) (by omega), tm.1, wr_i64 (n := 1 + a12 % t.count) (by omega) (by omega)]
  rw [r1]
  simp only [Option.bind_some]
  rw [r2]
  simp only [Option.bind_some]
  rw [if_neg (by omega), r3]
  simp only [Option.bind_some]
  rw [law15_wakes]
  simp only [Option.bind_some, Bool.not_true, cond_false, decide_true, List.length_map, series_len]
  rw [show ((t.count.toNat : Nat) : Int) = t.count by omega, wr_i64 (n := t.every * t.count) (by omega) (by omega), show (((t.every * t.count).toNat : Nat) : Int) = t.every * t.count by omega]
  simp only [decide_true, Bool.not_true, cond_false]
  rw [bif_f (by omega)]
  unfold z98.j6
  simp only [List.length_map, series_len]
  have hn : ((t.count.toNat : Nat) : Int) = t.count := by omega
  have hs := step_loop (n := t.count.toNat) g.date he (by omega) t.count.toNat 0 (by omega)
  have er : z98.l0 ((series t.y t.m t.d t.every t.count.toNat).map dv) ((series t.y t.m t.d 1 (t.every * t.count).toNat).map dv) (t.count.toNat : Int) t.every 0 = some (.inl (t.count.toNat : Int)) := by
    have := hs.lfp
    rw [hn] at this
    rw [hn]; exact this
  rw [er]
  simp only [Option.bind_some]
  rw [if_pos (by omega), Int.toNat_natCast, ← List.map_take, series_take _ _ _ _ (show (1 + a12 % t.count).toNat ≤ t.count.toNat by omega), equal_dates (by rw [series_len]; omega)]
  simp only [Option.bind_some, decide_true, cond_true]
  rw [wr_i64 (n := a12) (by omega) (by omega), tm.1, wr_i64 (by omega) (by omega), decide_eq_true (show (((1 + a12 % t.count).toNat : Nat) : Int) = 1 + a12 % t.count by omega)]
end Go.Proofs.YtgjncgiekniniaaGreatDoor.A
end
section
set_option linter.unusedVariables false
namespace Go.Proofs.YtgjncgiekniniaaGreatDoor.A
open Go
namespace DuesStep
theorem law (a0 : Int) (a1 : Int) (a2 : Int) (a3 : Int) (a4 : Int) (a5 : Int) (a6 : Int) (a7 : Int) (a8 : Int) (a9 : Int) (a10 : Int) (a11 : Int) (a12 : Int) (h0 : (Lit.int .u64 a0).wf = true) (h1 : (Lit.int .u16 a1).wf = true) (h2 : (Lit.int .u32 a2).wf = true) (h3 : (Lit.int .u8 a3).wf = true) (h4 : (Lit.int .u8 a4).wf = true) (h5 : (Lit.int .u8 a5).wf = true) (h6 : (Lit.int .u8 a6).wf = true) (h7 : (Lit.int .u8 a7).wf = true) (h8 : (Lit.int .u8 a8).wf = true) (h9 : (Lit.int .i64 a9).wf = true) (h10 : (Lit.int .i64 a10).wf = true) (h11 : (Lit.int .i64 a11).wf = true) (h12 : (Lit.int .u8 a12).wf = true) : z98.F a0 a1 a2 a3 a4 a5 a6 a7 a8 a9 a10 a11 a12 = some true :=
  step_law h0 h1 h2 h3 h4 h5 h6 h7 h8 h12
end DuesStep
end Go.Proofs.YtgjncgiekniniaaGreatDoor.A
end
section
set_option linter.unusedVariables false
set_option linter.unusedSimpArgs false
set_option maxRecDepth 100000
namespace Go.Proofs.YtgjncgiekniniaaGreatDoor.A
open Go Go.RowKit Go.ChangeShapes Go.WideShapes Go.ChangeAt
noncomputable section
namespace DuesStep
theorem wide : atsOf Tryz.prog 8 Tryz.f10.params.toList = some [(.agg [.sc (.i .u64), .sc (.i .u16), .sc (.i .u32), .sc (.i .u8), .sc (.i .u8), .sc (.i .u8), .sc (.i .u8), .sc (.i .u8), .sc (.i .u8), .sc (.i .i64), .sc (.i .i64), .sc (.i .i64)]), (.one (.sc (.i .u8)))] := by kernel_rfl
theorem readable : Tryz.f10.params.toList.all (fun t => Tryz.prog.readableRec t && decide (t < Tryz.prog.types.size)) = true := by kernel_rfl
noncomputable def args0 : Array Value := #[.agg #[.int .u64 0, .int .u16 0, .int .u32 0, .int .u8 0, .int .u8 0, .int .u8 0, .int .u8 0, .int .u8 0, .int .u8 0, .int .i64 0, .int .i64 0, .int .i64 0], .int .u8 0]
theorem laid_met (os : Os) : laidMet Tryz.prog Rows.duesStepRow.laid ((laidWorld os).forCall (fun _ _ => 0) ⟨#[], args0, []⟩).memory :=
  laidMet_of_run' 12 (by kernel_rfl) (by kernel_rfl)
theorem reads (os : Os) {H : Type} (enc : TypeId × Value → H) : ∃ ds places, DataW.whole enc Tryz.prog ((laidWorld os).forCall (fun _ _ => 0) ⟨#[], args0, []⟩).memory Tryz.f10.params.toList Rows.duesStepSpec.vars false args0.toList 12 = some (ds, [], places) :=
  ⟨[.agg [.lit (.int .u64 0), .lit (.int .u16 0), .lit (.int .u32 0), .lit (.int .u8 0), .lit (.int .u8 0), .lit (.int .u8 0), .lit (.int .u8 0), .lit (.int .u8 0), .lit (.int .u8 0), .agg [.lit (.int .i64 0), .lit (.int .i64 0), .lit (.int .i64 0)]], .lit (.int .u8 0)], [], by kernel_rfl⟩
theorem plainly (vs : List V) (h : okAL [(.agg [.sc (.i .u64), .sc (.i .u16), .sc (.i .u32), .sc (.i .u8), .sc (.i .u8), .sc (.i .u8), .sc (.i .u8), .sc (.i .u8), .sc (.i .u8), .sc (.i .i64), .sc (.i .i64), .sc (.i .i64)]), (.one (.sc (.i .u8)))] vs) : ∃ p r, SoundC Tryz.prog 10 vs p ∧ p.m = some r ∧ p.enc r = .bool true := by
  obtain ⟨_, _, rfl, ⟨_, rfl, _, _, rfl, ⟨a0, rfl, h0⟩, _, _, rfl, ⟨a1, rfl, h1⟩, _, _, rfl, ⟨a2, rfl, h2⟩, _, _, rfl, ⟨a3, rfl, h3⟩, _, _, rfl, ⟨a4, rfl, h4⟩, _, _, rfl, ⟨a5, rfl, h5⟩, _, _, rfl, ⟨a6, rfl, h6⟩, _, _, rfl, ⟨a7, rfl, h7⟩, _, _, rfl, ⟨a8, rfl, h8⟩, _, _, rfl, ⟨a9, rfl, h9⟩, _, _, rfl, ⟨a10, rfl, h10⟩, _, _, rfl, ⟨a11, rfl, h11⟩, rfl⟩, _, _, rfl, ⟨a12, rfl, h12⟩, rfl⟩ := h
  exact ⟨⟨Bool, z98.F a0 a1 a2 a3 a4 a5 a6 a7 a8 a9 a10 a11 a12, z98.enc⟩, true, z98.sound _ _ (by kernel_rfl), law a0 a1 a2 a3 a4 a5 a6 a7 a8 a9 a10 a11 a12 h0 h1 h2 h3 h4 h5 h6 h7 h8 h9 h10 h11 h12, rfl⟩
theorem specFn {H : Type} (ds : List (DataW H)) (h : ds.length = Tryz.f10.params.toList.length) : Rows.duesStepSpec.fn H ds = { results := [.lit (.bool true)], args := ds } := by
  have h : ds.length = 2 := h.trans (by kernel_rfl)
  match ds, h with
  | [d0, d1], _ => rfl
theorem clos : Tryz.prog.closure 10 = [10, 43, 95, 153, 219, 60, 152, 113, 131, 208, 234, 235, 26, 102, 132, 48, 44, 36, 76, 160, 223, 260, 161, 200, 250, 249, 251, 253, 276, 252, 255, 279, 289, 277, 287, 278, 288, 292, 283, 290, 293, 285, 284, 254, 158, 222, 185, 164, 227, 268, 183, 99, 184, 104, 91, 28, 114, 195, 247, 74, 90, 110, 24, 100, 186, 146, 212, 245, 273, 187, 38, 118, 198, 248, 275, 286, 291, 199, 201, 69, 119, 202, 120, 121, 203, 204, 156, 122, 123, 176, 92, 163, 226, 162, 188, 224, 261, 262, 280, 225, 263, 264, 265, 266, 267, 281, 68, 124, 157, 130, 133, 47, 137, 209, 228, 257, 149, 214, 215, 134, 142, 210, 258, 259, 138, 53, 55, 57, 145, 144, 143, 49, 51] := by kernel_rfl
theorem inPlace : (Rows.duesStepRow.inPlace == Tryz.prog.inPlace 10) = true := by unfold Program.inPlace; rw [clos]; kernel_rfl
theorem unfollowed : (Rows.duesStepRow.unfollowed == Tryz.prog.unfollowed 10) = true := by unfold Program.unfollowed; rw [clos]; kernel_rfl
theorem recurses : (Rows.duesStepRow.recurses == Tryz.prog.recurses 10) = true := by unfold Program.recurses Program.unfollowed; rw [clos]; kernel_rfl
theorem named : (Rows.duesStepRow.named == Tryz.prog.varsNamed 10) = true := by unfold Program.varsNamed; rw [clos]; kernel_rfl
theorem number : Tryz.prog.funcNamed "chattel/chattellaw15.DuesStep" = some 10 := by kernel_rfl
theorem goes : false = Rows.duesStepRow.goesBy Tryz.prog := by
  have h : Tryz.prog.goes 10 = false := by unfold Program.goes Program.unfollowed; rw [clos]; kernel_rfl
  have e : Rows.duesStepRow.goesBy Tryz.prog = ((Tryz.prog.funcNamed "chattel/chattellaw15.DuesStep").any Tryz.prog.goes || false) := by kernel_rfl
  rw [e, number]
  simp [h]
theorem j_wf : Rows.duesStepRow.wf (OpenSpec.ofChange (OpenSpec.ofChange Rows.duesStepSpec).bare) = true := by kernel_rfl
theorem j_params : (Tryz.f10.params.all (Tryz.pinned.checked.prog.readableRec ·)) = true := by kernel_rfl
theorem j_vars : namedTie Tryz.pinned.checked.prog Rows.duesStepRow.named (OpenSpec.ofChange Rows.duesStepSpec).bare.vars = true := by kernel_rfl
theorem j_stops : (Rows.duesStepRow.stops == []) = true := by kernel_rfl
theorem j_knobs : (Rows.duesStepRow.knobs == []) = true := by kernel_rfl
theorem j_maps : (Rows.duesStepRow.maps == (Tryz.f10.params.toList ++ DataSpec.varTypes Tryz.pinned.checked.prog (OpenSpec.ofChange Rows.duesStepSpec).bare.plain).any (Tryz.pinned.checked.prog.mapsRec ·)) = true := by kernel_rfl
theorem j_ifaces : (Rows.duesStepRow.ifaces == (Tryz.f10.params.toList ++ DataSpec.varTypes Tryz.pinned.checked.prog (OpenSpec.ofChange Rows.duesStepSpec).bare.plain).any (Tryz.pinned.checked.prog.ifacesRec ·)) = true := by kernel_rfl
theorem j_mapsOut : (Rows.duesStepRow.mapsOut == Tryz.pinned.checked.prog.mapsAmong Tryz.f10.resultTypes.toList) = true := by kernel_rfl
theorem j_loops : (Rows.duesStepRow.loops == (Tryz.f10.params.toList ++ DataSpec.varTypes Tryz.pinned.checked.prog (OpenSpec.ofChange Rows.duesStepSpec).bare.plain).any (Tryz.pinned.checked.prog.loopsFrom ·)) = true := by kernel_rfl
theorem j_wideKeys : (Rows.duesStepRow.wideKeys == (Tryz.f10.params.toList ++ DataSpec.varTypes Tryz.pinned.checked.prog (OpenSpec.ofChange Rows.duesStepSpec).bare.plain ++ Tryz.f10.resultTypes.toList).any (Tryz.pinned.checked.prog.wideKeysFrom ·)) = true := by kernel_rfl
theorem j_varsRead : (OpenSpec.ofChange Rows.duesStepSpec).bare.vars.all (Tryz.pinned.checked.prog.varReadable ·) = true := by kernel_rfl
theorem j_results : (Tryz.f10.resultTypes.all fun t => Tryz.pinned.checked.prog.readableRec t && decide (t < Tryz.pinned.checked.prog.types.size)) = true := by kernel_rfl
theorem j_ifacesOut : (Rows.duesStepRow.ifacesOut == Tryz.f10.resultTypes.toList.any (Tryz.pinned.checked.prog.ifacesRec ·)) = true := by kernel_rfl
theorem j_loopsOut : (Rows.duesStepRow.loopsOut == Tryz.f10.resultTypes.toList.any (Tryz.pinned.checked.prog.loopsFrom ·)) = true := by kernel_rfl
theorem j_plainKeys : (Rows.duesStepRow.plainKeys == Tryz.pinned.checked.prog.plainKeys) = true := by kernel_rfl
theorem j_short : Rows.duesStepRow.shortTexts.isNone = true := by kernel_rfl
theorem j_lift : (Rows.duesStepRow.lifted == Tryz.pinned.checked.prog.liftsFinal) = true := by kernel_rfl
theorem j_make : (Tryz.pinned.checked.prog.make == some Rows.duesStepRow.make) = true := by kernel_rfl
theorem j_kinds : (Rows.duesStepRow.kinds == (if Rows.duesStepRow.domain.isEmpty then [] else Tryz.f10.params.toList.map fun t => match Tryz.pinned.checked.prog.underlying t with | some (.int k) => some k | _ => none)) = true := by kernel_rfl
theorem j_pinned : (Rows.duesStepRow.pinned == Rows.duesStepRow.pinnedBy) = true := by kernel_rfl
theorem j_veiled : (Rows.duesStepRow.veiled == (Tryz.f10.params.toList ++ DataSpec.varTypes Tryz.pinned.checked.prog (OpenSpec.ofChange Rows.duesStepSpec).bare.plain ++ Tryz.f10.resultTypes.toList).any (Tryz.pinned.checked.prog.veiledRec ·)) = true := by kernel_rfl
theorem j_veiledFits : Rows.duesStepRow.veiledFits Tryz.pinned.checked.prog Tryz.f10.params.toList (Tryz.f10.params.toList ++ DataSpec.varTypes Tryz.pinned.checked.prog (OpenSpec.ofChange Rows.duesStepSpec).bare.plain ++ Tryz.f10.resultTypes.toList) = true := by kernel_rfl
theorem joined : joinedFacts Tryz.pinned.checked.prog 10 Tryz.f10 (OpenSpec.ofChange Rows.duesStepSpec).bare Rows.duesStepRow = true := by
  unfold joinedFacts
  simp only [Bool.and_eq_true]
  and_intros
  · exact j_wf
  · exact laidOut
  · exact rowed
  · exact j_params
  · exact j_vars
  · exact j_stops
  · exact noStops
  · exact j_knobs
  · exact noKnobs
  · exact inPlace
  · exact unfollowed
  · exact recurses
  · exact named
  · exact j_maps
  · exact j_ifaces
  · exact j_mapsOut
  · exact j_loops
  · exact j_wideKeys
  · exact j_varsRead
  · exact j_results
  · exact j_ifacesOut
  · exact j_loopsOut
  · exact j_plainKeys
  · exact j_short
  · exact heard
  · exact enterable
  · exact j_lift
  · exact j_make
  · exact j_kinds
  · exact j_pinned
  · exact j_veiled
  · exact j_veiledFits
theorem lifted (os : Os) (started : os.Started) (H : Type) (enc : TypeId × Value → H) (F : Stop.Interp) :
    ReturnsInHanded {} Tryz.checked os 10 .any ((OpenSpec.ofChange Rows.duesStepSpec).preRow enc Tryz.prog Tryz.f10 Rows.duesStepRow.domain false Rows.duesStepRow.laid) (((OpenSpec.ofChange Rows.duesStepSpec).at F).post enc Tryz.prog Tryz.f10 false true false false) := by
  obtain ⟨ds0, places, hx⟩ := reads os enc
  refine returnsInHanded_of_row (C := Tryz.checked) (s := OpenSpec.ofChange Rows.duesStepSpec) own started (by kernel_rfl) Tryz.func10
    (witness_row_at (enc := enc) (C := Tryz.checked) false (laidWorld os) args0 rfl (by kernel_rfl) (by kernel_rfl) (by kernel_rfl)
      (OpenSpec.preRow_of_cond 12 hx (by kernel_rfl) (fun k hk => by cases hk) (by kernel_rfl) (laid_met os))) ?_
  intro W base args ds gs before hval hW _ _ _ hL _ _
  exact law_contract fun10 laidOut readable wide (tb := 4) (by kernel_rfl) (by kernel_rfl) rfl specFn plainly W base args ds gs before hval hW
theorem wrapped : Tryz.f10.isWrapper Tryz.pinned.checked.prog Rows.duesStepRow.wrapper Rows.duesStepRow.mainSum := by
  unfold Func.isWrapper; first | (rw [if_pos (by decide +kernel)]; kernel_rfl) | (rw [if_neg (by decide +kernel)]; exact ⟨rfl, rfl⟩)
theorem origin : Tryz.f10.isInstance Tryz.pinned.checked.prog Rows.duesStepRow.origin Rows.duesStepRow.targs := of_decide_eq_true (by kernel_rfl)
theorem said : Rows.DuesStepSaid :=
  OpenClaim.holds_of_cond 10 Tryz.f10 rfl rfl rfl rfl rfl rfl rfl ⟨rfl, rfl, rfl, rfl, rfl⟩ rfl rfl rfl rfl rfl number Tryz.func10 joined origin wrapped
    (fun os started H enc _ F => by rw [OpenClaim.pre_eq_preRow]; exact lifted os started H enc F)
theorem plainRow (f : FuncId) (fn : Func) (hf : Tryz.pinned.checked.prog.funcNamed "chattel/chattellaw15.DuesStep" = some f) (hfn : Tryz.pinned.checked.prog.funcs[f]? = some fn) :
    false = Tryz.pinned.checked.prog.looks [] ∧ ∀ (j : Nat) t, fn.params[j]? = some t → Tryz.pinned.checked.prog.wantsStandIn t = false := by
  obtain rfl : f = 10 := Option.some.inj (number.symm.trans hf) |>.symm
  obtain rfl : fn = Tryz.f10 := (Option.some.inj (Tryz.func10.symm.trans hfn)).symm
  refine ⟨looksOff, fun j t ht => ?_⟩
  have hall : Tryz.f10.params.toList.all (fun t => !Tryz.prog.wantsStandIn t) = true := by kernel_rfl
  have := List.all_eq_true.1 hall t (by simpa using Array.mem_of_getElem? ht)
  exact Bool.not_eq_true' _ |>.mp this
theorem card : Rows.DuesStepCardSaid :=
  Claim7.holds_tied_plain_at .later [] _ _ _ _ said (fun _ h => by cases h) (by kernel_rfl) (fun _ h => by cases h) duesStep_row_tie rfl ⟨rfl, rfl⟩ main rfl plainRow goes
end DuesStep
end
end Go.Proofs.YtgjncgiekniniaaGreatDoor.A
end
