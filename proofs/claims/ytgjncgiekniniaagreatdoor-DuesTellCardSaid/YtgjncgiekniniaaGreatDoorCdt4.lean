/- The law DuesTell holds of the program at every input that its guards let in: its card, from the program's text. Condition: none beyond the statement's own. -/
import Derived.Test.YtgjncgiekniniaaGreatDoorCdt3
import Derived.Deep.DeepHandedRow
import Derived.Lib.LaidTab
section
set_option linter.unusedVariables false
set_option linter.unusedSimpArgs false
namespace Go.Proofs.YtgjncgiekniniaaGreatDoor.A
open Go
theorem getD_set_ne {s : List Int} {i j : Nat} {x : Int} (h : i ≠ j) : (s.set i x).getD j 0 = s.getD j 0 := by
  simp [List.getD, List.getElem?_set_ne h]
theorem getD_replicate (n j : Nat) : (List.replicate n (0 : Int)).getD j 0 = 0 := by
  simp only [List.getD, List.getElem?_replicate]; split <;> rfl
theorem natadd_loop {a b : List Int} {n : Nat} (ha : inB LB a) (hb : inB LB b) (hn : n ≤ 900000000) (han : a.length < n) (hbn : b.length < n) :
    ∀ (f i : Nat) (c : Int) (s : List Int), i + f = n → s.length = n → inB LB s → (∀ j, i ≤ j → s.getD j 0 = 0) → 0 ≤ c ∧ c ≤ 1 →
      valB LB s + (c + valB LB (a.drop i) + valB LB (b.drop i)) * (LB ^ i : Nat) = valB LB a + valB LB b →
      ∃ c' s', Runs (fun rec x => z25.l0P (n : Int) a b rec some x) (c, (i : Int), s) (c', (n : Int), s') ∧ inB LB s' ∧ s'.length = n ∧ (0 ≤ c' ∧ c' ≤ 1) ∧ valB LB s' + c' * (LB ^ n : Nat) = valB LB a + valB LB b
  | 0, i, c, s, hf, hl, hs, hz, hc, hv => by
    have : i = n := by omega
    subst this
    refine ⟨c, s, .done fun rec => ?_, hs, hl, hc, ?_⟩
    · unfold z25.l0P
      simp only
      rw [bif_f (by omega)]
    · rw [List.drop_eq_nil_of_le (by omega), List.drop_eq_nil_of_le (by omega)] at hv
      simpa [valB] using hv
  | f + 1, i, c, s, hf, hl, hs, hz, hc, hv => by
    have hLB : ((LB : Nat) : Int) = 18446744073709551616 := rfl
    have h1 := getD_in (B := LB) (by decide) ha i
    have h2 := getD_in (B := LB) (by decide) hb i
    have hi : i < s.length := by omega
    obtain ⟨c', s', r1, r2, r3, r4, r5⟩ := natadd_loop ha hb hn han hbn f (i + 1) ((a.getD i 0 + b.getD i 0 + c) / 18446744073709551616) (s.set i ((a.getD i 0 + b.getD i 0 + c) % 18446744073709551616)) (by omega) (by simp [hl]) (inB_set hs (by omega))
      (fun j hj => by rw [getD_set_ne (by omega)]; exact hz j (by omega)) (by omega) (by
        rw [valB_set hi, hz i (Nat.le_refl _), ← hv, valB_drop a i, valB_drop b i, Nat.pow_succ, Nat.mul_comm (LB ^ i) LB, Int.natCast_mul]
        generalize hx : a.getD i 0 + b.getD i 0 + c = x
        have e2 : x = 18446744073709551616 * (x / 18446744073709551616) + x % 18446744073709551616 := (Int.mul_ediv_add_emod x _).symm
        have e3 : ((LB : Nat) : Int) = 18446744073709551616 := rfl
        rw [e3]
        generalize x / 18446744073709551616 = q at *
        generalize x % 18446744073709551616 = m at *
        subst e2
        generalize ((LB ^ i : Nat) : Int) = p
        generalize valB LB (a.drop (i + 1)) = w
        generalize valB LB (b.drop (i + 1)) = w'
        generalize a.getD i 0 = u at *
        generalize b.getD i 0 = v at *
        have hc' : c = 18446744073709551616 * q + m - u - v := by omega
        subst hc'
        grind)
    refine ⟨c', s', .step (fun rec => ?_) r1, r2, r3, r4, r5⟩
    unfold z25.l0P
    simp only [nat_limb, Option.bind_some]
    rw [bif_t (by omega), add64 h1.1 h2.1 hc]
    simp only [Option.bind_some]
    rw [if_pos (by omega), Int.toNat_natCast, if_pos hi, wr_i64 (by omega) (by omega)]
    rfl
theorem lb_lt {n k : Nat} (h : (lb n).length ≤ k) : n < LB ^ k := Nat.lt_of_lt_of_le (toB_len_lt bL) (Nat.pow_le_pow_right (by decide) h)
theorem nat_Add {m n : Nat} (hl : (lb m).length + (lb n).length ≤ 800000000) : z25.F (lb m) (lb n) = some (lb (m + n)) := by
  unfold z25.F
  generalize hk : max (lb m).length (lb n).length = k
  have e0 : (if (((lb n).length : Nat) : Int) > (((lb m).length : Nat) : Int) then (((lb n).length : Nat) : Int) else (((lb m).length : Nat) : Int)) = (k : Int) := by split <;> omega
  have e1 : wr .i64 ((k : Int) + 1) = ((k + 1 : Nat) : Int) := by rw [wr_i64 (by omega) (by omega)]; omega
  rw [e0, e1, if_pos (by omega), Int.toNat_natCast, List.length_replicate]
  obtain ⟨c', s', r1, r2, r3, r4, r5⟩ := natadd_loop (a := lb m) (b := lb n) (n := k + 1) (toB_in bL m) (toB_in bL n) (by omega) (by omega) (by omega) (k + 1) 0 0 (List.replicate (k + 1) 0) (by omega) (by simp) (inB_replicate (by decide) _)
    (fun j _ => getD_replicate _ j) (by omega) (by rw [valB_replicate]; simp)
  have e : z25.l0 ((k + 1 : Nat) : Int) (lb m) (lb n) ((0 : Int), (0 : Int), List.replicate (k + 1) 0) = some (c', ((k + 1 : Nat) : Int), s') := r1.lfp
  rw [e]
  simp only [Option.bind_some]
  rw [valB_toB bL, valB_toB bL] at r5
  have hm : m < LB ^ k := lb_lt (by omega)
  have hn : n < LB ^ k := lb_lt (by omega)
  have hc : c' = 0 := by
    rcases (show c' = 0 ∨ c' = 1 by omega) with h | h
    · exact h
    · exfalso
      subst h
      have := valB_nonneg r2
      have e3 : ((LB ^ (k + 1) : Nat) : Int) = (LB ^ k : Nat) * 18446744073709551616 := by rw [Nat.pow_succ, Int.natCast_mul]; rfl
      rw [e3] at r5
      omega
  subst hc
  rw [nat_trim r2 (by show List.length _ ≤ _; omega)]
  simp only [Option.bind_some]
  congr 2; omega
theorem natsub_loop {a b : List Int} (ha : inB LB a) (hb : inB LB b) (hal : a.length ≤ 900000000) :
    ∀ (f i : Nat) (c : Int) (s : List Int), i + f = a.length → s.length = a.length → inB LB s → (∀ j, i ≤ j → s.getD j 0 = 0) → 0 ≤ c ∧ c ≤ 1 →
      valB LB s - c * (LB ^ i : Nat) = valB LB (a.take i) - valB LB (b.take i) →
      ∃ c' s', Runs (fun rec x => z31.l0P (a.length : Int) a b rec some x) (c, (i : Int), s) (c', (a.length : Int), s') ∧ inB LB s' ∧ s'.length = a.length ∧ (0 ≤ c' ∧ c' ≤ 1) ∧ valB LB s' - c' * (LB ^ a.length : Nat) = valB LB a - valB LB (b.take a.length)
  | 0, i, c, s, hf, hl, hs, hz, hc, hv => by
    have : i = a.length := by omega
    subst this
    refine ⟨c, s, .done fun rec => ?_, hs, hl, hc, by rwa [List.take_length] at hv⟩
    unfold z31.l0P
    simp only
    rw [bif_f (by omega)]
  | f + 1, i, c, s, hf, hl, hs, hz, hc, hv => by
    have hi : i < a.length := by omega
    have his : i < s.length := by omega
    have hLB : ((LB : Nat) : Int) = 18446744073709551616 := rfl
    have h1 := getD_in (B := LB) (by decide) ha i
    have h2 := getD_in (B := LB) (by decide) hb i
    have eb : valB LB (b.take (i + 1)) = valB LB (b.take i) + (LB ^ i : Nat) * b.getD i 0 := by
      by_cases hb' : i < b.length
      · rw [valB_take_succ hb', getD_eq hb']
      · rw [List.take_of_length_le (by omega), List.take_of_length_le (by omega)]
        simp [List.getD, List.getElem?_eq_none (show b.length ≤ i by omega)]
    have hsub : z1.F (a.getD i 0) (b.getD i 0) c = some ((a.getD i 0 - b.getD i 0 - c) % 18446744073709551616, if a.getD i 0 < b.getD i 0 + c then 1 else 0) := by
      unfold z1.F; rw [if_pos (by omega)]
    obtain ⟨c', s', r1, r2, r3, r4, r5⟩ := natsub_loop ha hb hal f (i + 1) (if a.getD i 0 < b.getD i 0 + c then 1 else 0) (s.set i ((a.getD i 0 - b.getD i 0 - c) % 18446744073709551616)) (by omega) (by simp [hl]) (inB_set hs (by omega))
      (fun j hj => by rw [getD_set_ne (by omega)]; exact hz j (by omega)) (by split <;> omega) (by
        rw [valB_set his, hz i (Nat.le_refl _), valB_take_succ hi, eb, Nat.pow_succ, Nat.mul_comm (LB ^ i) LB, Int.natCast_mul, ← getD_eq hi]
        have e3 : ((LB : Nat) : Int) = 18446744073709551616 := rfl
        rw [e3]
        have e4 : (a.getD i 0 - b.getD i 0 - c) % 18446744073709551616 = a.getD i 0 - b.getD i 0 - c + (if a.getD i 0 < b.getD i 0 + c then 1 else 0) * 18446744073709551616 := by split <;> omega
        rw [e4]
        generalize (if a.getD i 0 < b.getD i 0 + c then (1 : Int) else 0) = q
        generalize ((LB ^ i : Nat) : Int) = p at *
        grind)
    refine ⟨c', s', .step (fun rec => ?_) r1, r2, r3, r4, r5⟩
    unfold z31.l0P
    simp only [nat_limb, Option.bind_some]
    rw [bif_t (by omega), if_pos (by omega), Int.toNat_natCast, hsub]
    simp only [Option.bind_some]
    rw [if_pos (by omega), if_pos his, wr_i64 (by omega) (by omega)]
    rfl
theorem nat_Sub {m n : Nat} (hl : (lb m).length ≤ 800000000) : z31.F (lb m) (lb n) = some (if n ≤ m then (lb (m - n), true) else ([], false)) := by
  unfold z31.F
  rw [nat_Cmp (by omega)]
  simp only [Option.bind_some]
  by_cases h : n ≤ m
  · have h0 : ¬ cmpI (m : Int) n < 0 := by unfold cmpI; split <;> (try split) <;> omega
    rw [bif_f h0, if_pos h, if_pos (by omega), Int.toNat_natCast, List.length_replicate]
    obtain ⟨c', s', r1, r2, r3, r4, r5⟩ := natsub_loop (a := lb m) (b := lb n) (toB_in bL m) (toB_in bL n) (by omega) (lb m).length 0 0 (List.replicate (lb m).length 0) (by omega) (by simp) (inB_replicate (by decide) _)
      (fun j _ => getD_replicate _ j) (by omega) (by rw [valB_replicate]; simp [valB])
    have hlen : (lb n).length ≤ (lb m).length := by
      rcases Nat.lt_or_ge (lb m).length (lb n).length with h' | h'
      · have := toB_lt_of_len bL h'; omega
      · exact h'
    rw [List.take_of_length_le hlen, valB_toB bL, valB_toB bL] at r5
    have h1 := valB_lt bL r2
    rw [r3] at h1
    have hc : c' = 0 := by
      rcases (show c' = 0 ∨ c' = 1 by omega) with h | h
      · exact h
      · subst h; omega
    subst hc
    have e : z31.l0 ((lb m).length : Int) (lb m) (lb n) ((0 : Int), (0 : Int), List.replicate (lb m).length 0) = some ((0 : Int), ((lb m).length : Int), s') := r1.lfp
    rw [e]
    simp only [Option.bind_some]
    rw [nat_trim r2 (by show List.length _ ≤ _; omega)]
    simp only [Option.bind_some]
    congr 3; omega
  · have h0 : cmpI (m : Int) n < 0 := by unfold cmpI; rw [if_pos (by omega)]; decide
    rw [bif_t h0, if_neg h]
end Go.Proofs.YtgjncgiekniniaaGreatDoor.A
end
section
set_option linter.unusedVariables false
set_option linter.unusedSimpArgs false
namespace Go.Proofs.YtgjncgiekniniaaGreatDoor.A
open Go
theorem nat_Of_gen {l : List Int} (hl : inB LB l) (hs : short l) : z39.F l = some (lb (valB LB l).toNat) := by
  have hs' : l.length ≤ 1000000000 := hs
  unfold z39.F
  rw [if_pos (by omega), nat_trim hl hs]; rfl
theorem nat_Of1 {x : Int} (h : 0 ≤ x ∧ x < 18446744073709551616) : z39.F [x] = some (lb x.toNat) := by
  rw [nat_Of_gen (inB_cons.2 ⟨h, inB_nil _⟩) (by show [x].length ≤ _; simp)]
  simp [valB]
theorem nat_Limbs {l : List Int} (hs : short l) : z61.F l = some l := by
  have hs' : l.length ≤ 1000000000 := hs
  unfold z61.F
  rw [if_pos (by omega)]
theorem natmul_inner {x : Int} {a : List Int} {off tot : Nat} (hx : 0 ≤ x ∧ x < 18446744073709551616) (ha : inB LB a) (ht : tot ≤ 1800000000) (hot : off + a.length < tot) :
    ∀ (f i : Nat) (c : Int) (s : List Int), i + f = a.length → s.length = tot → inB LB s → 0 ≤ c ∧ c < 18446744073709551616 →
      ∃ c' s', Runs (fun rec y => z41.l0aP x off (tot - off) a (a.length : Int) rec some y) (c, (i : Int), s) (c', (a.length : Int), s') ∧ inB LB s' ∧ s'.length = tot ∧ (0 ≤ c' ∧ c' < 18446744073709551616) ∧
        (∀ j, off + a.length ≤ j → s'.getD j 0 = s.getD j 0) ∧ valB LB s' + c' * (LB ^ (off + a.length) : Nat) = valB LB s + (c + x * valB LB (a.drop i)) * (LB ^ (off + i) : Nat)
  | 0, i, c, s, hf, hl, hs, hc => by
    have : i = a.length := by omega
    subst this
    refine ⟨c, s, .done fun rec => ?_, hs, hl, hc, fun j _ => rfl, ?_⟩
    · unfold z41.l0aP
      simp only
      rw [bif_f (by omega)]
    · rw [List.drop_eq_nil_of_le (Nat.le_refl _)]; simp [valB]
  | f + 1, i, c, s, hf, hl, hs, hc => by
    have hi : i < a.length := by omega
    have his : off + i < s.length := by omega
    have h1 := getD_in (B := LB) (by decide) ha i
    have h2 := getD_in (B := LB) (by decide) hs (off + i)
    have h1' : 0 ≤ a.getD i 0 ∧ a.getD i 0 < 18446744073709551616 := h1
    have h2' : 0 ≤ s.getD (off + i) 0 ∧ s.getD (off + i) 0 < 18446744073709551616 := h2
    have hp : 0 ≤ x * a.getD i 0 ∧ x * a.getD i 0 ≤ 18446744073709551615 * 18446744073709551615 := ⟨Int.mul_nonneg hx.1 h1'.1, Int.mul_le_mul (by omega) (by omega) h1'.1 (by decide)⟩
    obtain ⟨c', s', r1, r2, r3, r4, r5, r6⟩ := natmul_inner hx ha ht hot f (i + 1) ((x * a.getD i 0 + c + s.getD (off + i) 0) / 18446744073709551616) (s.set (off + i) ((x * a.getD i 0 + c + s.getD (off + i) 0) % 18446744073709551616))
      (by omega) (by simp [hl]) (inB_set hs (by show 0 ≤ _ ∧ _ < (18446744073709551616 : Int); omega)) (by omega)
    refine ⟨c', s', .step (fun rec => ?_) r1, r2, r3, r4, fun j hj => ?_, ?_⟩
    · unfold z41.l0aP
      simp only
      rw [bif_t (by omega), if_pos (by omega), Int.toNat_natCast, mul64 hx h1']
      simp only [Option.bind_some]
      rw [add64 (by omega) hc.1 (by omega)]
      simp only [Option.bind_some]
      rw [if_pos (by omega), if_pos his, add64 h2'.1 (by omega) (by omega)]
      simp only [Option.bind_some]
      rw [if_pos (by omega), if_pos his]
      generalize x * a.getD i 0 = p at hp ⊢
      generalize s.getD (off + i) 0 = u at h2' ⊢
      rw [wr_u64 (n := p / 18446744073709551616 + _) (by omega) (by omega), wr_u64 (by omega) (by omega), wr_i64 (by omega) (by omega)]
      congr 2
      · omega
      · congr 2; omega
    · rw [r5 j hj, getD_set_ne (by omega)]
    · rw [r6, valB_set his, valB_drop a i]
      have e1 : ((LB ^ (off + (i + 1)) : Nat) : Int) = 18446744073709551616 * (LB ^ (off + i) : Nat) := by
        rw [← Nat.add_assoc, Nat.pow_succ, Nat.mul_comm, Int.natCast_mul]; rfl
      rw [e1]
      have e3 : ((LB : Nat) : Int) = 18446744073709551616 := rfl
      rw [e3]
      generalize hy : x * a.getD i 0 + c + s.getD (off + i) 0 = y
      have e2 : y = 18446744073709551616 * (y / 18446744073709551616) + y % 18446744073709551616 := (Int.mul_ediv_add_emod y _).symm
      generalize y / 18446744073709551616 = q at *
      generalize y % 18446744073709551616 = m at *
      generalize ((LB ^ (off + i) : Nat) : Int) = p
      generalize valB LB (a.drop (i + 1)) = w
      generalize valB LB s = z
      generalize s.getD (off + i) 0 = u at *
      generalize a.getD i 0 = v at *
      have hc' : c = 18446744073709551616 * q + m - u - x * v := by omega
      subst hc'
      grind
theorem natmul_outer {a b : List Int} {tot : Nat} (ha : inB LB a) (hb : inB LB b) (ht : tot ≤ 1800000000) (hab : tot = a.length + b.length + 1) :
    ∀ (f i : Nat) (s : List Int), i + f = b.length → s.length = tot → inB LB s → (∀ j, i + a.length ≤ j → s.getD j 0 = 0) → valB LB s = valB LB a * valB LB (b.take i) →
      ∃ s', Runs (fun rec y => z41.l0P b (b.length : Int) a rec some y) ((i : Int), s) ((b.length : Int), s') ∧ inB LB s' ∧ s'.length = tot ∧ valB LB s' = valB LB a * valB LB b
  | 0, i, s, hf, hl, hs, hz, hv => by
    have : i = b.length := by omega
    subst this
    refine ⟨s, .done fun rec => ?_, hs, hl, by rwa [List.take_length] at hv⟩
    unfold z41.l0P
    simp only
    rw [bif_f (by omega)]
  | f + 1, i, s, hf, hl, hs, hz, hv => by
    have hi : i < b.length := by omega
    have hx := getD_in (B := LB) (by decide) hb i
    have hx' : 0 ≤ b.getD i 0 ∧ b.getD i 0 < 18446744073709551616 := hx
    obtain ⟨c, s1, r1, r2, r3, r4, r5, r6⟩ := natmul_inner (x := b.getD i 0) (a := a) (off := i) (tot := tot) hx' ha ht (by omega) a.length 0 0 s (by omega) hl hs (by omega)
    have e0 : z41.l0a (b.getD i 0) i (tot - i) a (a.length : Int) ((0 : Int), (0 : Int), s) = some (c, (a.length : Int), s1) := r1.lfp
    have hz1 : s1.getD (i + a.length) 0 = 0 := by rw [r5 _ (Nat.le_refl _)]; exact hz _ (Nat.le_refl _)
    have hi1 : i + a.length < s1.length := by omega
    obtain ⟨s', q1, q2, q3, q4⟩ := natmul_outer ha hb ht hab f (i + 1) (s1.set (i + a.length) c) (by omega) (by simp [r3]) (inB_set r2 r4)
      (fun j hj => by rw [getD_set_ne (by omega), r5 j (by omega)]; exact hz j (by omega)) (by
        rw [valB_set hi1, hz1, valB_take_succ hi, Int.mul_add, ← hv, ← getD_eq hi]
        simp only [List.drop_zero, Nat.add_zero, Int.zero_add] at r6
        generalize ((LB ^ (i + a.length) : Nat) : Int) = p at *
        generalize ((LB ^ i : Nat) : Int) = p2 at *
        grind)
    refine ⟨s', .step (fun rec => ?_) q1, q2, q3, q4⟩
    unfold z41.l0P
    simp only
    rw [bif_t (by omega), if_pos (by omega), if_pos (by omega), Int.toNat_natCast, hl, e0]
    simp only [Option.bind_some, Int.toNat_natCast]
    rw [if_pos (by omega), if_pos hi1, if_pos (by omega), if_pos hi1, hz1, wr_i64 (by omega) (by omega), wr_u64 (by omega) (by omega), Int.zero_add]
    rfl
theorem nat_Mul_gen {a b : List Int} (ha : inB LB a) (hb : inB LB b) (hl : a.length + b.length ≤ 800000000) : z41.F a b = some (lb (valB LB a * valB LB b).toNat) := by
  obtain ⟨s', r1, r2, r3, r4⟩ := natmul_outer (tot := a.length + b.length + 1) ha hb (by omega) rfl b.length 0 (List.replicate (a.length + b.length + 1) 0) (by omega) (by simp) (inB_replicate (by decide) _)
    (fun j _ => getD_replicate _ j) (by rw [valB_replicate]; simp [valB])
  have e0 : z41.l0 b (b.length : Int) a ((0 : Int), List.replicate (a.length + b.length + 1) 0) = some ((b.length : Int), s') := r1.lfp
  have e1 : wr .i64 (wr .i64 ((a.length : Int) + (b.length : Int)) + 1) = ((a.length + b.length + 1 : Nat) : Int) := by
    rw [wr_i64 (n := (a.length : Int) + (b.length : Int)) (by omega) (by omega), wr_i64 (by omega) (by omega)]; omega
  unfold z41.F
  rw [e1, if_pos (by omega), Int.toNat_natCast, e0]
  simp only [Option.bind_some]
  rw [nat_trim r2 (by show List.length _ ≤ _; omega), r4]
  rfl
theorem nat_Mul {m n : Nat} (hl : (lb m).length + (lb n).length ≤ 800000000) : z41.F (lb m) (lb n) = some (lb (m * n)) := by
  rw [nat_Mul_gen (toB_in bL m) (toB_in bL n) hl, valB_toB bL, valB_toB bL]
  congr 2
end Go.Proofs.YtgjncgiekniniaaGreatDoor.A
end
section
set_option linter.unusedVariables false
set_option linter.unusedSimpArgs false
namespace Go.Proofs.YtgjncgiekniniaaGreatDoor.A
open Go
theorem whole_Of (n : Nat) (b : Bool) : z22.F (lb n) b = some (lb n, b && decide (0 < n)) := by
  unfold z22.F
  cases b
  · rfl
  · rw [nat_Zero]
    simp only [cond_true, Bool.true_and, Option.bind_some]
    congr 2
    by_cases h : n = 0
    · subst h; rfl
    · rw [decide_eq_false h, decide_eq_true (by omega : 0 < n)]; rfl
theorem whole_Of' {z : Int} {b : Bool} (h : (b = true ∧ z ≤ 0) ∨ (b = false ∧ 0 ≤ z)) : z22.F (lb z.natAbs) b = some (lb z.natAbs, neg z) := by
  rw [whole_Of]
  congr 2
  rcases h with ⟨rfl, h⟩ | ⟨rfl, h⟩
  · rw [Bool.true_and]; exact decide_eq_decide.2 (by omega)
  · rw [Bool.false_and]; symm; exact decide_eq_false (by omega)
theorem whole_at {z : Int} {n : Nat} {b : Bool} (hn : n = z.natAbs) (h : (b = true ∧ z ≤ 0) ∨ (b = false ∧ 0 ≤ z)) : z22.F (lb n) b = some (lb z.natAbs, neg z) := by
  subst hn; exact whole_Of' h
theorem whole_From {z : Int} (h : -9223372036854775808 ≤ z ∧ z < 9223372036854775808) : z49.F z = some (lb z.natAbs, neg z) := by
  unfold z49.F
  by_cases hz : z < 0
  · have e : wr .u64 (0 - wr .u64 z) = ((z.natAbs : Nat) : Int) := by rw [wr_u64_mod z, wr_u64_mod]; omega
    rw [bif_t hz, e, nat_Of1 (by omega)]
    simp only [Option.bind_some, Int.toNat_natCast]
    rw [whole_Of' (z := z) (.inl ⟨rfl, by omega⟩)]; rfl
  · have e : wr .u64 z = ((z.natAbs : Nat) : Int) := by rw [wr_u64 (by omega) (by omega)]; omega
    rw [bif_f hz, e, nat_Of1 (by omega)]
    simp only [Option.bind_some, Int.toNat_natCast]
    rw [whole_Of' (z := z) (.inr ⟨rfl, by omega⟩)]; rfl
theorem whole_Neg (z : Int) : z33.F (lb z.natAbs) (neg z) = some (lb (-z).natAbs, neg (-z)) := by
  unfold z33.F
  rw [whole_at (z := -z) (by omega) (by by_cases h : z < 0; exact .inr ⟨by simp [neg, h], by omega⟩; exact .inl ⟨by simp [neg, h], by omega⟩)]
  rfl
theorem whole_Sign (z : Int) : z21.F (lb z.natAbs) (neg z) = some (cmpI z 0) := by
  unfold z21.F cmpI
  rw [nat_Zero]
  simp only [Option.bind_some]
  by_cases h0 : z = 0
  · subst h0; rfl
  · rw [bif_f (by omega)]
    by_cases h : z < 0
    · rw [bif_t h, if_pos h]
    · rw [bif_f h, if_neg h, if_neg h0]
theorem whole_Add {x y : Int} (hl : (lb x.natAbs).length + (lb y.natAbs).length ≤ 800000000) : z32.F (lb x.natAbs) (neg x) (lb y.natAbs) (neg y) = some (lb (x + y).natAbs, neg (x + y)) := by
  unfold z32.F
  by_cases hs : neg x = neg y
  · have hs' : (x < 0 ↔ y < 0) := by simpa [neg] using hs
    rw [bif_t hs, nat_Add hl]
    simp only [Option.bind_some]
    rw [whole_at (z := x + y) (by omega) (by by_cases hx : x < 0; exact .inl ⟨decide_eq_true hx, by omega⟩; exact .inr ⟨decide_eq_false hx, by omega⟩)]
    rfl
  · have hs' : ¬ (x < 0 ↔ y < 0) := by simpa [neg] using hs
    rw [bif_f hs, nat_Sub (by omega)]
    simp only [Option.bind_some]
    by_cases hc : y.natAbs ≤ x.natAbs
    · rw [if_pos hc]
      simp only [cond_true]
      rw [whole_at (z := x + y) (by omega) (by by_cases hx : x < 0; exact .inl ⟨decide_eq_true hx, by omega⟩; exact .inr ⟨decide_eq_false hx, by omega⟩)]
      rfl
    · rw [if_neg hc]
      simp only [cond_false]
      rw [nat_Sub (by omega), if_pos (by omega)]
      simp only [Option.bind_some]
      rw [whole_at (z := x + y) (by omega) (by by_cases hy : y < 0; exact .inl ⟨decide_eq_true hy, by omega⟩; exact .inr ⟨decide_eq_false hy, by omega⟩)]
      rfl
theorem whole_Sub {x y : Int} (hl : (lb x.natAbs).length + (lb y.natAbs).length ≤ 800000000) : z34.F (lb x.natAbs) (neg x) (lb y.natAbs) (neg y) = some (lb (x - y).natAbs, neg (x - y)) := by
  unfold z34.F
  rw [whole_Neg]
  simp only [Option.bind_some]
  rw [whole_Add (by rw [Int.natAbs_neg]; exact hl)]
  rfl
theorem whole_Cmp {x y : Int} (hl : (lb x.natAbs).length + (lb y.natAbs).length ≤ 800000000) : z35.F (lb x.natAbs) (neg x) (lb y.natAbs) (neg y) = some (cmpI x y) := by
  unfold z35.F
  rw [whole_Sub hl]
  simp only [Option.bind_some]
  rw [whole_Sign, cmpI_sub]
  rfl
theorem neg_mul (x y : Int) : ((!decide (neg x = neg y)) && decide (0 < x.natAbs * y.natAbs)) = neg (x * y) := by
  have h0 : 0 < x.natAbs * y.natAbs ↔ x ≠ 0 ∧ y ≠ 0 := by
    constructor
    · intro h; exact ⟨by rintro rfl; simp at h, by rintro rfl; simp at h⟩
    · rintro ⟨h1, h2⟩; exact Nat.mul_pos (by omega) (by omega)
  rw [Bool.eq_iff_iff]
  simp only [Bool.and_eq_true, Bool.not_eq_true', decide_eq_true_eq, decide_eq_false_iff_not, h0]
  rcases Int.lt_trichotomy x 0 with hx | hx | hx <;> rcases Int.lt_trichotomy y 0 with hy | hy | hy
  · have := Int.mul_pos_of_neg_of_neg hx hy; simp [hx, hy]; omega
  · subst hy; simp
  · have := Int.mul_neg_of_neg_of_pos hx hy; simp [hx]; omega
  · subst hx; simp
  · subst hx; simp
  · subst hx; simp
  · have := Int.mul_neg_of_pos_of_neg hx hy; simp [hy]; omega
  · subst hy; simp
  · have := Int.mul_pos hx hy; simp; omega
theorem whole_Mul {x y : Int} (hl : (lb x.natAbs).length + (lb y.natAbs).length ≤ 800000000) : z55.F (lb x.natAbs) (neg x) (lb y.natAbs) (neg y) = some (lb (x * y).natAbs, neg (x * y)) := by
  unfold z55.F
  rw [nat_Mul hl]
  simp only [Option.bind_some]
  rw [whole_Of, neg_mul, Int.natAbs_mul]
  rfl
end Go.Proofs.YtgjncgiekniniaaGreatDoor.A
end
section
set_option linter.unusedVariables false
set_option linter.unusedSimpArgs false
namespace Go.Proofs.YtgjncgiekniniaaGreatDoor.A
open Go
def sz (n : Nat) : Nat := (toB 10 n).length
theorem sz_lt (n : Nat) : n < 10 ^ sz n := toB_len_lt b10
theorem sz_le {n k : Nat} (h : n < 10 ^ k) : sz n ≤ k := toB_len_le b10 h
theorem sz_mono {m n : Nat} (h : m ≤ n) : sz m ≤ sz n := sz_le (Nat.lt_of_le_of_lt h (sz_lt n))
theorem lb_sz (n : Nat) : (lb n).length ≤ sz n := toB_len_le bL (Nat.lt_of_lt_of_le (sz_lt n) (Nat.pow_le_pow_left (by decide) _))
theorem dg_sz (n : Nat) : (dg n).length ≤ sz n := toB_len_le b4 (Nat.lt_of_lt_of_le (sz_lt n) (Nat.pow_le_pow_left (by decide) _))
theorem sz_mul (m n : Nat) : sz (m * n) ≤ sz m + sz n := sz_le (by rw [Nat.pow_add]; exact Nat.mul_lt_mul_of_lt_of_le (sz_lt m) (Nat.le_of_lt (sz_lt n)) (Nat.pow_pos (by decide)))
theorem sz_zero : sz 0 = 0 := by simp [sz, toB_zero]
theorem lb_zero : lb 0 = [] := toB_zero LB
theorem dg_zero : dg 0 = [] := toB_zero 10000
def isD (b : UInt8) : Bool := decide (48 ≤ b.toNat) && decide (b.toNat ≤ 57)
def digs (s : List UInt8) : Bool := s.all isD
theorem digs_iff {s : List UInt8} : digs s = true ↔ digits s := by simp [digs, digits, digit, isD]
theorem beq_u8 (b c : UInt8) : (b == c) = decide (b.toNat = c.toNat) := by
  rw [Bool.eq_iff_iff]; simp [UInt8.toNat_inj]
theorem has_digit (b : UInt8) : ([48, 49, 50, 51, 52, 53, 54, 55, 56, 57] : List UInt8).contains b = isD b := by
  rw [Bool.eq_iff_iff]
  simp only [List.contains_cons, List.contains_nil, beq_u8, isD]
  simp
  omega
theorem dropWhile_nil_iff {α : Type} {p : α → Bool} : ∀ {l : List α}, l.dropWhile p = [] ↔ ∀ x ∈ l, p x = true
  | [] => by simp
  | a :: l => by
    by_cases h : p a = true
    · rw [List.dropWhile_cons_of_pos h, dropWhile_nil_iff (l := l)]; simp [h]
    · rw [List.dropWhile_cons_of_neg h]; simp [h]
theorem trim_nil (s cs : List UInt8) : Lib.trimS s cs = [] ↔ ∀ b ∈ s, cs.contains b = true := by
  unfold Lib.trimS Lib.trimLeftS Lib.trimRightS
  rw [dropWhile_nil_iff]
  constructor
  · intro h
    cases he : s.reverse.dropWhile (cs.contains ·) with
    | nil =>
      rw [dropWhile_nil_iff] at he
      exact fun b hb => he b (List.mem_reverse.2 hb)
    | cons x l =>
      have h1 := List.head?_dropWhile_not (cs.contains ·) s.reverse
      rw [he] at h1
      have h2 := h x (by rw [he]; simp)
      simp only [List.head?_cons] at h1
      rw [h2] at h1; simp at h1
  · intro h
    have he : s.reverse.dropWhile (cs.contains ·) = [] := dropWhile_nil_iff.2 fun b hb => h b (List.mem_reverse.1 hb)
    rw [he]; simp
theorem trim_digits (s : List UInt8) (hs : s.length ≤ 9223372036854775807) : ∃ r, z3.F s [48, 49, 50, 51, 52, 53, 54, 55, 56, 57] = some r ∧ decide (r = []) = digs s := by
  unfold z3.F
  rw [if_pos ⟨hs, by decide, by decide⟩]
  refine ⟨_, rfl, ?_⟩
  rw [Bool.eq_iff_iff, decide_eq_true_iff, trim_nil, digs, List.all_eq_true]
  simp only [has_digit]
def numOK (s : List UInt8) : Bool := !decide (s = []) && digs s && !(decide (1 < s.length) && decide ((s.getD 0 0).toNat = 48))
def mDigits (s : List UInt8) : Nat × Int := if 4096 < s.length then (0, 7) else if numOK s then ((tv 0 s).toNat, 0) else (0, 5)
theorem decode_ascii {s : List UInt8} {i : Nat} (hi : i < s.length) (h : (s.getD i 0).toNat < 128) : Utf8.decode ⟨s.toArray⟩ i = ((s.getD i 0).toNat, 1) := by
  have e : (ByteArray.mk s.toArray).get! (i + 0) = s.getD i 0 := by
    show s.toArray[i + 0]! = _
    simp [List.getD, hi]
  unfold Utf8.decode
  simp only [e]
  rw [if_pos h]
theorem wr_i32 {n : Int} (h1 : -2147483648 ≤ n) (h2 : n < 2147483648) : wr .i32 n = n := by
  simp only [wr, IntKind.wrap, IntKind.signed, IntKind.bits]
  simp; omega
theorem parse_l2 {s : List UInt8} (hs : digits s) (hl : s.length ≤ 18) : ∀ (f i : Nat) (d : Int), i + f = s.length → 0 ≤ d ∧ d < (10 ^ i : Nat) →
    Runs (fun rec x => z42.l2P s rec some x) (d, i) (tv d (s.drop i), s.length)
  | 0, i, d, hf, _ => by
    have : i = s.length := by omega
    subst this
    refine .done fun rec => ?_
    unfold z42.l2P
    simp only
    rw [if_neg (by omega), List.drop_eq_nil_of_le (Nat.le_refl _)]
    rfl
  | f + 1, i, d, hf, hd => by
    have hi : i < s.length := by omega
    have hb := hs s[i] (List.getElem_mem hi)
    unfold digit at hb
    have eg : s.getD i 0 = s[i] := by simp [List.getD, hi]
    have hp : (10 ^ i : Nat) ≤ 10 ^ 17 := Nat.pow_le_pow_right (by decide) (by omega)
    have hp' : ((10 ^ i : Nat) : Int) ≤ 100000000000000000 := Int.ofNat_le.2 hp
    have ih := parse_l2 hs hl f (i + 1) (10 * d + (s[i].toNat : Int) - 48) (by omega) ⟨by omega, by rw [Nat.pow_succ, Int.natCast_mul]; omega⟩
    rw [List.drop_eq_getElem_cons hi]
    refine .step (fun rec => ?_) ih
    unfold z42.l2P
    simp only
    rw [if_pos hi, decode_ascii hi (by rw [eg]; omega), eg]
    simp only
    rw [wr_i32 (by omega) (by omega), wr_u64 (n := (s[i].toNat : Int) - 48) (by omega) (by omega), wr_u64 (n := 10 * d) (by omega) (by omega), wr_u64 (by omega) (by omega)]
    congr 2; omega
theorem parse_body {s : List UInt8} {n j k : Nat} (hs : digits s) (hk : k ≤ s.length) (hk' : k ≤ 18) (hn : n < 10 ^ j) (hj : j ≤ 8192) {R : Type} (rec done : (List UInt8 × Bool × List Int) → Option R) :
    z42.j5011a rec done (k : Int) s (lb n) = rec (s.drop k, false, lb (n * 1000000000000000000 + (tv 0 (s.take k)).toNat)) := by
  have hds : digits (s.take k) := fun b hb => hs b (List.mem_of_mem_take hb)
  have hlen : (s.take k).length = k := by rw [List.length_take]; omega
  have htb := tv_bound hds
  rw [hlen] at htb
  have hp : (10 ^ k : Nat) ≤ 10 ^ 18 := Nat.pow_le_pow_right (by decide) hk'
  have hp' : ((10 ^ k : Nat) : Int) ≤ 1000000000000000000 := Int.ofNat_le.2 hp
  have r := parse_l2 hds (by omega) (s.take k).length 0 0 (by omega) ⟨Int.le_refl 0, by decide⟩
  have er : z42.l2a (s.take k) ((0 : Int), 0) = some (tv 0 (s.take k), (s.take k).length) := r.lfp
  obtain ⟨U, hU⟩ : ∃ U : Nat, 1000000000000000000 = U := ⟨_, rfl⟩
  have hU' : Int.toNat 1000000000000000000 = U := by omega
  have hUs : sz U ≤ 19 := sz_le (by omega)
  have hsn := Nat.le_trans (lb_sz n) (sz_le hn)
  have hsu := Nat.le_trans (lb_sz U) hUs
  have hsm := Nat.le_trans (lb_sz (n * U)) (Nat.le_trans (sz_mul n U) (Nat.add_le_add (sz_le hn) hUs))
  have hst := Nat.le_trans (lb_sz (tv 0 (s.take k)).toNat) (sz_le (k := 18) (by omega))
  have e1 : z39.F [(1000000000000000000 : Int)] = some (lb U) := by rw [nat_Of1 (by omega), hU']
  have e2 : z39.F [tv 0 (s.take k)] = some (lb (tv 0 (s.take k)).toNat) := nat_Of1 (by omega)
  have e3 : z41.F (lb n) (lb U) = some (lb (n * U)) := nat_Mul (by omega)
  have e4 : z25.F (lb (n * U)) (lb (tv 0 (s.take k)).toNat) = some (lb (n * U + (tv 0 (s.take k)).toNat)) := nat_Add (by omega)
  have e5 : (0 : Int) ≤ (k : Int) ∧ (k : Int) ≤ ((s.length : Nat) : Int) := by omega
  rw [hU]
  unfold z42.j5011a
  rw [if_pos e5, Int.toNat_natCast, er]
  simp only [Option.bind_some]
  rw [e1]
  simp only [Option.bind_some]
  rw [e3]
  simp only [Option.bind_some]
  rw [e2]
  simp only [Option.bind_some]
  rw [e4]
  simp only [Option.bind_some]
  rw [if_pos e5]
theorem parse_loop : ∀ (m : Nat) (s : List UInt8), s.length ≤ m → digits s → ∀ (n j : Nat) (first : Bool), n < 10 ^ j → j + s.length ≤ 8192 → ((first = true ∧ n = 0) ∨ (first = false ∧ s.length % 18 = 0)) →
    ∃ f', Runs (fun rec x => z42.l0aaP rec some x) (s, first, lb n) ([], f', lb (tv n s).toNat)
  | 0, s, hm, hs, n, j, first, hn, hj, hf => by
    have : s = [] := List.length_eq_zero_iff.1 (by omega)
    subst this
    refine ⟨first, .done fun rec => ?_⟩
    simp [z42.l0aaP, tv]
  | m + 1, s, hm, hs, n, j, first, hn, hj, hf => by
    by_cases hne : s = []
    · subst hne
      refine ⟨first, .done fun rec => ?_⟩
      simp [z42.l0aaP, tv]
    · have hpos : 0 < s.length := List.length_pos_iff.2 hne
      have key : ∃ k : Nat, 0 < k ∧ k ≤ s.length ∧ k ≤ 18 ∧ (n = 0 ∨ k = 18) ∧ (s.length - k) % 18 = 0 ∧
          ∀ rec, z42.l0aaP rec some (s, first, lb n) = z42.j5011a rec some (k : Int) s (lb n) := by
        have hd : (!decide (s = ([] : List UInt8))) = true := by rw [decide_eq_false hne]; rfl
        rcases hf with ⟨rfl, hn0⟩ | ⟨rfl, h18⟩
        · have em : Int.tmod (s.length : Int) 18 = ((s.length % 18 : Nat) : Int) := by rw [tmod_emod (by omega)]; rfl
          by_cases h0 : s.length % 18 = 0
          · refine ⟨18, by omega, by omega, by omega, .inr rfl, by omega, fun rec => ?_⟩
            unfold z42.l0aaP
            simp only [hd, Bool.not_true, cond_true, cond_false]
            rw [em, bif_t (by omega)]; rfl
          · refine ⟨s.length % 18, by omega, Nat.mod_le _ _, by omega, .inl hn0, by omega, fun rec => ?_⟩
            unfold z42.l0aaP
            simp only [hd, Bool.not_true, cond_true, cond_false]
            rw [em, bif_f (by omega)]
        · refine ⟨18, by omega, by omega, by omega, .inr rfl, by omega, fun rec => ?_⟩
          unfold z42.l0aaP
          simp only [hd, Bool.not_false, cond_true]
          rfl
      obtain ⟨k, k0, k1, k2, k3, k4, k5⟩ := key
      have hds : digits (s.take k) := fun b hb => hs b (List.mem_of_mem_take hb)
      have hdd : digits (s.drop k) := fun b hb => hs b (List.mem_of_mem_drop hb)
      have hlen : (s.take k).length = k := by rw [List.length_take]; omega
      have htb := tv_bound hds
      rw [hlen] at htb
      have htv : tv n (s.take k) = ((n * 1000000000000000000 + (tv 0 (s.take k)).toNat : Nat) : Int) := by
        rw [tv_acc, hlen]
        rcases k3 with h | h
        · subst h; simp; omega
        · subst h
          have : ((10 ^ 18 : Nat) : Int) = 1000000000000000000 := rfl
          rw [this]; omega
      have hn' : n * 1000000000000000000 + (tv 0 (s.take k)).toNat < 10 ^ (j + k) := by
        have hp0 : 0 < 10 ^ j := Nat.pow_pos (by decide)
        rcases k3 with h | h
        · subst h
          have : 10 ^ k ≤ 10 ^ (j + k) := Nat.pow_le_pow_right (by decide) (by omega)
          omega
        · subst h
          have e18 : (10 ^ (j + 18) : Nat) = 10 ^ j * 1000000000000000000 := by rw [Nat.pow_add]
          have e18' : ((10 ^ 18 : Nat) : Int) = 1000000000000000000 := rfl
          rw [e18]
          have : (n + 1) * 1000000000000000000 ≤ 10 ^ j * 1000000000000000000 := Nat.mul_le_mul_right _ hn
          omega
      obtain ⟨f', r⟩ := parse_loop m (s.drop k) (by rw [List.length_drop]; omega) hdd (n * 1000000000000000000 + (tv 0 (s.take k)).toNat) (j + k) false hn' (by rw [List.length_drop]; omega) (.inr ⟨rfl, by rw [List.length_drop]; exact k4⟩)
      refine ⟨f', .step (y := (s.drop k, false, lb (n * 1000000000000000000 + (tv 0 (s.take k)).toNat))) (fun rec => ?_) ?_⟩
      · rw [k5, parse_body hs k1 k2 hn (by omega)]
      · have e : tv n s = tv ((n * 1000000000000000000 + (tv 0 (s.take k)).toNat : Nat) : Int) (s.drop k) := by
          conv => lhs; rw [← List.take_append_drop k s]
          rw [tv_append, htv]
        rw [e]; exact r
theorem digits_Parse (s : List UInt8) : z42.F s = some (lb (mDigits s).1, (mDigits s).2) := by
  unfold z42.F mDigits
  by_cases h1 : 4096 < s.length
  · rw [bif_t (by omega), if_pos h1, lb_zero]
  · rw [bif_f (by omega), if_neg h1]
    by_cases h2 : s = []
    · subst h2; rw [bif_t rfl]; simp [numOK, lb_zero]
    · rw [bif_f h2]
      obtain ⟨r, t1, t2⟩ := trim_digits s (by omega)
      rw [t1]
      simp only [Option.bind_some]
      rw [t2]
      cases hd : digs s with
      | false => simp [numOK, hd, lb_zero]
      | true =>
        have hds := digs_iff.1 hd
        obtain ⟨f', r⟩ := parse_loop s.length s (Nat.le_refl _) hds 0 0 true (by decide) (by omega) (.inl ⟨rfl, rfl⟩)
        rw [lb_zero] at r
        have er : z42.l0aa (s, true, []) = some ([], f', lb (tv ((0 : Nat) : Int) s).toNat) := r.lfp
        simp only [Bool.not_true, cond_false]
        rw [er]
        have hpos : 0 < s.length := List.length_pos_iff.2 h2
        by_cases h3 : 1 < s.length
        · rw [bif_t (by omega), if_pos (by omega)]
          by_cases h4 : (s.getD 0 0).toNat = 48
          · rw [bif_t (by omega)]
            have : numOK s = false := by simp [numOK, h3]; intro _ _ ; simpa [List.getD] using h4
            rw [this]; simp [lb_zero]
          · rw [bif_f (by omega)]
            have : numOK s = true := by simp only [numOK, decide_eq_false h2, hd, decide_eq_false h4]; simp
            rw [this]; rfl
        · rw [bif_f (by omega)]
          have : numOK s = true := by simp only [numOK, decide_eq_false h2, hd, decide_eq_false h3]; simp
          rw [this]; rfl
theorem and_one (a : Int) (h0 : 0 ≤ a) (h1 : a < 9223372036854775808) : wr .i64 ((BitVec.ofInt (IntKind.bits .i64) a &&& BitVec.ofInt (IntKind.bits .i64) (1 : Int)).toNat : Int) = a % 2 := by
  have e : (BitVec.ofInt (IntKind.bits .i64) a &&& BitVec.ofInt (IntKind.bits .i64) (1 : Int)).toNat = (a % 2).toNat := by
    rw [BitVec.toNat_and]
    have e1 : (BitVec.ofInt (IntKind.bits .i64) (1 : Int)).toNat = 2 ^ 1 - 1 := rfl
    have e2 : (BitVec.ofInt (IntKind.bits .i64) a).toNat = (a % 18446744073709551616).toNat := by
      rw [BitVec.toNat_ofInt]; rfl
    rw [e1, Nat.and_two_pow_sub_one_eq_mod, e2]
    omega
  rw [e, wr_i64 (by omega) (by omega)]; omega
theorem shr1 (a : Int) : Int.fdiv a (2 ^ (min 1 (64 : Nat))) = a / 2 := by
  rw [Int.fdiv_eq_ediv_of_nonneg _ (by decide)]; rfl
theorem power_loop : ∀ (f t n out : Nat), t ≤ f → t < 9223372036854775808 → sz out + t * sz n ≤ 800000000 →
    ∃ n', Runs (fun rec x => z44.l0P rec some x) ((t : Int), lb n, lb out) ((0 : Int), n', lb (out * n ^ t))
  | 0, t, n, out, hf, ht, hb => by
    have : t = 0 := by omega
    subst this
    refine ⟨lb n, .done fun rec => ?_⟩
    simp [z44.l0P]
  | f + 1, t, n, out, hf, ht, hb => by
    rcases Nat.eq_zero_or_pos t with h0 | h0
    · subst h0
      refine ⟨lb n, .done fun rec => ?_⟩
      simp [z44.l0P]
    · have hn := lb_sz n
      have ho := lb_sz out
      have hsq := sz_mul n n
      have hon := sz_mul out n
      have e2 : (t : Int) / 2 = ((t / 2 : Nat) : Int) := by omega
      have em : (t : Int) % 2 = ((t % 2 : Nat) : Int) := by omega
      have hq : t * sz n = 2 * (t / 2 * sz n) + t % 2 * sz n := by
        conv => lhs; rw [← Nat.div_add_mod t 2]
        rw [Nat.add_mul, Nat.mul_assoc]
      have hq2 : t / 2 * sz (n * n) ≤ 2 * (t / 2 * sz n) := by
        have := Nat.mul_le_mul_left (t / 2) hsq
        have e : t / 2 * (sz n + sz n) = 2 * (t / 2 * sz n) := by rw [Nat.mul_add]; omega
        omega
      have hpow : n ^ t = n ^ (t % 2) * (n * n) ^ (t / 2) := by
        rw [← Nat.pow_two, ← Nat.pow_mul, ← Nat.pow_add]; congr 1; omega
      by_cases hodd : t % 2 = 1
      · rw [hodd, Nat.one_mul] at hq
        by_cases h1 : 1 < t
        · have hge : 1 ≤ t / 2 := by omega
          have hge' : sz n ≤ t / 2 * sz n := Nat.le_mul_of_pos_left _ hge
          obtain ⟨n', r⟩ := power_loop f (t / 2) (n * n) (out * n) (by omega) (by omega) (by omega)
          refine ⟨n', .step (fun rec => ?_) (by rw [hpow, hodd, Nat.pow_one, ← Nat.mul_assoc]; exact r)⟩
          unfold z44.l0P
          simp only
          rw [bif_t (by omega), and_one _ (by omega) (by omega), em, hodd, bif_t (by omega), nat_Mul (by omega)]
          simp only [Option.bind_some]
          rw [bif_t (by omega), nat_Mul (by omega), shr1, e2]
          rfl
        · have ht1 : t = 1 := by omega
          subst ht1
          obtain ⟨n', r⟩ := power_loop f 0 n (out * n) (by omega) (by omega) (by omega)
          refine ⟨n', .step (fun rec => ?_) (by simpa using r)⟩
          unfold z44.l0P
          simp only
          rw [bif_t (by omega), and_one _ (by omega) (by omega), bif_t (by decide), nat_Mul (by omega)]
          simp only [Option.bind_some]
          rw [bif_f (by omega), shr1]
          rfl
      · have h2 : t % 2 = 0 := by omega
        rw [h2, Nat.zero_mul, Nat.add_zero] at hq
        have hge : 1 ≤ t / 2 := by omega
        have hge' : sz n ≤ t / 2 * sz n := Nat.le_mul_of_pos_left _ hge
        obtain ⟨n', r⟩ := power_loop f (t / 2) (n * n) out (by omega) (by omega) (by omega)
        refine ⟨n', .step (fun rec => ?_) (by rw [hpow, h2, Nat.pow_zero, Nat.one_mul]; exact r)⟩
        unfold z44.l0P
        simp only
        rw [bif_t (by omega), and_one _ (by omega) (by omega), em, h2, bif_f (by omega), bif_t (by omega), nat_Mul (by omega)]
        simp only [Option.bind_some]
        rw [shr1, e2]
theorem digits_power {n t : Nat} (ht : t < 9223372036854775808) (h : t * sz n ≤ 700000000) : z44.F (lb n) (t : Int) = some (lb (n ^ t)) := by
  have h1 : sz 1 ≤ 1 := sz_le (by decide)
  obtain ⟨n', r⟩ := power_loop t t n 1 (Nat.le_refl _) ht (by omega)
  have e : z44.l0 ((t : Int), lb n, lb 1) = some ((0 : Int), n', lb (1 * n ^ t)) := r.lfp
  unfold z44.F
  rw [nat_Of1 (by omega)]
  simp only [Option.bind_some]
  rw [show Int.toNat 1 = 1 from rfl, e, Nat.one_mul]
  rfl
theorem digits_Ten {t : Nat} (ht : t ≤ 4096) : z45.F (t : Int) = some (lb (10 ^ t), 0) := by
  have h1 : sz 10 ≤ 2 := sz_le (by decide)
  have h2 := Nat.mul_le_mul_left t h1
  unfold z45.F
  rw [bif_f (by omega), bif_f (by omega), nat_Of1 (by omega)]
  simp only [Option.bind_some]
  rw [show Int.toNat 10 = 10 from rfl, digits_power (by omega) (by omega)]
  rfl
end Go.Proofs.YtgjncgiekniniaaGreatDoor.A
end
section
set_option linter.unusedVariables false
set_option linter.unusedSimpArgs false
namespace Go.Proofs.YtgjncgiekniniaaGreatDoor.A
open Go
def DivOK (a b : Nat) : Prop := z66.F (lb a) (lb b) = some (lb (a / b), lb (a % b), 0)
def DivTo (M : Nat) : Prop := ∀ x y, x ≤ M → y ≤ M → 0 < y → DivOK x y
theorem cmpI_lt0 {m n : Int} : cmpI m n < 0 ↔ m < n := by unfold cmpI; split <;> (try split) <;> omega
theorem cmpI_gt0 {m n : Int} : cmpI m n > 0 ↔ n < m := by unfold cmpI; split <;> (try split) <;> omega
theorem cmpI_eq0 {m n : Int} : cmpI m n = 0 ↔ m = n := by unfold cmpI; split <;> (try split) <;> omega
theorem lb_one {a : Nat} (h0 : 0 < a) (h : a < 18446744073709551616) : lb a = [(a : Int)] := by
  show toB LB a = _
  rw [toB_pos bL h0, Nat.mod_eq_of_lt h, Nat.div_eq_of_lt h, toB_zero]
theorem div64_small {a b : Int} (ha : 0 ≤ a ∧ a < 18446744073709551616) (hb : 0 < b) : z64.F 0 a b = some (a / b, a % b) := by
  unfold z64.F
  rw [bif_f (by omega), bif_f (by omega), bif_t rfl, if_neg (by omega), if_neg (by omega), tdiv_ediv ha.1, tmod_emod ha.1]
  have h1 := Int.ediv_nonneg ha.1 (Int.le_of_lt hb)
  have h2 := Int.ediv_le_self b ha.1
  rw [wr_u64 h1 (by omega)]
theorem quot_by_small {a b : Int} (ha : 0 ≤ a ∧ a < 18446744073709551616) (hb : 0 < b) : z65.F [a] b = some ([a / b], a % b) := by
  have h0 : z65.l0 [a] b ((0 : Int), (0 : Int), [(0 : Int)]) = some (a % b, (-1 : Int), [a / b]) := by
    refine (Runs.step (y := (a % b, (-1 : Int), [a / b])) (fun rec => ?_) (Runs.done fun rec => ?_) : Runs (fun rec x => z65.l0P [a] b rec some x) _ _).lfp
    · unfold z65.l0P
      simp only [List.length_singleton]
      rw [bif_t (by omega), if_pos (by omega), show [a].getD (Int.toNat 0) 0 = a from rfl, div64_small ha hb]
      rfl
    · unfold z65.l0P
      simp only
      rw [bif_f (by omega)]
  unfold z65.F
  simp only [List.length_singleton]
  rw [if_pos (by omega)]
  show ((z65.l0 [a] b ((0 : Int), wr .i64 0, [(0 : Int)])).bind _) = _
  rw [wr_i64 (by omega) (by omega), h0]
  rfl
theorem DivOK_lt {a b : Nat} (h : a < b) (hs : (lb a).length ≤ 900000000) : DivOK a b := by
  unfold DivOK z66.F
  rw [nat_Zero]
  simp only [Option.bind_some]
  rw [bif_f (by omega), nat_Cmp hs]
  simp only [Option.bind_some]
  have : cmpI (a : Int) b < 0 := by unfold cmpI; rw [if_pos (by omega)]; decide
  rw [bif_t this, Nat.div_eq_of_lt h, Nat.mod_eq_of_lt h, lb_zero]
theorem DivOK_small {a b : Nat} (ha : a < 18446744073709551616) (hb : 0 < b) : DivOK a b := by
  have hl : (lb a).length ≤ 1 := toB_len_le bL (by simpa using ha)
  rcases Nat.lt_or_ge a b with h | h
  · exact DivOK_lt h (by omega)
  · unfold DivOK z66.F
    rw [nat_Zero]
    simp only [Option.bind_some]
    rw [bif_f (by omega), nat_Cmp (by omega)]
    simp only [Option.bind_some]
    have : ¬ cmpI (a : Int) b < 0 := by unfold cmpI; rw [if_neg (by omega)]; split <;> omega
    rw [bif_f this, lb_one (by omega) ha, lb_one hb (by omega), nat_Limbs (by show List.length _ ≤ _; simp), nat_Limbs (by show List.length _ ≤ _; simp)]
    simp only [Option.bind_some, List.length_singleton]
    rw [bif_t (by omega), if_pos (by omega), show [(b : Int)].getD 0 0 = b from rfl, quot_by_small (by omega) (by omega)]
    simp only [Option.bind_some]
    have b1 : a / b ≤ a := Nat.div_le_self a b
    have b2 : a % b ≤ a := Nat.mod_le a b
    obtain ⟨q, hq⟩ : ∃ q, a / b = q := ⟨_, rfl⟩
    obtain ⟨m, hm⟩ : ∃ m, a % b = m := ⟨_, rfl⟩
    have e1 : ((a : Int) / b) = (q : Int) := by rw [← hq]; rfl
    have e2 : ((a : Int) % b) = (m : Int) := by rw [← hm]; rfl
    rw [hq] at b1 ⊢
    rw [hm] at b2 ⊢
    rw [e1, e2, nat_Of1 (by omega)]
    simp only [Option.bind_some]
    rw [nat_Of1 (by omega)]
    rfl
theorem quot_Gcd {M : Nat} (hD : DivTo M) {a b : Nat} (ha : a ≤ M) (hb : b ≤ M) : z67.F (lb a) (lb b) = some (lb (Nat.gcd a b)) := by
  have key : ∀ (f a b : Nat), b < f → a ≤ M → b ≤ M → Runs (fun rec x => z67.l0P rec some x) (lb a, lb b) (lb (Nat.gcd a b), []) := by
    intro f
    induction f with
    | zero => intro a b h; omega
    | succ f ih =>
      intro a b h ha hb
      rcases Nat.eq_zero_or_pos b with h0 | h0
      · subst h0
        refine .done fun rec => ?_
        unfold z67.l0P
        simp only [nat_Zero, Option.bind_some]
        rw [Nat.gcd_zero_right, lb_zero]; rfl
      · have hm := Nat.mod_lt a h0
        have hmm := Nat.mod_le a b
        have e : Nat.gcd a b = Nat.gcd b (a % b) := by rw [Nat.gcd_comm, Nat.gcd_rec, Nat.gcd_comm]
        rw [e]
        refine .step (fun rec => ?_) (ih b (a % b) (by omega) hb (by omega))
        unfold z67.l0P
        simp only [nat_Zero, Option.bind_some]
        rw [decide_eq_false (by omega), Bool.not_false, cond_true, hD a b ha hb h0]
        rfl
  unfold z67.F
  have e : z67.l0 (lb a, lb b) = some (lb (Nat.gcd a b), []) := (key (b + 1) a b (by omega) ha hb).lfp
  rw [e]; rfl
theorem cmpI_neg (z : Int) : decide (cmpI z 0 < 0) = neg z := by
  unfold cmpI; apply decide_eq_decide.2; split <;> (try split) <;> omega
theorem abs_ediv {z : Int} {g : Nat} (h : g ∣ z.natAbs) (h0 : 0 < g) : (z / (g : Int)).natAbs = z.natAbs / g ∧ (z / (g : Int) < 0 ↔ z < 0) := by
  obtain ⟨k, hk⟩ := Int.ofNat_dvd_left.2 h
  subst hk
  have hg : (g : Int) ≠ 0 := by omega
  rw [Int.mul_ediv_cancel_left _ hg, Int.natAbs_mul, Int.natAbs_natCast, Nat.mul_div_cancel_left _ h0]
  refine ⟨rfl, ?_⟩
  constructor
  · intro h; exact Int.mul_neg_of_pos_of_neg (by omega) h
  · intro h
    rcases Int.lt_or_le k 0 with h' | h'
    · exact h'
    · have := Int.mul_nonneg (show (0 : Int) ≤ g by omega) h'; omega
theorem frac_made {M : Nat} (hD : DivTo M) {num : Int} {den : Nat} (h0 : 0 < den) (hn : num.natAbs ≤ M) (hd : den ≤ M) (hs : sz den ≤ 700000000) :
    z68.F (lb num.natAbs) (neg num) (lb den) = some (lb (mkRat num den).num.natAbs, neg (mkRat num den).num, lb ((mkRat num den).den - 1)) := by
  have hg : 0 < Nat.gcd num.natAbs den := Nat.gcd_pos_of_pos_right _ h0
  have hgd : Nat.gcd num.natAbs den ≤ den := Nat.gcd_le_right _ h0
  have hdv := Nat.gcd_dvd_right num.natAbs den
  have hdv2 := Nat.gcd_dvd_left num.natAbs den
  have hp : 0 < den / Nat.gcd num.natAbs den := Nat.div_pos hgd hg
  have hle : den / Nat.gcd num.natAbs den ≤ den := Nat.div_le_self _ _
  have hsz := Nat.le_trans (lb_sz _) (Nat.le_trans (sz_mono hle) hs)
  obtain ⟨q1, q2⟩ := abs_ediv hdv2 hg
  unfold z68.F z60.F
  simp only [Option.bind_some]
  rw [quot_Gcd hD hn hd]
  simp only [Option.bind_some]
  rw [Rat.num_mkRat, Rat.den_mkRat, if_neg (by omega), if_neg (by omega), Nat.gcd_comm den]
  generalize Nat.gcd num.natAbs den = g at *
  have d1 : z66.F (lb num.natAbs) (lb g) = _ := hD _ _ hn (by omega) hg
  have d2 : z66.F (lb den) (lb g) = _ := hD _ _ hd (by omega) hg
  rw [d1]
  simp only [Option.bind_some]
  rw [d2]
  simp only [Option.bind_some]
  rw [nat_Of1 (by omega)]
  simp only [Option.bind_some]
  rw [show Int.toNat 1 = 1 from rfl, nat_Sub (by omega), if_pos (by omega)]
  simp only [Option.bind_some]
  rw [whole_Sign]
  simp only [Option.bind_some]
  rw [cmpI_neg, whole_at (z := num / (g : Int)) q1.symm (by
    have hz : num / (g : Int) < 0 ↔ num < 0 := q2
    by_cases h : num < 0
    · exact .inl ⟨decide_eq_true h, by omega⟩
    · exact .inr ⟨decide_eq_false h, by omega⟩)]
  rfl
abbrev fr (q : Rat) : List Int × Bool × List Int := (lb q.num.natAbs, neg q.num, lb (q.den - 1))
theorem frac_Of {M : Nat} (hD : DivTo M) {num den : Int} (h0 : den ≠ 0) (hn : num.natAbs ≤ M) (hd : den.natAbs ≤ M) (hs : sz den.natAbs ≤ 700000000) :
    z69.F (lb num.natAbs) (neg num) (lb den.natAbs) (neg den) = some ((fr (Rat.divInt num den)).1, (fr (Rat.divInt num den)).2.1, (fr (Rat.divInt num den)).2.2, 0) := by
  have hc : cmpI den 0 = if den < 0 then -1 else 1 := by
    unfold cmpI
    by_cases h : den < 0
    · rw [if_pos h, if_pos h]
    · rw [if_neg h, if_neg h, if_neg h0]
  unfold z69.F
  rw [whole_Sign]
  simp only [Option.bind_some]
  rw [hc]
  by_cases h : den < 0
  · have e : Rat.divInt num den = mkRat (-num) den.natAbs := by
      have : den = -((den.natAbs : Nat) : Int) := by omega
      conv => lhs; rw [this]
      rw [Rat.divInt_neg', Rat.divInt_ofNat]
    rw [if_pos h, bif_f (by decide), bif_t rfl, whole_Neg]
    simp only [Option.bind_some]
    unfold z69.j4 z60.F
    simp only [Option.bind_some]
    rw [frac_made hD (by omega) (by omega) hd hs, e]
    rfl
  · have e : Rat.divInt num den = mkRat num den.natAbs := by
      have : den = ((den.natAbs : Nat) : Int) := by omega
      conv => lhs; rw [this]
      rw [Rat.divInt_ofNat]
    rw [if_neg h, bif_f (by decide), bif_f (by decide)]
    unfold z69.j4 z60.F
    simp only [Option.bind_some]
    rw [frac_made hD (by omega) hn hd hs, e]
    rfl
theorem frac_Den (q : Rat) (a : List Int) (b : Bool) (hs : sz q.den ≤ 700000000) : z71.F a b (lb (q.den - 1)) = some (lb q.den) := by
  have h1 : sz 1 ≤ 1 := sz_le (by decide)
  have h2 := Nat.le_trans (lb_sz (q.den - 1)) (Nat.le_trans (sz_mono (Nat.sub_le _ _)) hs)
  have h3 := Nat.le_trans (lb_sz 1) h1
  unfold z71.F
  rw [nat_Of1 (by omega)]
  simp only [Option.bind_some]
  rw [show Int.toNat 1 = 1 from rfl, nat_Add (by omega), Nat.sub_add_cancel q.den_pos]
  rfl
theorem frac_den (q : Rat) (a : List Int) (b : Bool) (hs : sz q.den ≤ 700000000) : z72.F a b (lb (q.den - 1)) = some (lb (q.den : Int).natAbs, neg (q.den : Int)) := by
  unfold z72.F
  rw [frac_Den q a b hs]
  simp only [Option.bind_some]
  rw [whole_at (z := (q.den : Int)) (by omega) (.inr ⟨rfl, by omega⟩)]
  rfl
theorem rat_div (q r : Rat) : q / r = Rat.divInt (q.num * r.den) (q.den * r.num) := by
  rw [Rat.div_def, Rat.inv_def]
  conv => lhs; rw [← Rat.num_divInt_den q, Rat.divInt_mul_divInt]
theorem frac_Quo {M : Nat} (hD : DivTo M) {q r : Rat} (h0 : r ≠ 0) (hn : (q.num * r.den).natAbs ≤ M) (hd : (q.den * r.num).natAbs ≤ M) (hs : sz q.num.natAbs + sz r.den ≤ 600000000) (hs' : sz r.num.natAbs + sz q.den ≤ 600000000) :
    z73.F (lb q.num.natAbs) (neg q.num) (lb (q.den - 1)) (lb r.num.natAbs) (neg r.num) (lb (r.den - 1)) = some ((fr (q / r)).1, (fr (q / r)).2.1, (fr (q / r)).2.2, 0) := by
  have e1 : sz (r.den : Int).natAbs = sz r.den := rfl
  have e2 : sz (q.den : Int).natAbs = sz q.den := rfl
  have l1 := lb_sz q.num.natAbs
  have l2 := lb_sz (r.den : Int).natAbs
  have l3 := lb_sz (q.den : Int).natAbs
  have l4 := lb_sz r.num.natAbs
  have hr : r.num ≠ 0 := fun h => h0 (Rat.num_eq_zero.1 h)
  have hqd := q.den_nz
  have m1 := sz_mul (q.den : Int).natAbs r.num.natAbs
  rw [← Int.natAbs_mul] at m1
  unfold z73.F
  rw [frac_den r _ _ (by omega)]
  simp only [Option.bind_some]
  rw [whole_Mul (by omega)]
  simp only [Option.bind_some]
  rw [frac_den q _ _ (by omega)]
  simp only [Option.bind_some]
  rw [whole_Mul (by omega)]
  simp only [Option.bind_some]
  rw [frac_Of hD (Int.mul_ne_zero (by omega) hr) hn hd (by show sz _ ≤ _; omega), rat_div]
  rfl
end Go.Proofs.YtgjncgiekniniaaGreatDoor.A
end
section
set_option linter.unusedVariables false
set_option linter.unusedSimpArgs false
namespace Go.Proofs.YtgjncgiekniniaaGreatDoor.A
open Go
def cutNeg (s : List UInt8) : List UInt8 × Bool := match s with | [] => ([], false) | b :: t => if b = 45 then (t, true) else (b :: t, false)
theorem cutNeg_len (s : List UInt8) : (cutNeg s).1.length ≤ s.length := by
  unfold cutNeg; split
  · simp
  · split <;> simp
theorem strings_Cut (s : List UInt8) : z38.F s [45] = some (cutNeg s) := by
  unfold z38.F z37.F z36.F cutNeg
  cases s with
  | nil => rfl
  | cons b t =>
    have e1 : ([45] : List UInt8).length = 1 := rfl
    have e2 : Int.toNat ((1 : Nat) : Int) = 1 := rfl
    simp only [e1, e2]
    rw [bif_t (by simp; omega), if_pos (by simp; omega)]
    simp only [Option.bind_some, List.take_succ_cons, List.take_zero, List.drop_succ_cons, List.drop_zero, List.cons.injEq, and_true]
    by_cases h : b = 45
    · rw [decide_eq_true h, if_pos h, if_pos (by simp; omega)]; rfl
    · rw [decide_eq_false h, if_neg h]; rfl
def mWhole (s : List UInt8) : Int × Int :=
  if (mDigits (cutNeg s).1).2 ≠ 0 then (0, (mDigits (cutNeg s).1).2)
  else if (cutNeg s).2 && decide ((mDigits (cutNeg s).1).1 = 0) then (0, 5)
  else (if (cutNeg s).2 then -((mDigits (cutNeg s).1).1 : Int) else (mDigits (cutNeg s).1).1, 0)
theorem whole_Parse (s : List UInt8) : z43.F s = some (lb (mWhole s).1.natAbs, neg (mWhole s).1, (mWhole s).2) := by
  unfold z43.F mWhole
  rw [strings_Cut]
  simp only [Option.bind_some]
  rw [digits_Parse]
  simp only [Option.bind_some]
  generalize mDigits (cutNeg s).1 = d
  generalize (cutNeg s).2 = below
  by_cases h : d.2 = 0
  · have h' : ¬ (d.2 ≠ 0) := fun hh => hh h
    rw [decide_eq_true h, if_neg h']
    simp only [Bool.not_true, cond_false]
    cases below with
    | true =>
      simp only [cond_true, Bool.true_and, if_true]
      rw [nat_Zero]
      simp only [Option.bind_some]
      by_cases h0 : d.1 = 0
      · rw [decide_eq_true h0]
        simp only [if_true, cond_true]
        rw [show Int.natAbs 0 = 0 from rfl, lb_zero]; rfl
      · rw [decide_eq_false h0]
        simp only [cond_false]
        rw [whole_at (z := -(d.1 : Int)) (by omega) (.inl ⟨rfl, by omega⟩)]
        simp
    | false =>
      simp only [cond_false, Bool.false_and]
      rw [whole_at (z := (d.1 : Int)) (by omega) (.inr ⟨rfl, by omega⟩)]
      simp
  · rw [decide_eq_false h, if_pos h]
    simp only [Bool.not_false, cond_true]
    rw [show Int.natAbs 0 = 0 from rfl, lb_zero]; rfl
def cutDot : List UInt8 → List UInt8 × Option (List UInt8)
  | [] => ([], none)
  | b :: t => if b = 46 then ([], some t) else (b :: (cutDot t).1, (cutDot t).2)
theorem cutDot_none : ∀ {t : List UInt8}, (cutDot t).2 = none → (cutDot t).1 = t
  | [], _ => rfl
  | b :: t, h => by
    unfold cutDot at h ⊢
    split at h
    · simp at h
    · rename_i hb
      rw [if_neg hb]
      simp only at h ⊢
      rw [cutDot_none h]
theorem cutDot_some : ∀ {t r : List UInt8}, (cutDot t).2 = some r → t = (cutDot t).1 ++ 46 :: r
  | [], r, h => by simp [cutDot] at h
  | b :: t, r, h => by
    unfold cutDot at h ⊢
    split at h
    · rename_i hb
      rw [if_pos hb, hb]
      simp only [Option.some.injEq] at h
      rw [h]; rfl
    · rename_i hb
      rw [if_neg hb]
      simp only at h ⊢
      conv => lhs; rw [cutDot_some h]
      rfl
theorem byteIdx_cons (b : UInt8) (t : List UInt8) (c : UInt8) : byteIdx (b :: t) c = if b = c then 0 else if byteIdx t c < 0 then -1 else byteIdx t c + 1 := by
  unfold byteIdx
  rw [List.length_cons, List.range_succ_eq_map, List.find?_cons]
  by_cases h : b = c
  · simp [h]
  · have h1 : ((b :: t).getD 0 0 == c) = false := by simp [h]
    rw [h1, if_neg h]
    simp only
    rw [List.find?_map]
    have e : ((fun i => (b :: t).getD i 0 == c) ∘ Nat.succ) = fun i => t.getD i 0 == c := by funext i; simp [List.getD]
    rw [e]
    cases (List.range t.length).find? fun i => t.getD i 0 == c with
    | none => simp
    | some i => simp; omega
theorem byteIdx_dot : ∀ t : List UInt8, byteIdx t 46 = if (cutDot t).2 = none then -1 else ((cutDot t).1.length : Int)
  | [] => by simp [byteIdx, cutDot]
  | b :: t => by
    have e : cutDot (b :: t) = if b = 46 then ([], some t) else (b :: (cutDot t).1, (cutDot t).2) := by rw [cutDot]
    rw [byteIdx_cons, byteIdx_dot t, e]
    by_cases h : b = 46
    · simp [h]
    · rw [if_neg h, if_neg h]
      by_cases h2 : (cutDot t).2 = none
      · simp [h2]
      · simp [h2]; omega
def plainB (s : List UInt8) : Bool := !decide (s = []) && digs s
def zeros (s : List UInt8) : Bool := s.all (· == 48)
theorem dec_plain (s : List UInt8) (h : s.length ≤ 9223372036854775807) : z50.F s = some (plainB s) := by
  unfold z50.F plainB
  by_cases h0 : s = []
  · rw [decide_eq_true h0]; rfl
  · rw [decide_eq_false h0]
    obtain ⟨r, t1, t2⟩ := trim_digits s h
    simp only [Bool.not_false, cond_true]
    rw [t1]
    simp only [Option.bind_some]
    rw [t2]; simp
theorem has_zero (b : UInt8) : ([48] : List UInt8).contains b = (b == 48) := by
  simp only [List.contains_cons, List.contains_nil, Bool.or_false]
theorem trim_zeros (s : List UInt8) (hs : s.length ≤ 9223372036854775807) : ∃ r, z3.F s [48] = some r ∧ decide (r = []) = zeros s := by
  unfold z3.F
  rw [if_pos ⟨hs, by decide, by decide⟩]
  refine ⟨_, rfl, ?_⟩
  rw [Bool.eq_iff_iff, decide_eq_true_iff, trim_nil, zeros, List.all_eq_true]
  simp only [has_zero]
theorem trimL_spec : ∀ {s : List UInt8}, digits s → tv 0 (trimL s [48]) = tv 0 s ∧ digits (trimL s [48]) ∧ (trimL s [48]).length ≤ s.length ∧ (trimL s [48] ≠ [] → ((trimL s [48]).getD 0 0).toNat ≠ 48)
  | [], h => by simp [trimL, tv, digits]
  | b :: s, h => by
    have ih := trimL_spec (s := s) fun x hx => h x (by simp [hx])
    by_cases hb : b = 48
    · have e : trimL (b :: s) [48] = trimL s [48] := by unfold trimL; exact List.dropWhile_cons_of_pos (by rw [hb]; decide)
      rw [e]
      refine ⟨?_, ih.2.1, by rw [List.length_cons]; omega, ih.2.2.2⟩
      rw [ih.1, hb]; rfl
    · have e : trimL (b :: s) [48] = b :: s := by unfold trimL; exact List.dropWhile_cons_of_neg (by simp [hb])
      rw [e]
      refine ⟨rfl, h, Nat.le_refl _, fun _ hh => hb (UInt8.toNat_inj.1 hh)⟩
theorem parse_trim {s : List UInt8} (hd : digits s) (hl : s.length ≤ 4096) : z42.F (if trimL s [48] = [] then [48] else trimL s [48]) = some (lb (tv 0 s).toNat, 0) := by
  obtain ⟨h1, h2, h3, h4⟩ := trimL_spec hd
  rw [digits_Parse]
  by_cases h : trimL s [48] = []
  · rw [if_pos h]
    rw [h] at h1
    rw [← h1]; rfl
  · rw [if_neg h, ← h1]
    unfold mDigits
    have : numOK (trimL s [48]) = true := by
      unfold numOK
      rw [decide_eq_false h, digs_iff.2 h2, decide_eq_false (h4 h)]; simp
    rw [if_neg (by omega), this]; rfl
def decOf (below : Bool) (a : List UInt8) (o : Option (List UInt8)) : Int × Nat × Int :=
  if !plainB a || (o.isSome && !plainB (o.getD [])) || (decide (1 < a.length) && decide ((a.getD 0 0).toNat = 48)) then (0, 0, 5)
  else if below && zeros (a ++ o.getD []) then (0, 0, 5)
  else if 64 < (o.getD []).length then (0, 0, 10)
  else (if below then -tv 0 (a ++ o.getD []) else tv 0 (a ++ o.getD []), (o.getD []).length, 0)
def mDec (s : List UInt8) : Int × Nat × Int := if 4096 < s.length then (0, 0, 7) else decOf (cutNeg s).2 (cutDot (cutNeg s).1).1 (cutDot (cutNeg s).1).2
abbrev decR (m : Int × Nat × Int) : List Int × Bool × Int × Int := (lb m.1.natAbs, neg m.1, (m.2.1 : Int), m.2.2)
theorem decR0 (e : Int) : decR (0, 0, e) = ([], false, 0, e) := by unfold decR; simp [lb_zero]
theorem sign_of (n : Int) (h : 0 ≤ n) (below : Bool) : z22.F (lb n.toNat) below = some (lb (if below then -n else n).natAbs, neg (if below then -n else n)) := by
  cases below
  · rw [whole_at (z := n) (by omega) (.inr ⟨rfl, h⟩)]; rfl
  · rw [whole_at (z := -n) (by omega) (.inl ⟨rfl, by omega⟩)]; rfl
theorem dec_j14 {rest a b : List UInt8} {below lead : Bool} (h1 : rest.take a.length = a) (h2 : rest.drop (a.length + 1) = b) (ha : digits a) (hb : digits b) (hl : a.length + b.length ≤ 4096) :
    z51.j14 lead (rest, below) (a.length : Int) = some (decR (if lead then (0, 0, 5) else if below && zeros (a ++ b) then (0, 0, 5) else if 64 < b.length then (0, 0, 10) else (if below then -tv 0 (a ++ b) else tv 0 (a ++ b), b.length, 0))) := by
  have e1 : (wr .i64 ((a.length : Int) + 1)).toNat = a.length + 1 := by rw [wr_i64 (by omega) (by omega)]; omega
  have hab : digits (a ++ b) := fun x hx => (List.mem_append.1 hx).elim (ha x) (hb x)
  have hln : (a ++ b).length ≤ 4096 := by rw [List.length_append]; exact hl
  have key : z51.j16 false (rest, below) (a.length : Int) = some (decR (if 64 < b.length then (0, 0, 10) else (if below then -tv 0 (a ++ b) else tv 0 (a ++ b), b.length, 0))) := by
    unfold z51.j16
    simp only [e1, Int.toNat_natCast, h1, h2, cond_false]
    by_cases h64 : 64 < b.length
    · rw [bif_t (by omega), if_pos h64, decR0]
    · rw [bif_f (by omega), if_neg h64, if_pos (by omega)]
      have et : z4.F (a ++ b) [48] = some (trimL (a ++ b) [48]) := by unfold z4.F; rw [if_pos ⟨by decide, by decide⟩]
      rw [et]
      simp only [Option.bind_some]
      have ep := parse_trim hab hln
      have fin : ∀ x, z42.F x = some (lb (tv 0 (a ++ b)).toNat, 0) → z51.j18 x (rest, below) (a.length : Int) = some (decR (if below then -tv 0 (a ++ b) else tv 0 (a ++ b), b.length, 0)) := fun x hx => by
        unfold z51.j18
        rw [hx]
        simp only [Option.bind_some, e1, h2]
        rw [sign_of _ (tv_bound hab).1]
        rfl
      by_cases ht : trimL (a ++ b) [48] = []
      · rw [if_pos ht] at ep
        rw [bif_t ht]; exact fin _ ep
      · rw [if_neg ht] at ep
        rw [bif_f ht]; exact fin _ ep
  unfold z51.j14
  simp only [e1, Int.toNat_natCast, h1, h2]
  cases lead with
  | true => simp only [cond_true, if_true]; rw [decR0]
  | false =>
    simp only [cond_false]
    rw [if_neg Bool.false_ne_true]
    cases below with
    | false => simp only [cond_false, Bool.false_and]; rw [key]; rfl
    | true =>
      obtain ⟨r, t1, t2⟩ := trim_zeros (a ++ b) (by omega)
      simp only [cond_true, Bool.true_and]
      rw [if_pos (by omega), t1]
      simp only [Option.bind_some]
      rw [t2]
      cases hz : zeros (a ++ b) with
      | true => unfold z51.j16; simp only [cond_true, if_true]; rw [decR0]
      | false => rw [key]; rfl
theorem dec_j22 {a : List UInt8} {below lead : Bool} (ha : digits a) (hl : a.length ≤ 4096) :
    z51.j22 lead (a, below) = some (decR (if lead then (0, 0, 5) else if below && zeros a then (0, 0, 5) else (if below then -tv 0 a else tv 0 a, 0, 0))) := by
  have key : z51.j24 (a, below) = some (decR (if below then -tv 0 a else tv 0 a, 0, 0)) := by
    unfold z51.j24
    simp only [List.append_nil]
    rw [if_pos (by simp; omega)]
    have et : z4.F a [48] = some (trimL a [48]) := by unfold z4.F; rw [if_pos ⟨by decide, by decide⟩]
    rw [et]
    simp only [Option.bind_some]
    have ep := parse_trim ha hl
    have fin : ∀ x, z42.F x = some (lb (tv 0 a).toNat, 0) → z51.j26 x (a, below) = some (decR (if below then -tv 0 a else tv 0 a, 0, 0)) := fun x hx => by
      unfold z51.j26
      rw [hx]
      simp only [Option.bind_some]
      rw [sign_of _ (tv_bound ha).1]
      rfl
    by_cases ht : trimL a [48] = []
    · rw [if_pos ht] at ep
      rw [bif_t ht]; exact fin _ ep
    · rw [if_neg ht] at ep
      rw [bif_f ht]; exact fin _ ep
  unfold z51.j22
  simp only [List.append_nil]
  cases lead with
  | true => simp only [cond_true, if_true]; rw [decR0]
  | false =>
    simp only [cond_false]
    rw [if_neg Bool.false_ne_true]
    cases below with
    | false => simp only [cond_false, Bool.false_and]; rw [key]; rfl
    | true =>
      obtain ⟨r, t1, t2⟩ := trim_zeros a (by omega)
      simp only [cond_true, Bool.true_and]
      rw [if_pos (by simp; omega), t1]
      simp only [Option.bind_some]
      rw [t2]
      cases hz : zeros a with
      | true => simp only [cond_true, if_true]; rw [decR0]
      | false => simp only [cond_false]; rw [key]; rfl
theorem plainB_digits {s : List UInt8} (h : plainB s = true) : digits s ∧ s ≠ [] := by
  unfold plainB at h
  rw [Bool.and_eq_true] at h
  exact ⟨digs_iff.1 h.2, by simpa using h.1⟩
theorem dec_lead {a : List UInt8} (hne : a ≠ []) {α : Type} (f : Bool → Option α) :
    (bif decide ((a.length : Int) > 1) then (if (0 : Int) ≤ (0 : Int) ∧ (0 : Int) < (a.length : Int) then f (decide (((a.getD 0 0).toNat : Int) = (48 : Int))) else none) else f false) = f (decide (1 < a.length) && decide ((a.getD 0 0).toNat = 48)) := by
  have hpos := List.length_pos_iff.2 hne
  by_cases h : 1 < a.length
  · rw [bif_t (by omega), if_pos (by omega), decide_eq_true h, Bool.true_and]
    congr 1; exact decide_eq_decide.2 (by omega)
  · rw [bif_f (by omega), decide_eq_false h, Bool.false_and]
theorem dec_Parse (s : List UInt8) : z51.F s = some (decR (mDec s)) := by
  unfold z51.F mDec
  by_cases h0 : 4096 < s.length
  · rw [bif_t (by omega), if_pos h0, decR0]
  · rw [bif_f (by omega), if_neg h0, strings_Cut]
    simp only [Option.bind_some]
    have hlen := cutNeg_len s
    generalize cutNeg s = c at *
    obtain ⟨rest, below⟩ := c
    simp only at hlen ⊢
    have hp0 : z50.F ([] : List UInt8) = some false := rfl
    by_cases hdot : ([46] : List UInt8) = rest
    · subst hdot
      rw [bif_t rfl]
      simp only [List.length_singleton, List.take_zero, hp0, Option.bind_some]
      unfold z51.j4
      simp only [Bool.not_false, cond_true]
      have : decOf below (cutDot [46]).1 (cutDot [46]).2 = (0, 0, 5) := by simp [cutDot, decOf, plainB]
      rw [this, decR0]
      rfl
    · rw [bif_f hdot, if_pos (by simp)]
      have hi : z2.F rest ((([46] : List UInt8).getD 0 0).toNat : Int) = some (byteIdx rest 46) := rfl
      rw [hi]
      simp only [Option.bind_some]
      rw [byteIdx_dot]
      cases ho : (cutDot rest).2 with
      | none =>
        have ha := cutDot_none ho
        rw [if_pos rfl, bif_f (by omega), ha, dec_plain _ (by omega)]
        simp only [Option.bind_some]
        unfold decOf
        simp only [Option.isSome_none, Bool.false_and, Bool.or_false, Option.getD_none, List.append_nil, List.length_nil]
        cases hpl : plainB rest with
        | false => unfold z51.j22; simp only [Bool.not_false, cond_true, Bool.true_or, if_true]; rw [decR0]
        | true =>
          obtain ⟨hd, hne⟩ := plainB_digits hpl
          simp only [Bool.not_true, cond_false, Bool.false_or]
          rw [dec_lead hne fun b => z51.j22 b (rest, below), dec_j22 hd (by omega)]
          rfl
      | some b =>
        have hab := cutDot_some ho
        generalize (cutDot rest).1 = a at *
        have hl : rest.length = a.length + (b.length + 1) := by rw [hab]; simp
        have t1 : rest.take a.length = a := by rw [hab]; simp
        have t2 : rest.drop (a.length + 1) = b := by
          rw [hab, ← List.drop_drop]; simp
        have e1 : (wr .i64 ((a.length : Int) + 1)) = ((a.length + 1 : Nat) : Int) := by rw [wr_i64 (by omega) (by omega)]; omega
        rw [if_neg (by simp), bif_t (by omega), if_pos (by omega)]
        simp only [e1, Int.toNat_natCast, t1, t2]
        rw [if_pos (by omega), dec_plain a (by omega)]
        simp only [Option.bind_some]
        unfold decOf
        simp only [Option.isSome_some, Bool.true_and, Option.getD_some]
        cases hpl : plainB a with
        | false => unfold z51.j14; simp only [Bool.not_false, cond_true, Bool.true_or, if_true]; rw [decR0]
        | true =>
          obtain ⟨hd, hne⟩ := plainB_digits hpl
          simp only [Bool.not_true, cond_false, Bool.false_or]
          rw [dec_plain b (by omega)]
          simp only [Option.bind_some]
          cases hpb : plainB b with
          | false => unfold z51.j14; simp only [Bool.not_false, cond_true, Bool.true_or, if_true]; rw [decR0]
          | true =>
            obtain ⟨hdb, hneb⟩ := plainB_digits hpb
            simp only [Bool.not_true, cond_false, Bool.false_or]
            rw [dec_lead hne fun x => z51.j14 x (rest, below) (a.length : Int), dec_j14 t1 t2 hd hdb (by omega)]
end Go.Proofs.YtgjncgiekniniaaGreatDoor.A
end
section
set_option linter.unusedVariables false
set_option linter.unusedSimpArgs false
namespace Go.Proofs.YtgjncgiekniniaaGreatDoor.A
open Go
abbrev leap (y : Int) : Prop := y % 4 = 0 ∧ ¬ y % 100 = 0 ∨ y % 400 = 0
abbrev goodY (y : Int) : Prop := 1 ≤ y ∧ y ≤ 9999
def dDays (y m : Int) : Int := if ¬ goodY y ∨ m < 1 ∨ 12 < m then 0 else if m = 2 then (if leap y then 29 else 28) else if m = 4 ∨ m = 6 ∨ m = 9 ∨ m = 11 then 30 else 31
abbrev right (y m d : Int) : Prop := 1 ≤ d ∧ d ≤ dDays y m
theorem tmod_z {a b : Int} (hb : 0 < b) : Int.tmod a b = 0 ↔ a % b = 0 := by
  rw [← Int.dvd_iff_tmod_eq_zero, ← Int.dvd_iff_emod_eq_zero]
theorem date_good (y : Int) : z84.F y = some (decide (goodY y)) := by
  unfold z84.F
  by_cases h : y ≥ 1
  · rw [bif_t h]; congr 1; exact decide_eq_decide.2 (by omega)
  · rw [bif_f h]; congr 1; symm; exact decide_eq_false (by omega)
theorem date_Leap (y : Int) : z85.F y = some (decide (goodY y ∧ leap y)) := by
  unfold z85.F
  rw [date_good]
  simp only [Option.bind_some, tmod_z (show (0 : Int) < 4 by decide), tmod_z (show (0 : Int) < 100 by decide), tmod_z (show (0 : Int) < 400 by decide)]
  by_cases h : goodY y
  · rw [bif_t h]
    by_cases h4 : y % 4 = 0
    · rw [bif_t h4]
      by_cases h1 : y % 100 = 0
      · rw [decide_eq_true h1]; simp only [Bool.not_true, cond_false]; congr 1; exact decide_eq_decide.2 (by omega)
      · rw [decide_eq_false h1]; simp only [Bool.not_false, cond_true]; congr 1; symm; exact decide_eq_true (by omega)
    · rw [bif_f h4]; congr 1; exact decide_eq_decide.2 (by omega)
  · rw [bif_f h]; congr 1; symm; exact decide_eq_false (fun hh => h hh.1)
theorem date_Days (y m : Int) : z86.F y m = some (dDays y m) := by
  unfold z86.F dDays
  rw [date_good]
  simp only [Option.bind_some]
  by_cases hy : goodY y
  · rw [decide_eq_true hy]
    simp only [Bool.not_true, cond_false]
    by_cases h1 : m < 1
    · rw [bif_t h1, if_pos (by omega)]
    · rw [bif_f h1]
      by_cases h12 : m > 12
      · rw [bif_t h12, if_pos (by omega)]
      · rw [bif_f h12, if_neg (by omega)]
        by_cases h2 : m = 2
        · subst h2
          rw [bif_t rfl, if_pos rfl, date_Leap]
          simp only [Option.bind_some]
          by_cases hl : leap y
          · rw [decide_eq_true ⟨hy, hl⟩, if_pos hl]; rfl
          · rw [decide_eq_false (fun hh => hl hh.2), if_neg hl]; rfl
        · rw [bif_f h2, if_neg h2]
          have : m = 1 ∨ m = 3 ∨ m = 4 ∨ m = 5 ∨ m = 6 ∨ m = 7 ∨ m = 8 ∨ m = 9 ∨ m = 10 ∨ m = 11 ∨ m = 12 := by omega
          rcases this with rfl | rfl | rfl | rfl | rfl | rfl | rfl | rfl | rfl | rfl | rfl <;> rfl
  · rw [decide_eq_false hy, if_pos (.inl hy)]; rfl
theorem ref09_Leap (y : Int) : z11.F y = some (decide (goodY y ∧ leap y)) := by
  unfold z11.F z11.j1
  simp only [tmod_z (show (0 : Int) < 4 by decide), tmod_z (show (0 : Int) < 100 by decide), tmod_z (show (0 : Int) < 400 by decide)]
  by_cases h1 : y < 1
  · rw [bif_t h1]; congr 1; symm; exact decide_eq_false (by omega)
  · rw [bif_f h1]
    by_cases h2 : y > 9999
    · rw [bif_t h2]; congr 1; symm; exact decide_eq_false (by omega)
    · rw [bif_f h2]
      by_cases h4 : y % 400 = 0
      · rw [bif_t h4]; congr 1; symm; exact decide_eq_true (by omega)
      · rw [bif_f h4]
        by_cases h3 : y % 4 = 0
        · rw [bif_t h3]; congr 1
          by_cases h5 : y % 100 = 0
          · rw [decide_eq_true h5]; symm; exact decide_eq_false (by omega)
          · rw [decide_eq_false h5]; symm; exact decide_eq_true (by omega)
        · rw [bif_f h3]; congr 1; symm; exact decide_eq_false (by omega)
theorem ref09_Days (y m : Int) : z12.F y m = some (dDays y m) := by
  unfold z12.F z12.j1 dDays
  by_cases h0 : y < 1
  · rw [bif_t h0, if_pos (by omega)]
  · rw [bif_f h0]
    by_cases h9 : y > 9999
    · rw [bif_t h9, if_pos (by omega)]
    · rw [bif_f h9]
      by_cases h1 : m < 1
      · rw [bif_t h1, if_pos (by omega)]
      · rw [bif_f h1]
        by_cases h12 : m > 12
        · rw [bif_t h12, if_pos (by omega)]
        · rw [bif_f h12, if_neg (by omega)]
          by_cases h2 : m = 2
          · rw [bif_t h2, if_pos h2, ref09_Leap]
            simp only [Option.bind_some]
            by_cases hl : leap y
            · rw [decide_eq_true ⟨by omega, hl⟩, if_pos hl]; rfl
            · rw [decide_eq_false (fun hh => hl hh.2), if_neg hl]; rfl
          · rw [bif_f h2, if_neg h2]
            by_cases g4 : m = 4
            · rw [bif_t g4, if_pos (.inl g4)]
            · rw [bif_f g4]
              by_cases g6 : m = 6
              · rw [bif_t g6, if_pos (by omega)]
              · rw [bif_f g6]
                by_cases g9 : m = 9
                · rw [bif_t g9, if_pos (by omega)]
                · rw [bif_f g9]
                  by_cases g11 : m = 11
                  · rw [bif_t g11, if_pos (by omega)]
                  · rw [bif_f g11, if_neg (by omega)]
theorem dDays_le (y m : Int) : 0 ≤ dDays y m ∧ dDays y m ≤ 31 := by
  unfold dDays; split
  · omega
  · split
    · split <;> omega
    · split <;> omega
theorem dDays_ge {y m : Int} (hy : goodY y) (hm : 1 ≤ m ∧ m ≤ 12) : 28 ≤ dDays y m := by
  unfold dDays; rw [if_neg (by omega)]; split
  · split <;> omega
  · split <;> omega
theorem right_good {y m d : Int} (h : right y m d) : goodY y ∧ 1 ≤ m ∧ m ≤ 12 ∧ 1 ≤ d ∧ d ≤ 31 := by
  have h1 := h.2
  have h2 := dDays_le y m
  unfold dDays at h1
  split at h1
  · have := h.1; omega
  · rename_i hn
    have := h.1
    refine ⟨by omega, by omega, by omega, by omega, by omega⟩
theorem date_Check (y m d : Int) : z87.F y m d = some (if right y m d then 0 else 11) := by
  unfold z87.F
  rw [date_Days]
  simp only [Option.bind_some]
  by_cases h : d < 1
  · rw [bif_t h, if_neg (by omega)]
  · rw [bif_f h]
    by_cases h' : d > dDays y m
    · rw [bif_t h', if_neg (by omega)]
    · rw [bif_f h', if_pos (by omega)]
theorem ref09_Right (y m d : Int) : z118.F y m d = some (decide (right y m d)) := by
  unfold z118.F
  rw [ref09_Days]
  simp only [Option.bind_some]
  by_cases h : d ≥ 1
  · rw [bif_t h]; congr 1; exact decide_eq_decide.2 (by omega)
  · rw [bif_f h]; congr 1; symm; exact decide_eq_false (by omega)
def addM (y m d k : Int) : Int × Int × Int := (((12 * y + m - 1) + k) / 12, ((12 * y + m - 1) + k) % 12 + 1, min d (dDays (((12 * y + m - 1) + k) / 12) (((12 * y + m - 1) + k) % 12 + 1)))
abbrev okM (y m k : Int) : Prop := 12 ≤ (12 * y + m - 1) + k ∧ (12 * y + m - 1) + k < 120000
theorem min_if (a b : Int) : (if a < b then a else b) = min b a := by omega
theorem month_Add {y m d k : Int} : z88.F y m d k = some (if right y m d ∧ okM y m k then ((addM y m d k).1, (addM y m d k).2.1, (addM y m d k).2.2, 0) else (0, 0, 0, 11)) := by
  unfold z88.F
  rw [date_Check]
  simp only [Option.bind_some]
  by_cases h : right y m d
  · have hg := right_good h
    rw [if_pos h]
    simp only [decide_true, Bool.not_true, cond_false]
    by_cases h1 : k < -119988
    · rw [bif_t h1, if_neg (by omega)]
    · rw [bif_f h1]
      by_cases h2 : k > 119988
      · rw [bif_t h2, if_neg (by omega)]
      · rw [bif_f h2]
        unfold z88.j2 z88.j3
        rw [wr_i64 (n := 12 * y) (by omega) (by omega), wr_i64 (n := 12 * y + m) (by omega) (by omega), wr_i64 (n := 12 * y + m - 1) (by omega) (by omega), wr_i64 (n := 12 * y + m - 1 + k) (by omega) (by omega)]
        by_cases h3 : 12 * y + m - 1 + k < 12
        · rw [bif_t h3, if_neg (by omega)]
        · rw [bif_f h3, tdiv_ediv (by omega), wr_i64 (n := (12 * y + m - 1 + k) / 12) (by omega) (by omega)]
          by_cases h4 : (12 * y + m - 1 + k) / 12 > 9999
          · rw [bif_t h4, if_neg (by omega)]
          · rw [bif_f h4, tmod_emod (by omega), wr_i64 (n := (12 * y + m - 1 + k) % 12 + 1) (by omega) (by omega), date_Days, if_pos (by exact ⟨h, by omega⟩)]
            simp only [Option.bind_some, min_if]
            rfl
  · rw [if_neg h, if_neg (fun hh => h hh.1)]; rfl
theorem ref10_up : ∀ (f : Nat) (y m : Int), 0 ≤ y ∧ y ≤ 1000000 - f → m ≤ 12 * f + 12 ∧ -1000000 ≤ m → ∃ y' m', Runs (fun rec x => z119.l0P rec some x) (y, m) (y', m') ∧ 12 * y' + m' = 12 * y + m ∧ m' ≤ 12 ∧ (m' = m ∧ y' = y ∨ 1 ≤ m')
  | 0, y, m, hy, hm => ⟨y, m, .done fun rec => by unfold z119.l0P; simp only; rw [bif_f (by omega)], rfl, by omega, .inl ⟨rfl, rfl⟩⟩
  | f + 1, y, m, hy, hm => by
    by_cases h : m > 12
    · obtain ⟨y', m', r, e1, e2, e3⟩ := ref10_up f (y + 1) (m - 12) (by omega) (by omega)
      refine ⟨y', m', .step (fun rec => ?_) r, by omega, e2, .inr (by omega)⟩
      unfold z119.l0P
      simp only
      rw [bif_t h, wr_i64 (by omega) (by omega), wr_i64 (by omega) (by omega)]
    · exact ⟨y, m, .done fun rec => by unfold z119.l0P; simp only; rw [bif_f h], rfl, by omega, .inl ⟨rfl, rfl⟩⟩
theorem ref10_down : ∀ (f : Nat) (y m : Int), -1000000 + f ≤ y ∧ y ≤ 1000000 → 1 ≤ m + 12 * f ∧ m ≤ 12 → ∃ y' m', Runs (fun rec x => z119.l2P rec some x) (y, m) (y', m') ∧ 12 * y' + m' = 12 * y + m ∧ 1 ≤ m' ∧ m' ≤ 12
  | 0, y, m, hy, hm => ⟨y, m, .done fun rec => by unfold z119.l2P; simp only; rw [bif_f (by omega)], rfl, by omega, by omega⟩
  | f + 1, y, m, hy, hm => by
    by_cases h : m < 1
    · obtain ⟨y', m', r, e1, e2, e3⟩ := ref10_down f (y - 1) (m + 12) (by omega) (by omega)
      refine ⟨y', m', .step (fun rec => ?_) r, by omega, e2, e3⟩
      unfold z119.l2P
      simp only
      rw [bif_t h, wr_i64 (by omega) (by omega), wr_i64 (by omega) (by omega)]
    · exact ⟨y, m, .done fun rec => by unfold z119.l2P; simp only; rw [bif_f h], rfl, by omega, by omega⟩
theorem ref10_Add {y m d k : Int} (h : right y m d) : z119.F y m d k = some (if okM y m k then ((addM y m d k).1, (addM y m d k).2.1, (addM y m d k).2.2, true) else (0, 0, 0, false)) := by
  have hg := right_good h
  unfold z119.F
  by_cases h1 : k > 200000
  · rw [bif_t h1, if_neg (by omega)]
  · rw [bif_f h1]
    by_cases h2 : k < -200000
    · rw [bif_t h2, if_neg (by omega)]
    · rw [bif_f h2]
      obtain ⟨y1, m1, r1, a1, a2, a3⟩ := ref10_up 17000 y (m + k) (by omega) (by omega)
      obtain ⟨y2, m2, r2, b1, b2, b3⟩ := ref10_down 17000 y1 m1 (by omega) (by omega)
      have e1 : z119.l0 (y, m + k) = some (y1, m1) := r1.lfp
      have e2 : z119.l2 (y1, m1) = some (y2, m2) := r2.lfp
      unfold z119.j1
      rw [wr_i64 (by omega) (by omega), e1]
      simp only [Option.bind_some]
      rw [e2]
      simp only [Option.bind_some]
      have hy : y2 = ((12 * y + m - 1) + k) / 12 := by omega
      have hm : m2 = ((12 * y + m - 1) + k) % 12 + 1 := by omega
      by_cases h3 : y2 < 1
      · rw [bif_t h3, if_neg (by omega)]
      · rw [bif_f h3]
        by_cases h4 : y2 > 9999
        · rw [bif_t h4, if_neg (by omega)]
        · rw [bif_f h4, if_pos (by omega), ref09_Days]
          simp only [Option.bind_some, min_if]
          rw [hy, hm]; rfl
def aheadY (y : Int) : Int := 365 * (y - 1) + (y - 1) / 4 - (y - 1) / 100 + (y - 1) / 400
def cumD (y m : Int) : Int := (367 * m - 362) / 12 - (if m ≤ 2 then 0 else if leap y then 1 else 2)
def num (y m d : Int) : Int := aheadY y + cumD y m + d
def dcmp (a b c a' b' c' : Int) : Int := if a < a' then -1 else if a' < a then 1 else if b < b' then -1 else if b' < b then 1 else if c < c' then -1 else if c' < c then 1 else 0
theorem or3 (x y z : Int) : z125.F [x, y, z] = some (if x ≠ 0 then x else if y ≠ 0 then y else z) := by
  have e0 : wr .i64 (0 + 1) = 1 := by decide
  have e1 : wr .i64 (1 + 1) = 2 := by decide
  have e2 : wr .i64 (2 + 1) = 3 := by decide
  have r3 : Runs (fun rec i => z125.l0P 0 [x, y, z] 3 rec some i) 3 (.inl 3) := .done fun rec => by unfold z125.l0P; rw [bif_f (by decide)]
  have r2 : Runs (fun rec i => z125.l0P 0 [x, y, z] 3 rec some i) 2 (if z ≠ 0 then .inr z else .inl 3) := by
    by_cases h : z = 0
    · rw [if_neg (by omega)]
      refine .step (fun rec => ?_) r3
      unfold z125.l0P
      rw [bif_t (by decide), if_pos (by simp), show [x, y, z].getD (Int.toNat 2) 0 = z from rfl, decide_eq_true h, e2]; rfl
    · rw [if_pos h]
      refine .done fun rec => ?_
      unfold z125.l0P
      rw [bif_t (by decide), if_pos (by simp), show [x, y, z].getD (Int.toNat 2) 0 = z from rfl, decide_eq_false h]; rfl
  have r1 : Runs (fun rec i => z125.l0P 0 [x, y, z] 3 rec some i) 1 (if y ≠ 0 then .inr y else if z ≠ 0 then .inr z else .inl 3) := by
    by_cases h : y = 0
    · rw [if_neg (by omega)]
      refine .step (fun rec => ?_) r2
      unfold z125.l0P
      rw [bif_t (by decide), if_pos (by simp), show [x, y, z].getD (Int.toNat 1) 0 = y from rfl, decide_eq_true h, e1]; rfl
    · rw [if_pos h]
      refine .done fun rec => ?_
      unfold z125.l0P
      rw [bif_t (by decide), if_pos (by simp), show [x, y, z].getD (Int.toNat 1) 0 = y from rfl, decide_eq_false h]; rfl
  have r0 : Runs (fun rec i => z125.l0P 0 [x, y, z] 3 rec some i) 0 (if x ≠ 0 then .inr x else if y ≠ 0 then .inr y else if z ≠ 0 then .inr z else .inl 3) := by
    by_cases h : x = 0
    · rw [if_neg (by omega)]
      refine .step (fun rec => ?_) r1
      unfold z125.l0P
      rw [bif_t (by decide), if_pos (by simp), show [x, y, z].getD (Int.toNat 0) 0 = x from rfl, decide_eq_true h, e0]; rfl
    · rw [if_pos h]
      refine .done fun rec => ?_
      unfold z125.l0P
      rw [bif_t (by decide), if_pos (by simp), show [x, y, z].getD (Int.toNat 0) 0 = x from rfl, decide_eq_false h]; rfl
  have e : z125.l0 0 [x, y, z] 3 0 = _ := r0.lfp
  unfold z125.F
  show ((z125.l0 0 [x, y, z] 3 0).bind _) = _
  rw [e]
  simp only [Option.bind_some]
  by_cases hx : x = 0 <;> by_cases hy : y = 0 <;> by_cases hz : z = 0 <;> simp [hx, hy, hz]
theorem date_Cmp (a b c a' b' c' : Int) : z126.F a b c a' b' c' = some (dcmp a b c a' b' c') := by
  unfold z126.F
  rw [cmp_int]
  simp only [Option.bind_some]
  rw [cmp_int]
  simp only [Option.bind_some]
  rw [cmp_int]
  simp only [Option.bind_some]
  rw [or3]
  simp only [Option.bind_some]
  congr 1
  unfold cmpI dcmp
  rcases Int.lt_trichotomy a a' with h | h | h <;> rcases Int.lt_trichotomy b b' with g | g | g <;> rcases Int.lt_trichotomy c c' with k | k | k <;>
    (repeat' split) <;> omega
end Go.Proofs.YtgjncgiekniniaaGreatDoor.A
end
section
set_option linter.unusedVariables false
set_option linter.unusedSimpArgs false
namespace Go.Proofs.YtgjncgiekniniaaGreatDoor.A
open Go
theorem tv_sz {s : List UInt8} (h : digits s) : sz (tv 0 s).toNat ≤ s.length := sz_le (by have := tv_bound h; omega)
theorem mDigits_sz (s : List UInt8) : sz (mDigits s).1 ≤ 4096 := by
  have h0 : sz 0 ≤ 4096 := by rw [sz_zero]; omega
  unfold mDigits
  split
  · exact h0
  · split
    · rename_i h1 h2
      unfold numOK at h2
      simp only [Bool.and_eq_true] at h2
      have := tv_sz (digs_iff.1 h2.1.2)
      show sz (tv 0 s).toNat ≤ 4096
      omega
    · exact h0
theorem mWhole_sz (s : List UInt8) : sz (mWhole s).1.natAbs ≤ 4096 := by
  have h := mDigits_sz (cutNeg s).1
  have h0 : sz 0 ≤ 4096 := by rw [sz_zero]; omega
  unfold mWhole
  split
  · exact h0
  · split
    · exact h0
    · show sz (if _ then _ else _ : Int).natAbs ≤ _
      split
      · rw [Int.natAbs_neg]; exact h
      · exact h
def mMoney (s : List UInt8) : Int × Int :=
  if (mWhole s).2 ≠ 0 then (0, (mWhole s).2) else if (mWhole s).1 < 0 ∨ 10 ^ 30 < (mWhole s).1 then (0, 19) else ((mWhole s).1, 0)
theorem terms_greatest : z46.F = some (lb (Int.natAbs (10 ^ 30)), neg (10 ^ 30)) := by
  unfold z46.F
  have h := digits_Ten (t := 30) (by decide)
  rw [show ((30 : Nat) : Int) = 30 from rfl] at h
  rw [h]
  simp only [Option.bind_some]
  rw [whole_at (z := 10 ^ 30) (by decide) (.inr ⟨rfl, by decide⟩)]
  rfl
theorem terms_Money (s : List UInt8) : z47.F s = some (lb (mMoney s).1.natAbs, neg (mMoney s).1, (mMoney s).2) := by
  have hz := mWhole_sz s
  unfold z47.F mMoney
  rw [whole_Parse]
  simp only [Option.bind_some]
  generalize mWhole s = w at *
  have hn : lb (Int.natAbs 0) = [] := lb_zero
  by_cases h : w.2 = 0
  · rw [decide_eq_true h, if_neg (by omega)]
    simp only [Bool.not_true, cond_false]
    rw [whole_Sign]
    simp only [Option.bind_some]
    by_cases h1 : w.1 < 0
    · rw [bif_t (cmpI_lt0.2 h1), if_pos (.inl h1), hn]; rfl
    · rw [bif_f (fun h => h1 (cmpI_lt0.1 h)), terms_greatest]
      simp only [Option.bind_some]
      have l1 := lb_sz w.1.natAbs
      have l2 : (lb (Int.natAbs (10 ^ 30))).length ≤ 31 := Nat.le_trans (lb_sz _) (sz_le (by decide))
      have l3 : sz w.1.natAbs ≤ 4096 := hz
      rw [whole_Cmp (by omega)]
      simp only [Option.bind_some]
      by_cases h2 : 10 ^ 30 < w.1
      · rw [bif_t (cmpI_gt0.2 h2), if_pos (.inr h2), hn]; rfl
      · rw [bif_f (fun h => h2 (cmpI_gt0.1 h)), if_neg (by omega)]
  · rw [decide_eq_false h, if_pos h, hn]; rfl
theorem mDec_bound (s : List UInt8) : (mDec s).2.1 ≤ 64 ∧ sz (mDec s).1.natAbs ≤ 4096 := by
  have h0 : sz (Int.natAbs 0) ≤ 4096 := by show sz 0 ≤ 4096; rw [sz_zero]; omega
  unfold mDec
  split
  · exact ⟨Nat.zero_le _, h0⟩
  · rename_i hl
    have hc := cutNeg_len s
    generalize (cutNeg s).1 = t at *
    unfold decOf
    split
    · exact ⟨Nat.zero_le _, h0⟩
    · rename_i hp
      split
      · exact ⟨Nat.zero_le _, h0⟩
      · split
        · exact ⟨Nat.zero_le _, h0⟩
        · rename_i h64
          refine ⟨by show List.length _ ≤ 64; omega, ?_⟩
          have hd : digits ((cutDot t).1 ++ (cutDot t).2.getD []) ∧ ((cutDot t).1 ++ (cutDot t).2.getD []).length ≤ 4096 := by
            simp only [Bool.or_eq_true, not_or, Bool.not_eq_true', Bool.not_eq_false, Bool.and_eq_true] at hp
            obtain ⟨⟨p1, p2⟩, p3⟩ := hp
            have q1 := (plainB_digits (by simpa using p1)).1
            cases ho : (cutDot t).2 with
            | none =>
              have := cutDot_none ho
              simp only [Option.getD_none, List.append_nil]
              exact ⟨q1, by rw [this]; omega⟩
            | some b =>
              have := cutDot_some ho
              rw [ho] at p2
              have q2 := (plainB_digits (s := b) (by simpa using p2)).1
              simp only [Option.getD_some]
              refine ⟨fun x hx => (List.mem_append.1 hx).elim (q1 x) (q2 x), ?_⟩
              have hlen : t.length = (cutDot t).1.length + (b.length + 1) := by
                conv => lhs; rw [this]
                simp
              rw [List.length_append]; omega
          have h1 := Nat.le_trans (tv_sz hd.1) hd.2
          have h2 := (tv_bound hd.1).1
          show sz (if _ then _ else _ : Int).natAbs ≤ _
          have e : ∀ z : Int, 0 ≤ z → z.natAbs = z.toNat := fun z hz => by omega
          split
          · rw [Int.natAbs_neg, e _ h2]; exact h1
          · rw [e _ h2]; exact h1
theorem dec_ten {t : Nat} (ht : t ≤ 4096) : z56.F (t : Int) = some (lb (10 ^ t : Nat), false) := by
  unfold z56.F
  rw [digits_Ten ht]
  simp only [Option.bind_some]
  rw [whole_Of]; rfl
theorem dec_ten' {t : Nat} (ht : t ≤ 4096) : z56.F (t : Int) = some (lb ((10 ^ t : Nat) : Int).natAbs, neg ((10 ^ t : Nat) : Int)) := by
  rw [dec_ten ht]
  have : neg ((10 ^ t : Nat) : Int) = false := decide_eq_false (Int.not_lt.2 (Int.natCast_nonneg _))
  rw [this]; rfl
theorem sz_ten (t : Nat) : sz (10 ^ t) ≤ t + 1 := sz_le (by rw [Nat.pow_succ]; have : 0 < 10 ^ t := Nat.pow_pos (by decide); omega)
theorem dec_at {c : Int} {s t : Nat} (h : s ≤ t) (ht : t ≤ 4096) (hc : sz c.natAbs ≤ 100000000) : z57.F (lb c.natAbs) (neg c) (s : Int) (t : Int) = some (lb (c * (10 ^ (t - s) : Nat)).natAbs, neg (c * (10 ^ (t - s) : Nat))) := by
  have l1 := lb_sz c.natAbs
  have l2 := lb_sz ((10 ^ (t - s) : Nat) : Int).natAbs
  have l3 := sz_ten (t - s)
  have l4 : sz ((10 ^ (t - s) : Nat) : Int).natAbs = sz (10 ^ (t - s)) := rfl
  unfold z57.F
  rw [wr_i64 (by omega) (by omega), show (t : Int) - s = ((t - s : Nat) : Int) by omega, dec_ten' (by omega)]
  simp only [Option.bind_some]
  rw [whole_Mul (by omega)]
  rfl
theorem dec_Cmp {c c' : Int} {s s' : Nat} (hs : s ≤ 2000) (hs' : s' ≤ 2000) (hc : sz c.natAbs ≤ 100000000) (hc' : sz c'.natAbs ≤ 100000000) :
    z58.F (lb c.natAbs) (neg c) (s : Int) (lb c'.natAbs) (neg c') (s' : Int) = some (cmpI (c * (10 ^ (max s s' - s) : Nat)) (c' * (10 ^ (max s s' - s') : Nat))) := by
  have e : (if (s' : Int) > (s : Int) then (s' : Int) else (s : Int)) = ((max s s' : Nat) : Int) := by split <;> omega
  have m1 := sz_mul c.natAbs (10 ^ (max s s' - s))
  have m2 := sz_mul c'.natAbs (10 ^ (max s s' - s'))
  have t1 := sz_ten (max s s' - s)
  have t2 := sz_ten (max s s' - s')
  have l1 := lb_sz (c * (10 ^ (max s s' - s) : Nat)).natAbs
  have l2 := lb_sz (c' * (10 ^ (max s s' - s') : Nat)).natAbs
  have e1 : (c * (10 ^ (max s s' - s) : Nat)).natAbs = c.natAbs * 10 ^ (max s s' - s) := by rw [Int.natAbs_mul]; rfl
  have e2 : (c' * (10 ^ (max s s' - s') : Nat)).natAbs = c'.natAbs * 10 ^ (max s s' - s') := by rw [Int.natAbs_mul]; rfl
  have hc1 : sz c.natAbs ≤ 100000000 := hc
  have hc2 : sz c'.natAbs ≤ 100000000 := hc'
  rw [← e1] at m1
  rw [← e2] at m2
  unfold z58.F
  rw [e, dec_at (by omega) (by omega) hc]
  simp only [Option.bind_some]
  rw [dec_at (by omega) (by omega) hc']
  simp only [Option.bind_some]
  rw [whole_Cmp (by omega)]
  rfl
theorem mkRat_num_le (n : Int) {d : Nat} (hd : 0 < d) : (mkRat n d).num.natAbs ≤ n.natAbs := by
  rw [Rat.num_mkRat, if_neg (by omega), Nat.gcd_comm]
  have hg : 0 < Nat.gcd n.natAbs d := Nat.gcd_pos_of_pos_right _ hd
  rw [(abs_ediv (Nat.gcd_dvd_left n.natAbs d) hg).1]
  exact Nat.div_le_self _ _
theorem mkRat_den_le (n : Int) {d : Nat} (hd : 0 < d) : (mkRat n d).den ≤ d := by
  rw [Rat.den_mkRat, if_neg (by omega)]
  exact Nat.div_le_self _ _
theorem dec_Frac {M : Nat} (hD : DivTo M) {c : Int} {s : Nat} (hs : s ≤ 4096) (hc : c.natAbs ≤ M) (hM : 10 ^ s ≤ M) : z70.F (lb c.natAbs) (neg c) (s : Int) = some (fr (mkRat c (10 ^ s))) := by
  have hp : 0 < 10 ^ s := Nat.pow_pos (by decide)
  have l := sz_ten s
  unfold z70.F
  rw [dec_ten' hs]
  simp only [Option.bind_some]
  rw [frac_Of (num := c) (den := ((10 ^ s : Nat) : Int)) hD (by exact_mod_cast (Nat.ne_of_gt hp)) hc (by show 10 ^ s ≤ M; exact hM) (by show sz (10 ^ s) ≤ _; omega), Rat.divInt_ofNat]
  rfl
def mRate (s : List UInt8) : Rat × Int :=
  if (mDec s).2.2 ≠ 0 then (0, (mDec s).2.2)
  else if (mDec s).1 < 0 ∨ 1000 * (10 ^ (mDec s).2.1 : Nat) < (mDec s).1 ∨ 12 < (mDec s).2.1 then (0, 18)
  else (mkRat (mDec s).1 (10 ^ (mDec s).2.1) / 100, 0)
theorem fr_zero : fr 0 = ([], false, []) := by
  show (lb 0, neg 0, lb 0) = _
  rw [lb_zero]; rfl
theorem rate0 (e : Int) : some (([] : List Int), false, ([] : List Int), e) = some ((fr (0 : Rat)).1, (fr (0 : Rat)).2.1, (fr (0 : Rat)).2.2, e) := by
  rw [fr_zero]
theorem fr_100 : fr 100 = (lb (Int.natAbs 100), neg 100, []) := by
  show (lb 100, neg 100, lb 0) = _
  rw [lb_zero]; rfl
theorem divTo_small : DivTo 1000000000000000000 := fun x y hx hy h0 => DivOK_small (by omega) h0
theorem terms_Rate (s : List UInt8) : z74.F s = some ((fr (mRate s).1).1, (fr (mRate s).1).2.1, (fr (mRate s).1).2.2, (mRate s).2) := by
  obtain ⟨hb1, hb2⟩ := mDec_bound s
  unfold z74.F mRate
  rw [dec_Parse]
  simp only [Option.bind_some, decR]
  generalize mDec s = d at *
  obtain ⟨c, sc, e⟩ := d
  simp only at *
  have hcz : sz c.natAbs ≤ 4096 := hb2
  by_cases h : e = 0
  · rw [decide_eq_true h, if_neg (by omega)]
    simp only [Bool.not_true, cond_false]
    rw [whole_From (by omega)]
    simp only [Option.bind_some]
    have ho : z53.F (lb (Int.natAbs 1000)) (neg 1000) 0 = some (lb (Int.natAbs 1000), neg 1000, 0, 0) := rfl
    rw [ho]
    simp only [Option.bind_some]
    unfold z54.F z59.F
    simp only [Option.bind_some]
    rw [whole_Sign]
    simp only [Option.bind_some]
    by_cases h1 : c < 0
    · rw [bif_t (cmpI_lt0.2 h1), if_pos (.inl h1)]; exact rate0 18
    · rw [bif_f (fun h => h1 (cmpI_lt0.1 h))]
      have hk : sz (Int.natAbs 1000) ≤ 4 := sz_le (by decide)
      have hcmp := dec_Cmp (c := c) (c' := 1000) (s := sc) (s' := 0) (by omega) (by omega) (by omega) (by omega)
      rw [show ((0 : Nat) : Int) = 0 from rfl] at hcmp
      rw [hcmp]
      simp only [Option.bind_some, Nat.max_zero, Nat.sub_self, Nat.pow_zero, Nat.sub_zero, Int.natCast_one, Int.mul_one]
      by_cases h2 : 1000 * ((10 ^ sc : Nat) : Int) < c
      · rw [bif_t (cmpI_gt0.2 h2), if_pos (.inr (.inl h2))]; exact rate0 18
      · rw [bif_f (fun h => h2 (cmpI_gt0.1 h))]
        by_cases h3 : 12 < sc
        · rw [bif_t (by omega), if_pos (.inr (.inr h3))]; exact rate0 18
        · rw [bif_f (by omega), if_neg (by omega)]
          have hp12 : 10 ^ sc ≤ 10 ^ 12 := Nat.pow_le_pow_right (by decide) (by omega)
          have hp0 : 0 < 10 ^ sc := Nat.pow_pos (by decide)
          have n1 := mkRat_num_le c hp0
          have n2 := mkRat_den_le c hp0
          have hd0 := (mkRat c (10 ^ sc)).den_pos
          unfold z74.j8
          rw [dec_Frac divTo_small (by omega) (by omega) (by omega)]
          simp only [Option.bind_some]
          rw [whole_From (by omega)]
          simp only [Option.bind_some]
          have hf : z48.F (lb (Int.natAbs 100)) (neg 100) = some (fr 100) := by rw [fr_100]; rfl
          rw [hf]
          simp only [Option.bind_some]
          generalize mkRat c (10 ^ sc) = q at *
          have hq := frac_Quo divTo_small (q := q) (r := 100) (by decide)
            (by rw [show (100 : Rat).den = 1 from rfl]; simp; omega)
            (by rw [show (100 : Rat).num = 100 from rfl, Int.natAbs_mul]; show q.den * 100 ≤ _; omega)
            (by rw [show (100 : Rat).den = 1 from rfl]
                have a1 : sz q.num.natAbs ≤ 20 := sz_le (by omega)
                have a2 : sz 1 ≤ 1 := sz_le (by decide)
                omega)
            (by rw [show (100 : Rat).num = 100 from rfl]
                have a1 : sz q.den ≤ 20 := sz_le (by omega)
                have a2 : sz (Int.natAbs 100) ≤ 3 := sz_le (by decide)
                omega)
          rw [hq]
          rfl
  · rw [decide_eq_false h, if_pos h]; exact rate0 e
structure Tm where
  p : List UInt8
  r : List UInt8
  kind : Int
  basis : Int
  mode : Int
  y : Int
  m : Int
  d : Int
  every : Int
  count : Int
abbrev everyOK (e : Int) : Prop := e = 1 ∨ e = 2 ∨ e = 3 ∨ e = 4 ∨ e = 6 ∨ e = 12
abbrev kindsOK (t : Tm) : Prop := (0 ≤ t.kind ∧ t.kind ≤ 2) ∧ (0 ≤ t.basis ∧ t.basis ≤ 2) ∧ (0 ≤ t.mode ∧ t.mode ≤ 4) ∧ everyOK t.every
def mCheck (t : Tm) : Int :=
  if (mMoney t.p).2 ≠ 0 then (mMoney t.p).2 else if (mMoney t.p).1 = 0 then 19 else if (mRate t.r).2 ≠ 0 then (mRate t.r).2
  else if ¬ kindsOK t then 2 else if t.count < 1 ∨ 1200 < t.count then 6 else if right t.y t.m t.d ∧ okM t.y t.m (t.every * t.count) then 0 else 11
theorem terms_Word (k : Int) : ∃ w, z76.F k = some w ∧ decide (w = []) = decide (¬ (0 ≤ k ∧ k ≤ 2)) := by
  unfold z76.F
  by_cases h : k < 0
  · rw [bif_t h]; exact ⟨_, rfl, by simp; omega⟩
  · rw [bif_f h]
    by_cases h' : k ≥ 3
    · rw [bif_t h']; exact ⟨_, rfl, by simp; omega⟩
    · rw [bif_f h']
      have : k = 0 ∨ k = 1 ∨ k = 2 := by omega
      rcases this with rfl | rfl | rfl <;> exact ⟨_, rfl, rfl⟩
theorem basis_Word (k : Int) : ∃ w, z82.F k = some w ∧ decide (w = []) = decide (¬ (0 ≤ k ∧ k ≤ 2)) := by
  unfold z82.F z80.F
  by_cases h : k ≥ 0
  · rw [bif_t h]
    by_cases h' : k < 3
    · have : k = 0 ∨ k = 1 ∨ k = 2 := by omega
      rcases this with rfl | rfl | rfl <;> exact ⟨_, rfl, rfl⟩
    · rw [decide_eq_false h']; exact ⟨_, rfl, by simp; omega⟩
  · rw [bif_f h]; exact ⟨_, rfl, by simp; omega⟩
theorem mode_Word (k : Int) : ∃ w, z79.F k = some w ∧ decide (w = []) = decide (¬ (0 ≤ k ∧ k ≤ 4)) := by
  unfold z79.F z77.F
  by_cases h : k ≥ 0
  · rw [bif_t h]
    by_cases h' : k < 5
    · have : k = 0 ∨ k = 1 ∨ k = 2 ∨ k = 3 ∨ k = 4 := by omega
      rcases this with rfl | rfl | rfl | rfl | rfl <;> exact ⟨_, rfl, rfl⟩
    · rw [decide_eq_false h']; exact ⟨_, rfl, by simp; omega⟩
  · rw [bif_f h]; exact ⟨_, rfl, by simp; omega⟩
theorem tmod12 {e : Int} (h : 1 ≤ e) (h5 : e ≠ 5) : Int.tmod 12 e = 0 ↔ everyOK e := by
  rw [tmod_emod (by decide)]
  by_cases hb : 12 < e
  · rw [Int.emod_eq_of_lt (by decide) hb]; omega
  · have : e = 1 ∨ e = 2 ∨ e = 3 ∨ e = 4 ∨ e = 6 ∨ e = 7 ∨ e = 8 ∨ e = 9 ∨ e = 10 ∨ e = 11 ∨ e = 12 := by omega
    rcases this with rfl | rfl | rfl | rfl | rfl | rfl | rfl | rfl | rfl | rfl | rfl <;> decide
theorem terms_odd (t : Tm) : z83.F t.p t.r t.kind t.basis t.mode t.y t.m t.d t.every t.count = some (decide (¬ kindsOK t)) := by
  obtain ⟨w1, e1, d1⟩ := terms_Word t.kind
  obtain ⟨w2, e2, d2⟩ := basis_Word t.basis
  obtain ⟨w3, e3, d3⟩ := mode_Word t.mode
  unfold z83.F
  rw [e1]
  simp only [Option.bind_some]
  rw [d1]
  by_cases h1 : 0 ≤ t.kind ∧ t.kind ≤ 2
  · rw [bif_f (fun hh => hh h1), e2]
    simp only [Option.bind_some]
    rw [d2]
    by_cases h2 : 0 ≤ t.basis ∧ t.basis ≤ 2
    · rw [bif_f (fun hh => hh h2), e3]
      simp only [Option.bind_some]
      rw [d3]
      by_cases h3 : 0 ≤ t.mode ∧ t.mode ≤ 4
      · rw [bif_f (fun hh => hh h3)]
        by_cases h4 : t.every < 1
        · rw [bif_t h4]; congr 1; symm; exact decide_eq_true (by omega)
        · rw [bif_f h4]
          by_cases h5 : t.every = 5
          · rw [bif_t h5]; congr 1; symm; exact decide_eq_true (by omega)
          · rw [bif_f h5, if_neg (by omega)]
            congr 1
            have := tmod12 (e := t.every) (by omega) h5
            rw [← decide_not]
            exact decide_eq_decide.2 (by omega)
      · rw [bif_t h3]; congr 1; symm; exact decide_eq_true (by omega)
    · rw [bif_t h2]; congr 1; symm; exact decide_eq_true (by omega)
  · rw [bif_t h1]; congr 1; symm; exact decide_eq_true (by omega)
theorem every_bound {e c : Int} (he : everyOK e) (hc : 1 ≤ c ∧ c ≤ 1200) : 1 ≤ e * c ∧ e * c ≤ 14400 := by
  rcases he with rfl | rfl | rfl | rfl | rfl | rfl <;> omega
theorem terms_Check (t : Tm) : z89.F t.p t.r t.kind t.basis t.mode t.y t.m t.d t.every t.count = some (mCheck t) := by
  unfold z89.F mCheck
  rw [terms_Money]
  simp only [Option.bind_some]
  by_cases h1 : (mMoney t.p).2 = 0
  · rw [decide_eq_true h1, if_neg (by omega)]
    simp only [Bool.not_true, cond_false]
    rw [whole_Sign]
    simp only [Option.bind_some]
    by_cases h2 : (mMoney t.p).1 = 0
    · rw [bif_t (cmpI_eq0.2 h2), if_pos h2]
    · rw [bif_f (fun h => h2 (cmpI_eq0.1 h)), if_neg h2, terms_Rate]
      simp only [Option.bind_some]
      by_cases h3 : (mRate t.r).2 = 0
      · rw [decide_eq_true h3, if_neg (by omega)]
        simp only [Bool.not_true, cond_false]
        rw [terms_odd]
        simp only [Option.bind_some]
        by_cases h4 : kindsOK t
        · rw [bif_f (fun hh => hh h4), if_neg (fun hh => hh h4)]
          by_cases h5 : t.count < 1
          · rw [bif_t h5, if_pos (.inl h5)]
          · rw [bif_f h5]
            by_cases h6 : t.count > 1200
            · rw [bif_t h6, if_pos (.inr h6)]
            · have hb := every_bound (e := t.every) (c := t.count) h4.2.2.2 (by omega)
              rw [bif_f h6, if_neg (by omega), wr_i64 (by omega) (by omega), month_Add]
              simp only [Option.bind_some]
              by_cases h7 : right t.y t.m t.d ∧ okM t.y t.m (t.every * t.count)
              · rw [if_pos h7, if_pos h7]
              · rw [if_neg h7, if_neg h7]
        · rw [bif_t h4, if_pos h4]
      · rw [decide_eq_false h3, if_pos h3]; rfl
  · rw [decide_eq_false h1, if_pos h1]; rfl
end Go.Proofs.YtgjncgiekniniaaGreatDoor.A
end
section
set_option linter.unusedVariables false
set_option linter.unusedSimpArgs false
namespace Go.Proofs.YtgjncgiekniniaaGreatDoor.A
open Go
theorem tmod_fix {a b : Int} (hb : 0 < b) : (Int.tmod a b < 0 → Int.tmod a b + b = a % b) ∧ (¬ Int.tmod a b < 0 → Int.tmod a b = a % b) ∧ -b < Int.tmod a b ∧ Int.tmod a b < b := by
  have h1 := Int.emod_nonneg a (show b ≠ 0 by omega)
  have h2 := Int.emod_lt_of_pos a hb
  have h3 := Int.tmod_eq_emod (a := a) (b := b)
  by_cases h : 0 ≤ a ∨ b ∣ a
  · rw [if_pos h] at h3; omega
  · rw [if_neg h] at h3
    have : a % b ≠ 0 := fun e => h (.inr (Int.dvd_of_emod_eq_zero e))
    omega
theorem ref09_Make {a b c n : Int} (hn : 1 ≤ n ∧ n ≤ 9999) : ∃ y m d, z13.F a b c n = some (y, m, d) ∧ right y m d ∧ y ≤ n := by
  have f1 := tmod_fix (a := a) (b := n) (by omega)
  have f2 := tmod_fix (a := b) (b := 12) (by omega)
  have m1 := Int.emod_nonneg a (show n ≠ 0 by omega)
  have m2 := Int.emod_lt_of_pos a (show 0 < n by omega)
  have hd := dDays_ge (y := a % n + 1) (m := b % 12 + 1) (by omega) (by omega)
  have hd' := dDays_le (a % n + 1) (b % 12 + 1)
  have f3 := tmod_fix (a := c) (b := dDays (a % n + 1) (b % 12 + 1)) (by omega)
  have m5 := Int.emod_nonneg c (show dDays (a % n + 1) (b % 12 + 1) ≠ 0 by omega)
  have m6 := Int.emod_lt_of_pos c (show 0 < dDays (a % n + 1) (b % 12 + 1) by omega)
  refine ⟨a % n + 1, b % 12 + 1, c % dDays (a % n + 1) (b % 12 + 1) + 1, ?_, ⟨by omega, by omega⟩, by omega⟩
  have hj8 : ∀ j, j = b % 12 → Int.tmod a n = a % n → z13.j8 a n j c = some (a % n + 1, b % 12 + 1, c % dDays (a % n + 1) (b % 12 + 1) + 1) := fun j hj ht => by
    subst hj
    unfold z13.j8
    rw [ht, wr_i64 (n := a % n + 1) (by omega) (by omega), wr_i64 (n := b % 12 + 1) (by omega) (by omega), ref09_Days]
    simp only [Option.bind_some]
    rw [if_neg (by omega)]
    generalize dDays (a % n + 1) (b % 12 + 1) = k at *
    by_cases h : Int.tmod c k < 0
    · rw [bif_t h, wr_i64 (n := Int.tmod c k + k) (by omega) (by omega), f3.1 h, wr_i64 (by omega) (by omega)]
    · rw [bif_f h, f3.2.1 h, wr_i64 (by omega) (by omega)]
  have hj5 : ∀ j, j = b % 12 → Int.tmod a n < 0 → z13.j5 a n j c = some (a % n + 1, b % 12 + 1, c % dDays (a % n + 1) (b % 12 + 1) + 1) := fun j hj ht => by
    subst hj
    unfold z13.j5 z13.j7
    rw [wr_i64 (n := Int.tmod a n + n) (by omega) (by omega), f1.1 ht, wr_i64 (n := a % n + 1) (by omega) (by omega), wr_i64 (n := b % 12 + 1) (by omega) (by omega), ref09_Days]
    simp only [Option.bind_some]
    rw [if_neg (by omega)]
    generalize dDays (a % n + 1) (b % 12 + 1) = k at *
    by_cases h : Int.tmod c k < 0
    · rw [bif_t h, wr_i64 (n := Int.tmod c k + k) (by omega) (by omega), f3.1 h, wr_i64 (by omega) (by omega)]
    · rw [bif_f h, f3.2.1 h, wr_i64 (by omega) (by omega)]
  unfold z13.F
  rw [if_neg (by omega)]
  by_cases h1 : Int.tmod a n < 0
  · rw [bif_t h1]
    by_cases h2 : Int.tmod b 12 < 0
    · rw [bif_t h2, wr_i64 (by omega) (by omega), f2.1 h2]; exact hj5 _ rfl h1
    · rw [bif_f h2, f2.2.1 h2]; exact hj5 _ rfl h1
  · rw [bif_f h1]
    by_cases h2 : Int.tmod b 12 < 0
    · rw [bif_t h2, wr_i64 (by omega) (by omega), f2.1 h2]; exact hj8 _ rfl (f1.2.1 h1)
    · rw [bif_f h2, f2.2.1 h2]; exact hj8 _ rfl (f1.2.1 h1)
theorem txt_numOK (n : Nat) : numOK (txt n) = true := by
  unfold numOK
  rw [decide_eq_false (txt_ne n), digs_iff.2 (txt_digits n)]
  by_cases h : n = 0
  · subst h; rfl
  · obtain ⟨b, s, e, hb⟩ := txt_head h
    rw [e]
    have : ((b :: s).getD 0 0).toNat = b.toNat := rfl
    rw [this, decide_eq_false hb]; simp
theorem cutNeg_digits {s : List UInt8} (h : digits s) : cutNeg s = (s, false) := by
  unfold cutNeg
  cases s with
  | nil => rfl
  | cons b t =>
    have hb := h b (by simp)
    unfold digit at hb
    simp only
    rw [if_neg]
    rintro rfl
    simp at hb
theorem mWhole_txt {n : Nat} (h : (txt n).length ≤ 4096) : mWhole (txt n) = ((n : Int), 0) := by
  have hd : mDigits (txt n) = (n, 0) := by
    unfold mDigits
    rw [if_neg (by omega), if_pos (txt_numOK n), tv_txt, Int.toNat_natCast]
  unfold mWhole
  rw [cutNeg_digits (txt_digits n)]
  simp only [hd]
  rw [if_neg (by simp), if_neg (by simp)]
  rfl
theorem mMoney_txt {n : Nat} (h : n ≤ 10 ^ 30) : mMoney (txt n) = ((n : Int), 0) := by
  unfold mMoney
  have hl : (txt n).length ≤ 31 := txt_len (by omega) (by decide)
  rw [mWhole_txt (by omega)]
  have e : (10 : Int) ^ 30 = ((10 ^ 30 : Nat) : Int) := rfl
  rw [if_neg (by simp), if_neg (by rw [e]; omega)]
theorem pad_loop (s : List UInt8) (k : Nat) (hk : k ≤ 1000000000) : ∀ (f : Nat), k + 1 - s.length = f → Runs (fun rec x => z18.l0P (k : Int) rec some x) s (List.replicate f 48 ++ s) := by
  intro f
  induction f generalizing s with
  | zero =>
    intro h
    refine .done fun rec => ?_
    unfold z18.l0P
    rw [bif_f (by omega)]; rfl
  | succ f ih =>
    intro h
    have := ih (48 :: s) (by simp; omega)
    have e : List.replicate f (48 : UInt8) ++ 48 :: s = List.replicate (f + 1) 48 ++ s := by
      rw [List.replicate_succ', List.append_assoc]; rfl
    rw [e] at this
    refine .step (fun rec => ?_) this
    unfold z18.l0P
    rw [bif_t (by omega), if_pos (by simp; omega)]
    rfl
def padded (n k : Nat) : List UInt8 := List.replicate (k + 1 - (txt n).length) 48 ++ txt n
theorem padded_len (n k : Nat) : k < (padded n k).length ∧ (padded n k).length ≤ k + 1 + (txt n).length := by unfold padded; rw [List.length_append, List.length_replicate]; omega
theorem padded_digits (n k : Nat) : digits (padded n k) := fun b hb => by
  rcases List.mem_append.1 hb with h | h
  · rw [List.eq_of_mem_replicate h]; unfold digit; decide
  · exact txt_digits n b h
theorem tv_zeros (f : Nat) (s : List UInt8) : tv 0 (List.replicate f 48 ++ s) = tv 0 s := by
  induction f with
  | zero => rfl
  | succ f ih => rw [List.replicate_succ, List.cons_append]; exact ih
theorem padded_tv (n k : Nat) : tv 0 (padded n k) = n := by unfold padded; rw [tv_zeros, tv_txt]
def decTxt (n k : Nat) : List UInt8 := (padded n k).take ((padded n k).length - k) ++ 46 :: (padded n k).drop ((padded n k).length - k)
theorem ref07_Print {n k : Nat} (hk : 0 < k ∧ k ≤ 1000000) (hn : 4 * (dg n).length ≤ 1000000000) (hl : (txt n).length ≤ 100000000) : z18.F (dg n) false (k : Int) = some (decTxt n k) := by
  have r := pad_loop (txt n) k (by omega) _ rfl
  have e : z18.l0 (k : Int) (txt n) = some (padded n k) := r.lfp
  have pl := padded_len n k
  unfold z18.F
  rw [ref01_Print hn]
  simp only [Option.bind_some]
  rw [e]
  simp only [Option.bind_some]
  have ew : wr .i64 (((padded n k).length : Int) - (k : Int)) = (((padded n k).length - k : Nat) : Int) := by rw [wr_i64 (by omega) (by omega)]; omega
  rw [bif_t (by omega), ew, if_pos (by omega), if_pos (by simp; omega), if_pos (by omega), if_pos (by simp; omega), Int.toNat_natCast]
  unfold z18.j3 decTxt
  simp
theorem cutDot_digits : ∀ {a : List UInt8} (b : List UInt8), digits a → cutDot (a ++ 46 :: b) = (a, some b)
  | [], b, _ => rfl
  | x :: a, b, h => by
    have hx := h x (by simp)
    have ih := cutDot_digits (a := a) b fun y hy => h y (by simp [hy])
    show cutDot (x :: (a ++ 46 :: b)) = _
    unfold cutDot
    rw [if_neg (by rintro rfl; unfold digit at hx; simp at hx), ih]
theorem mDec_txt {n k : Nat} (hk : 0 < k ∧ k ≤ 64) (hl : (txt n).length ≤ 1000) : mDec (decTxt n k) = ((n : Int), k, 0) := by
  have pl := padded_len n k
  have pd := padded_digits n k
  have hda : digits ((padded n k).take ((padded n k).length - k)) := fun b hb => pd b (List.mem_of_mem_take hb)
  have hdb : digits ((padded n k).drop ((padded n k).length - k)) := fun b hb => pd b (List.mem_of_mem_drop hb)
  have la : ((padded n k).take ((padded n k).length - k)).length = (padded n k).length - k := by rw [List.length_take]; omega
  have lb' : ((padded n k).drop ((padded n k).length - k)).length = k := by rw [List.length_drop]; omega
  have hcat : (padded n k).take ((padded n k).length - k) ++ (padded n k).drop ((padded n k).length - k) = padded n k := List.take_append_drop _ _
  have hlead : (decide (1 < ((padded n k).take ((padded n k).length - k)).length) && decide ((((padded n k).take ((padded n k).length - k)).getD 0 0).toNat = 48)) = false := by
    by_cases h1 : 1 < ((padded n k).take ((padded n k).length - k)).length
    · rw [la] at h1
      have h2 : k + 1 < (padded n k).length := by omega
      have h0 : k + 1 - (txt n).length = 0 := by
        unfold padded at h2
        rw [List.length_append, List.length_replicate] at h2; omega
      have e : padded n k = txt n := by unfold padded; rw [h0]; rfl
      have hn : n ≠ 0 := by
        rintro rfl
        rw [e] at h2
        have : (txt 0).length = 1 := rfl
        omega
      obtain ⟨b, s, ht, hb⟩ := txt_head hn
      rw [e, ht]
      have : (((b :: s).take ((b :: s).length - k)).getD 0 0).toNat = b.toNat := by
        rw [e, ht] at h2
        have : (b :: s).length - k = ((b :: s).length - k - 1) + 1 := by omega
        rw [this, List.take_succ_cons]; rfl
      rw [this, decide_eq_false hb, Bool.and_false]
    · rw [decide_eq_false h1, Bool.false_and]
  have hlen : (decTxt n k).length = (padded n k).length + 1 := by
    unfold decTxt; rw [List.length_append, List.length_cons, la, lb']; omega
  have hneg : cutNeg (decTxt n k) = (decTxt n k, false) := by
    have hne : (padded n k).take ((padded n k).length - k) ≠ [] := fun h => by rw [h] at la; simp at la; omega
    unfold decTxt
    cases hc : (padded n k).take ((padded n k).length - k) with
    | nil => exact absurd hc hne
    | cons b t =>
      have hb := hda b (by rw [hc]; simp)
      unfold digit at hb
      unfold cutNeg
      simp only [List.cons_append]
      rw [if_neg (by rintro rfl; simp at hb)]
  have hpa : plainB ((padded n k).take ((padded n k).length - k)) = true := by
    unfold plainB; rw [digs_iff.2 hda, decide_eq_false (fun h => by rw [h] at la; simp at la; omega)]; rfl
  have hpb : plainB ((padded n k).drop ((padded n k).length - k)) = true := by
    unfold plainB; rw [digs_iff.2 hdb, decide_eq_false (fun h => by rw [h] at lb'; simp at lb'; omega)]; rfl
  unfold mDec
  rw [if_neg (by omega), hneg]
  have hcut : cutDot (decTxt n k) = ((padded n k).take ((padded n k).length - k), some ((padded n k).drop ((padded n k).length - k))) := cutDot_digits _ hda
  rw [hcut]
  unfold decOf
  simp only [Option.isSome_some, Bool.true_and, Option.getD_some, hpa, hpb, hlead, Bool.not_true, Bool.or_false, Bool.false_and]
  rw [if_neg (by simp), if_neg (by simp), if_neg (by omega), hcat, padded_tv, lb', if_neg (by simp)]
theorem shr2 (a : Int) : Int.fdiv a (2 ^ (min 2 (64 : Nat))) = a / 4 := by
  rw [Int.fdiv_eq_ediv_of_nonneg _ (by decide)]; rfl
theorem shr4 (a : Int) : Int.fdiv a (2 ^ (min 4 (64 : Nat))) = a / 16 := by
  rw [Int.fdiv_eq_ediv_of_nonneg _ (by decide)]; rfl
theorem tmod_pos {a b : Int} (ha : 0 ≤ a) (hb : 0 < b) : Int.tmod a b = a % b ∧ 0 ≤ a % b ∧ a % b < b := ⟨tmod_emod ha, Int.emod_nonneg a (by omega), Int.emod_lt_of_pos a hb⟩
structure Good (t : Tm) (most : Int) : Prop where
  money : ∃ n : Nat, t.p = txt n ∧ 0 < n ∧ n ≤ 10 ^ 30
  rate : ∃ n k : Nat, t.r = decTxt n k ∧ n < 100000 ∧ 2 ≤ k ∧ k ≤ 8
  kinds : kindsOK t
  date : right t.y t.m t.d
  year : t.y ≤ 9000
  count : 1 ≤ t.count ∧ t.count ≤ most
theorem ref14_Make {a0 a1 a2 a3 a4 a5 a6 a7 a8 a9 a10 a11 most : Int} (h0 : 0 ≤ a0 ∧ a0 < 18446744073709551616) (h1 : 0 ≤ a1 ∧ a1 < 65536) (h2 : 0 ≤ a2 ∧ a2 < 4294967296) (h3 : 0 ≤ a3 ∧ a3 < 256) (h4 : 0 ≤ a4 ∧ a4 < 256) (h5 : 0 ≤ a5 ∧ a5 < 256)
    (h6 : 0 ≤ a6 ∧ a6 < 256) (h7 : 0 ≤ a7 ∧ a7 < 256) (h8 : 0 ≤ a8 ∧ a8 < 256) (hm : 1 ≤ most ∧ most ≤ 1000) :
    ∃ t : Tm, Good t most ∧ z19.F a0 a1 a2 a3 a4 a5 a6 a7 a8 a9 a10 a11 most = some (t.p, t.r, t.kind, t.basis, t.mode, t.y, t.m, t.d, t.every, t.count) := by
  obtain ⟨y, m, d, ed, hd, hy⟩ := ref09_Make (a := a9) (b := a10) (c := a11) (n := 9000) (by omega)
  have w8 : wr .i64 a8 = a8 := wr_i64 (by omega) (by omega)
  have t8 := tmod_pos h8.1 (show (0 : Int) < 7 by decide)
  have t7 := tmod_pos h7.1 (show 0 < most by omega)
  have t6 := tmod_pos h6.1 (show (0 : Int) < 5 by decide)
  have t5 := tmod_pos h5.1 (show (0 : Int) < 3 by decide)
  have t4 := tmod_pos h4.1 (show (0 : Int) < 3 by decide)
  have t3 := tmod_pos h3.1 (show (0 : Int) < 7 by decide)
  have t2 := tmod_pos h2.1 (show (0 : Int) < 100000 by decide)
  have hev : everyOK ([(1 : Int), (1 : Int), (2 : Int), (3 : Int), (4 : Int), (6 : Int), (12 : Int)].getD (a8 % 7).toNat 0) := by
    have : a8 % 7 = 0 ∨ a8 % 7 = 1 ∨ a8 % 7 = 2 ∨ a8 % 7 = 3 ∨ a8 % 7 = 4 ∨ a8 % 7 = 5 ∨ a8 % 7 = 6 := by omega
    rcases this with h | h | h | h | h | h | h <;> rw [h] <;> decide
  have hp : ∀ (x : Int) (p : List UInt8), (∃ n : Nat, p = txt n ∧ 0 < n ∧ n ≤ 10 ^ 30) → Good ⟨p, decTxt (a2 % 100000).toNat (a3 % 7 + 2).toNat, a4 % 3, a5 % 3, a6 % 5, y, m, d, [(1 : Int), (1 : Int), (2 : Int), (3 : Int), (4 : Int), (6 : Int), (12 : Int)].getD (a8 % 7).toNat 0, 1 + a7 % most⟩ most := fun x p h => {
    money := h
    rate := ⟨_, _, rfl, by omega, by omega, by omega⟩
    kinds := ⟨by show 0 ≤ a4 % 3 ∧ a4 % 3 ≤ 2; omega, by show 0 ≤ a5 % 3 ∧ a5 % 3 ≤ 2; omega, by show 0 ≤ a6 % 5 ∧ a6 % 5 ≤ 4; omega, hev⟩
    date := hd
    year := hy
    count := by show 1 ≤ 1 + a7 % most ∧ 1 + a7 % most ≤ most; omega }
  have hrate : ∀ {α : Type} (f : List UInt8 → Option α), ((z10.F (Int.tmod (wr .i64 a2) 100000)).bind fun r7 => ((z18.F r7.1 r7.2 (wr .i64 (Int.tmod (wr .i64 a3) 7 + 2))).bind fun r8 => f r8)) = f (decTxt (a2 % 100000).toNat (a3 % 7 + 2).toNat) := fun f => by
    rw [wr_i64 (n := a2) (by omega) (by omega), wr_i64 (n := a3) (by omega) (by omega), t2.1, t3.1, wr_i64 (n := a3 % 7 + 2) (by omega) (by omega), ref04_From (by omega)]
    simp only [Option.bind_some]
    have e1 : neg (a2 % 100000) = false := decide_eq_false (by omega)
    have e2 : (a2 % 100000).natAbs = (a2 % 100000).toNat := by omega
    have e3 : a3 % 7 + 2 = ((a3 % 7 + 2).toNat : Int) := by omega
    have l1 : (dg (a2 % 100000).toNat).length ≤ 5 := toB_len_le b4 (Nat.lt_of_lt_of_le (show (a2 % 100000).toNat < 100000 by omega) (by decide))
    have l2 : (txt (a2 % 100000).toNat).length ≤ 5 := txt_len (show (a2 % 100000).toNat < 10 ^ 5 by omega) (by decide)
    rw [e1, e2]
    conv => lhs; rw [e3]
    rw [ref07_Print (by omega) (by omega) (by omega)]
    rfl
  have e11 : ((Int.natAbs 100000000000 : Nat)) = 100000000000 := rfl
  unfold z19.F
  rw [w8, t8.1, if_pos ⟨t8.2.1, by simp; omega⟩, if_neg (by omega), ed]
  simp only [Option.bind_some]
  rw [shr2, shr4, wr_i64 (n := a0 / 4) (by omega) (by omega), wr_i64 (n := a0 / 4 + 1) (by omega) (by omega), wr_i64 (n := a0 / 16) (by omega) (by omega), wr_i64 (n := a0 / 16 + 1) (by omega) (by omega)]
  rw [wr_i64 (n := a4) (by omega) (by omega), wr_i64 (n := a5) (by omega) (by omega), wr_i64 (n := a6) (by omega) (by omega), wr_i64 (n := a7) (by omega) (by omega), t4.1, t5.1, t6.1, t7.1, wr_i64 (n := 1 + a7 % most) (by omega) (by omega)]
  rw [ref04_From (z := a0 / 4 + 1) (by omega)]
  simp only [Option.bind_some]
  by_cases hc : a1 > 60000
  · rw [bif_t hc, ref04_From (by omega)]
    simp only [Option.bind_some]
    rw [ref04_From (by omega)]
    simp only [Option.bind_some]
    have g1 : (dg (a0 / 16 + 1).natAbs).length ≤ 20 := Nat.le_trans (dg_sz _) (sz_le (by omega))
    have g2 : (dg (Int.natAbs 100000000000)).length ≤ 20 := Nat.le_trans (dg_sz _) (sz_le (by decide))
    have hb : ((a0 / 16 + 1) * 100000000000).natAbs = (a0 / 16 + 1).toNat * 100000000000 := by omega
    have g3 : (dg ((a0 / 16 + 1) * 100000000000).natAbs).length ≤ 40 := Nat.le_trans (dg_sz _) (sz_le (by omega))
    have g4 : (txt ((a0 / 16 + 1) * 100000000000).natAbs).length ≤ 40 := txt_len (by omega) (by decide)
    rw [ref04_Mul (by omega)]
    simp only [Option.bind_some]
    rw [ref04_Print (by omega) (by omega), if_neg (by omega)]
    simp only [Option.bind_some]
    refine ⟨_, hp 0 (txt ((a0 / 16 + 1) * 100000000000).natAbs) ⟨_, rfl, by omega, by omega⟩, ?_⟩
    rw [hrate]
  · rw [bif_f hc]
    have g3 : (dg (a0 / 4 + 1).natAbs).length ≤ 20 := Nat.le_trans (dg_sz _) (sz_le (by omega))
    have g4 : (txt (a0 / 4 + 1).natAbs).length ≤ 20 := txt_len (by omega) (by decide)
    rw [ref04_Print (by omega) (by omega), if_neg (by omega)]
    simp only [Option.bind_some]
    refine ⟨_, hp 0 (txt (a0 / 4 + 1).natAbs) ⟨_, rfl, by omega, by omega⟩, ?_⟩
    rw [hrate]
theorem Good.moneyOK {t : Tm} {most : Int} (h : Good t most) : (mMoney t.p).2 = 0 ∧ (mMoney t.p).1 ≠ 0 := by
  obtain ⟨n, e, h1, h2⟩ := h.money
  rw [e, mMoney_txt h2]
  exact ⟨rfl, by show (n : Int) ≠ 0; omega⟩
theorem Good.rateOK {t : Tm} {most : Int} (h : Good t most) : (mRate t.r).2 = 0 := by
  obtain ⟨n, k, e, h1, h2, h3⟩ := h.rate
  have hl : (txt n).length ≤ 5 := txt_len (Nat.lt_of_lt_of_le h1 (by decide)) (by decide)
  have hk : 10 ^ 2 ≤ 10 ^ k := Nat.pow_le_pow_right (by decide) h2
  rw [e]
  unfold mRate
  rw [mDec_txt (by omega) (by omega)]
  rw [if_neg (by simp), if_neg (by simp only; omega)]
theorem Good.check {t : Tm} {most : Int} (h : Good t most) (hm : t.every * t.count ≤ 11000) (hc : most ≤ 1200) : mCheck t = 0 := by
  have g := right_good h.date
  have hb := every_bound h.kinds.2.2.2 (c := t.count) ⟨h.count.1, by have := h.count.2; omega⟩
  have hy := h.year
  have hcc := h.count
  unfold mCheck
  rw [if_neg (fun hh => hh h.moneyOK.1), if_neg h.moneyOK.2, if_neg (fun hh => hh h.rateOK), if_neg (fun hh => hh h.kinds), if_neg (by omega), if_pos ⟨h.date, by omega⟩]
end Go.Proofs.YtgjncgiekniniaaGreatDoor.A
end
section
set_option linter.unusedVariables false
set_option linter.unusedSimpArgs false
namespace Go.Proofs.YtgjncgiekniniaaGreatDoor.A
open Go
abbrev D3 := Int × Int × Int
def dv (x : D3) : List V := [.int .i64 x.1, .int .i64 x.2.1, .int .i64 x.2.2]
def pv (x : D3 × D3) : List V := [.int .i64 x.1.1, .int .i64 x.1.2.1, .int .i64 x.1.2.2, .int .i64 x.2.1, .int .i64 x.2.2.1, .int .i64 x.2.2.2]
abbrev rightD (x : D3) : Prop := right x.1 x.2.1 x.2.2
theorem asD0 {R : Type} (x : D3) (K : Int → Option R) : V.asInt .i64 ((dv x).getD 0 .undef) K = K x.1 := by simp [dv, V.asInt]
theorem asD1 {R : Type} (x : D3) (K : Int → Option R) : V.asInt .i64 ((dv x).getD 1 .undef) K = K x.2.1 := by simp [dv, V.asInt]
theorem asD2 {R : Type} (x : D3) (K : Int → Option R) : V.asInt .i64 ((dv x).getD 2 .undef) K = K x.2.2 := by simp [dv, V.asInt]
theorem asP0 {R : Type} (x : D3 × D3) (K : Int → Option R) : V.asInt .i64 ((pv x).getD 0 .undef) K = K x.1.1 := by simp [pv, V.asInt]
theorem asP1 {R : Type} (x : D3 × D3) (K : Int → Option R) : V.asInt .i64 ((pv x).getD 1 .undef) K = K x.1.2.1 := by simp [pv, V.asInt]
theorem asP2 {R : Type} (x : D3 × D3) (K : Int → Option R) : V.asInt .i64 ((pv x).getD 2 .undef) K = K x.1.2.2 := by simp [pv, V.asInt]
theorem asP3 {R : Type} (x : D3 × D3) (K : Int → Option R) : V.asInt .i64 ((pv x).getD 3 .undef) K = K x.2.1 := by simp [pv, V.asInt]
theorem asP4 {R : Type} (x : D3 × D3) (K : Int → Option R) : V.asInt .i64 ((pv x).getD 4 .undef) K = K x.2.2.1 := by simp [pv, V.asInt]
theorem asP5 {R : Type} (x : D3 × D3) (K : Int → Option R) : V.asInt .i64 ((pv x).getD 5 .undef) K = K x.2.2.2 := by simp [pv, V.asInt]
theorem getD_map {α : Type} (f : α → List V) {l : List α} {i : Nat} (h : i < l.length) : (l.map f).getD i [] = f l[i] := by
  simp [List.getD, h]
def series (y m d step : Int) (n : Nat) : List D3 := (List.range n).map fun k : Nat => addM y m d ((k + 1 : Nat) * step)
theorem series_len (y m d step : Int) (n : Nat) : (series y m d step n).length = n := by simp [series]
theorem series_succ (y m d step : Int) (n : Nat) : series y m d step (n + 1) = series y m d step n ++ [addM y m d ((n + 1 : Nat) * step)] := by
  unfold series; rw [List.range_succ, List.map_append]; rfl
theorem okM_le {y m k k' : Int} (h : okM y m k) (h0 : 0 ≤ k') (hk : k' ≤ k) (hm : 12 ≤ (12 * y + m - 1)) : okM y m k' := by omega
theorem series_loop {y m d step : Int} {n : Nat} (hr : right y m d) (hs : 1 ≤ step ∧ step ≤ 12) (hn : n ≤ 1200) (ho : okM y m (n * step)) : ∀ (f k : Nat), k + f = n →
    Runs (fun rec x => z90.l0P step (n : Int) y m d rec some x) (((k + 1 : Nat) : Int), (series y m d step k).map dv) (.inl (((n + 1 : Nat) : Int), (series y m d step n).map dv))
  | 0, k, hk => by
    have : k = n := by omega
    subst this
    refine .done fun rec => ?_
    unfold z90.l0P
    simp only
    rw [bif_f (by omega)]
  | f + 1, k, hk => by
    have g := right_good hr
    have ih := series_loop hr hs hn ho f (k + 1) (by omega)
    have hb : ((k + 1 : Nat) : Int) * step ≤ n * step := Int.mul_le_mul_of_nonneg_right (by omega) (by omega)
    have hb0 : 0 ≤ ((k + 1 : Nat) : Int) * step := Int.mul_nonneg (by omega) (by omega)
    have hb1 : (n : Int) * step ≤ 1200 * 12 := Int.mul_le_mul (by omega) (by omega) (by omega) (by omega)
    refine .step (fun rec => ?_) ih
    unfold z90.l0P
    simp only
    rw [bif_t (by omega), if_neg (by omega), wr_i64 (n := ((k + 1 : Nat) : Int) * step) (by omega) (by omega), month_Add, if_pos ⟨hr, okM_le ho hb0 hb (by omega)⟩]
    simp only [Option.bind_some, decide_true, Bool.not_true, cond_false]
    rw [if_pos (by rw [List.length_map, series_len]; simp; omega), wr_i64 (by omega) (by omega), series_succ, List.map_append]
    rfl
theorem month_Series {y m d step : Int} {n : Nat} (hr : right y m d) (hs : 1 ≤ step ∧ step ≤ 12) (hn : n ≤ 1200) (ho : okM y m (n * step)) : z90.F y m d step (n : Int) = some ((series y m d step n).map dv, 0) := by
  have e : z90.l0 step (n : Int) y m d ((1 : Int), []) = some (.inl (((n + 1 : Nat) : Int), (series y m d step n).map dv)) := (series_loop hr hs hn ho n 0 (by omega)).lfp
  unfold z90.F z90.j1
  rw [bif_f (by omega), bif_f (by omega), bif_f (by omega), date_Check]
  simp only [Option.bind_some]
  rw [if_pos hr, e]
  rfl
def Tm.dates (t : Tm) : List D3 := series t.y t.m t.d t.every t.count.toNat
theorem mCheck_zero {t : Tm} (h : mCheck t = 0) : kindsOK t ∧ (1 ≤ t.count ∧ t.count ≤ 1200) ∧ right t.y t.m t.d ∧ okM t.y t.m (t.every * t.count) := by
  unfold mCheck at h
  split at h
  · exact absurd h ‹_›
  · split at h
    · simp at h
    · split at h
      · exact absurd h ‹_›
      · split at h
        · simp at h
        · rename_i hk
          split at h
          · simp at h
          · split at h
            · rename_i h5 h6
              exact ⟨Decidable.not_not.1 hk, by omega, h6.1, h6.2⟩
            · simp at h
theorem every_le {e : Int} (h : everyOK e) : 1 ≤ e ∧ e ≤ 12 := by omega
theorem dues_Dates (t : Tm) : z91.F t.p t.r t.kind t.basis t.mode t.y t.m t.d t.every t.count = some (if mCheck t = 0 then (t.dates.map dv, 0) else ([], mCheck t)) := by
  unfold z91.F
  rw [terms_Check]
  simp only [Option.bind_some]
  by_cases h : mCheck t = 0
  · obtain ⟨hk, hc, hr, ho⟩ := mCheck_zero h
    have he := every_le hk.2.2.2
    have ec : t.count = (t.count.toNat : Int) := by omega
    rw [decide_eq_true h, if_pos h]
    simp only [Bool.not_true, cond_false]
    have hs := month_Series (y := t.y) (m := t.m) (d := t.d) (step := t.every) (n := t.count.toNat) hr he (by omega) (by rw [← ec, Int.mul_comm]; exact ho)
    rw [← ec] at hs
    rw [hs]; rfl
  · rw [decide_eq_false h, if_neg h]; rfl
def pairs (a : D3) : List D3 → List (D3 × D3)
  | [] => []
  | b :: l => (a, b) :: pairs b l
theorem pairs_len : ∀ (a : D3) (l : List D3), (pairs a l).length = l.length
  | _, [] => rfl
  | a, b :: l => by simp [pairs, pairs_len b l]
theorem periods_loop {l : List D3} (hl : l.length ≤ 2000) : ∀ (f i : Nat) (s : List (List V)) (a : D3), i + f = l.length → s.length = i →
    ∃ z, Runs (fun rec x => z92.l0P (l.map dv) (l.length : Int) rec some x) ((i : Int), s, a.1, a.2.1, a.2.2) ((l.length : Int), s ++ (pairs a (l.drop i)).map pv, z)
  | 0, i, s, a, hf, hs => by
    have : i = l.length := by omega
    refine ⟨(a.1, a.2.1, a.2.2), .done fun rec => ?_⟩
    · unfold z92.l0P
      simp only
      rw [bif_f (by omega), List.drop_eq_nil_of_le (by omega), this]; simp [pairs]
  | f + 1, i, s, a, hf, hs => by
    have hi : i < l.length := by omega
    obtain ⟨z, r⟩ := periods_loop hl f (i + 1) (s ++ [pv (a, l[i])]) l[i] (by omega) (by simp; omega)
    refine ⟨z, .step (fun rec => ?_) (by rw [List.drop_eq_getElem_cons hi]; simp only [pairs, List.map_cons]; rw [← List.append_cons] at r; exact r)⟩
    unfold z92.l0P
    simp only
    rw [bif_t (by omega), if_pos (by rw [List.length_map]; omega), Int.toNat_natCast, getD_map dv hi]
    rw [asD0, asD1, asD2, if_pos (by simp; omega), wr_i64 (by omega) (by omega)]
    rfl
def Tm.start (t : Tm) : D3 := (t.y, t.m, t.d)
def Tm.periods (t : Tm) : List (D3 × D3) := pairs t.start t.dates
theorem Tm.dates_len (t : Tm) : t.dates.length = t.count.toNat := series_len _ _ _ _ _
theorem dues_Periods (t : Tm) : z92.F t.p t.r t.kind t.basis t.mode t.y t.m t.d t.every t.count = some (if mCheck t = 0 then (t.periods.map pv, 0) else ([], mCheck t)) := by
  unfold z92.F
  rw [dues_Dates]
  simp only [Option.bind_some]
  by_cases h : mCheck t = 0
  · obtain ⟨hk, hc, hr, ho⟩ := mCheck_zero h
    rw [if_pos h, if_pos h]
    simp only [decide_true, Bool.not_true, cond_false, List.length_map]
    have hl := t.dates_len
    obtain ⟨z, r⟩ := periods_loop (l := t.dates) (by omega) t.dates.length 0 [] t.start (by omega) rfl
    have e : z92.l0 (t.dates.map dv) (t.dates.length : Int) ((0 : Int), [], t.y, t.m, t.d) = _ := r.lfp
    rw [e]
    rfl
  · rw [if_neg h, if_neg h]
    simp only
    rw [decide_eq_false h]; rfl
abbrev cmpD (x y : D3) : Int := dcmp x.1 x.2.1 x.2.2 y.1 y.2.1 y.2.2
theorem at_loop {l : List D3} {x : D3} {k : Nat} (hl : l.length ≤ 2000) (hk : k ≤ l.length) (h1 : ∀ j (h : j < l.length), j < k → ¬ cmpD l[j] x > 0) (h2 : ∀ h : k < l.length, cmpD l[k] x > 0) : ∀ (f i : Nat), i + f = k →
    Runs (fun rec z => z127.l0P (l.map dv) (l.length : Int) x.1 x.2.1 x.2.2 rec some z) (i : Int) (if k < l.length then .inr (k : Int) else .inl (l.length : Int))
  | 0, i, hf => by
    have : i = k := by omega
    subst this
    refine .done fun rec => ?_
    unfold z127.l0P
    by_cases h : i < l.length
    · rw [if_pos h, bif_t (by omega), if_pos (by rw [List.length_map]; omega), Int.toNat_natCast, getD_map dv h, asD0, asD1, asD2, date_Cmp]
      simp only [Option.bind_some]
      rw [bif_t (h2 h)]
    · have : i = l.length := by omega
      rw [if_neg h, bif_f (by omega), this]
  | f + 1, i, hf => by
    have hi : i < l.length := by omega
    refine .step (fun rec => ?_) (at_loop hl hk h1 h2 f (i + 1) (by omega))
    unfold z127.l0P
    rw [bif_t (by omega), if_pos (by rw [List.length_map]; omega), Int.toNat_natCast, getD_map dv hi, asD0, asD1, asD2, date_Cmp]
    simp only [Option.bind_some]
    rw [bif_f (h1 i hi (by omega)), wr_i64 (by omega) (by omega)]
    rfl
theorem dues_At {t : Tm} (h : mCheck t = 0) {x : D3} (hx : rightD x) (hc : ¬ cmpD x t.start < 0) {k : Nat} (hk : k ≤ t.dates.length) (h1 : ∀ j (h : j < t.dates.length), j < k → ¬ cmpD t.dates[j] x > 0) (h2 : ∀ h : k < t.dates.length, cmpD t.dates[k] x > 0) :
    z127.F t.p t.r t.kind t.basis t.mode t.y t.m t.d t.every t.count x.1 x.2.1 x.2.2 = some ((k : Int), 0) := by
  obtain ⟨hkk, hcc, hr, ho⟩ := mCheck_zero h
  have hl := t.dates_len
  have e : z127.l0 (t.dates.map dv) (t.dates.length : Int) x.1 x.2.1 x.2.2 0 = _ := (at_loop (by omega) hk h1 h2 k 0 (by omega)).lfp
  unfold z127.F
  rw [dues_Dates, if_pos h]
  simp only [Option.bind_some, decide_true, Bool.not_true, cond_false]
  rw [date_Check, if_pos hx]
  simp only [Option.bind_some, decide_true, Bool.not_true, cond_false]
  rw [date_Cmp]
  simp only [Option.bind_some, List.length_map]
  rw [bif_f (p := dcmp x.1 x.2.1 x.2.2 t.y t.m t.d < 0) hc, e]
  simp only [Option.bind_some]
  by_cases hlt : k < t.dates.length
  · rw [if_pos hlt]
    simp only
    rw [bif_f (by omega)]
  · rw [if_neg hlt]
    simp only
    congr 2; omega
end Go.Proofs.YtgjncgiekniniaaGreatDoor.A
end
section
set_option linter.unusedVariables false
set_option linter.unusedSimpArgs false
namespace Go.Proofs.YtgjncgiekniniaaGreatDoor.A
open Go
theorem eq_loop {l l' : List D3} (hl : l.length = l'.length) (hb : l.length ≤ 1000000) : ∀ (f i : Nat), i + f = l.length →
    ∃ o, Runs (fun rec x => z123.l0P (l.map dv) (l'.map dv) (l.length : Int) rec some x) (i : Int) o ∧ (match o with | .inl _ => true | .inr q => q) = decide (l.drop i = l'.drop i)
  | 0, i, hf => by
    refine ⟨.inl (l.length : Int), .done fun rec => ?_, ?_⟩
    · unfold z123.l0P
      rw [bif_f (by omega)]
      congr 2; omega
    · rw [List.drop_eq_nil_of_le (by omega), List.drop_eq_nil_of_le (by omega)]; rfl
  | f + 1, i, hf => by
    have hi : i < l.length := by omega
    have hi' : i < l'.length := by omega
    rw [List.drop_eq_getElem_cons hi, List.drop_eq_getElem_cons hi']
    have e : (decide (l[i].1 = l'[i].1) && (decide (l[i].2.1 = l'[i].2.1) && decide (l[i].2.2 = l'[i].2.2))) = decide (l[i] = l'[i]) := by
      rw [Bool.eq_iff_iff]; simp [Prod.ext_iff]
    by_cases h : l[i] = l'[i]
    · obtain ⟨o, r, ho⟩ := eq_loop hl hb f (i + 1) (by omega)
      refine ⟨o, .step (fun rec => ?_) r, ?_⟩
      · unfold z123.l0P
        rw [bif_t (by omega), if_pos (by rw [List.length_map]; omega), Int.toNat_natCast, getD_map dv hi, asD0, asD1, asD2, if_pos (by rw [List.length_map]; omega), getD_map dv hi', asD0, asD1, asD2, e, decide_eq_true h]
        simp only [Bool.not_true, cond_false]
        rw [wr_i64 (by omega) (by omega)]; rfl
      · rw [ho, h]; apply decide_eq_decide.2; simp only [List.cons.injEq, true_and]
    · refine ⟨.inr false, .done fun rec => ?_, ?_⟩
      · unfold z123.l0P
        rw [bif_t (by omega), if_pos (by rw [List.length_map]; omega), Int.toNat_natCast, getD_map dv hi, asD0, asD1, asD2, if_pos (by rw [List.length_map]; omega), getD_map dv hi', asD0, asD1, asD2, e, decide_eq_false h]
        rfl
      · symm; exact decide_eq_false fun hh => h (List.cons.inj hh).1
theorem equal_dates {l l' : List D3} (hb : l.length ≤ 1000000) : z123.F (l.map dv) (l'.map dv) = some (decide (l = l')) := by
  unfold z123.F
  simp only [List.length_map]
  by_cases hl : l.length = l'.length
  · obtain ⟨o, r, ho⟩ := eq_loop hl hb l.length 0 (by omega)
    have e : z123.l0 (l.map dv) (l'.map dv) (l.length : Int) 0 = some o := r.lfp
    rw [decide_eq_true (by omega), e]
    simp only [Bool.not_true, cond_false, Option.bind_some]
    simp only [List.drop_zero] at ho
    rw [← ho]
    cases o <;> rfl
  · rw [decide_eq_false (by omega)]
    simp only [Bool.not_false, cond_true]
    congr 1; symm; apply decide_eq_false; rintro rfl; exact hl rfl
def t100 : Tm := ⟨[49, 48, 48], [53], 0, 0, 0, 2024, 1, 31, 1, 2⟩
def tNone : Tm := ⟨[], [], 0, 0, 0, 0, 0, 0, 0, 0⟩
theorem t100_ok : mCheck t100 = 0 := by decide +kernel
theorem tNone_bad : mCheck tNone = 5 := by decide +kernel
theorem t100_dates : t100.dates = [(2024, 2, 29), (2024, 3, 31)] := by decide +kernel
theorem law15_wakes : z128.F = some true := by
  have r1 := dues_Dates t100
  have r2 := dues_At (t := t100) (x := (2024, 2, 29)) t100_ok (by decide +kernel) (by decide +kernel) (k := 1) (by rw [t100_dates]; decide) (by rw [t100_dates]; decide +kernel) (by rw [t100_dates]; decide +kernel)
  have r3 := dues_Periods t100
  have r4 := dues_Dates tNone
  rw [if_pos t100_ok] at r1 r3
  rw [tNone_bad, if_neg (by decide)] at r4
  have ep : t100.periods = [((2024, 1, 31), (2024, 2, 29)), ((2024, 2, 29), (2024, 3, 31))] := by unfold Tm.periods; rw [t100_dates]; rfl
  rw [t100_dates] at r1
  rw [ep] at r3
  have r5 := equal_dates (l := [(2024, 2, 29), (2024, 3, 31)]) (l' := [(2024, 2, 29), (2024, 3, 31)]) (by decide)
  unfold t100 at r1 r2 r3
  unfold tNone at r4
  simp only at r1 r2 r3 r4
  unfold z128.F
  rw [r1]
  simp only [Option.bind_some]
  rw [r2]
  simp only [Option.bind_some]
  rw [r3]
  simp only [Option.bind_some]
  rw [r4]
  simp only [Option.bind_some]
  simp only [decide_true, cond_true]
  have e5 : ([[(.int .i64 (2024 : Int)), (.int .i64 (2 : Int)), (.int .i64 (29 : Int))], [(.int .i64 (2024 : Int)), (.int .i64 (3 : Int)), (.int .i64 (31 : Int))]] : List (List V)) = [((2024 : Int), (2 : Int), (29 : Int)), (2024, 3, 31)].map dv := rfl
  rw [e5, r5]
  rfl
end Go.Proofs.YtgjncgiekniniaaGreatDoor.A
end
section
set_option linter.unusedVariables false
set_option linter.unusedSimpArgs false
namespace Go.Proofs.YtgjncgiekniniaaGreatDoor.A
open Go
theorem divmod_search {b r : Nat} (hb : 0 < b) (hs : sz b + sz r ≤ 300000000) : ∀ (f lo hi : Nat), hi - lo ≤ f → lo ≤ hi → hi ≤ 9999 → b * lo ≤ r → r < b * (hi + 1) →
    Runs (fun rec x => z107.l2P (dg b) (dg r) rec some x) ((lo : Int), (hi : Int)) (((r / b : Nat) : Int), ((r / b : Nat) : Int))
  | 0, lo, hi, hf, hl, hh, h1, h2 => by
    have : lo = hi := by omega
    subst this
    have e : r / b = lo := Nat.div_eq_of_lt_le (by rw [Nat.mul_comm]; exact h1) (by rw [Nat.mul_comm]; exact h2)
    rw [e]
    refine .done fun rec => ?_
    unfold z107.l2P
    simp only
    rw [bif_f (by omega)]
  | f + 1, lo, hi, hf, hl, hh, h1, h2 => by
    by_cases h : lo < hi
    · have e1 : wr .i64 (Int.tdiv (wr .i64 (wr .i64 ((lo : Int) + (hi : Int)) + 1)) 2) = (((lo + hi + 1) / 2 : Nat) : Int) := by
        rw [wr_i64 (n := (lo : Int) + (hi : Int)) (by omega) (by omega), wr_i64 (n := (lo : Int) + (hi : Int) + 1) (by omega) (by omega), tdiv_ediv (by omega), wr_i64 (by omega) (by omega)]; omega
      obtain ⟨mid, hmid⟩ : ∃ mid, (lo + hi + 1) / 2 = mid := ⟨_, rfl⟩
      rw [hmid] at e1
      have sm : sz mid ≤ 4 := sz_le (by omega)
      have sbm := sz_mul b mid
      have l1 := dg_sz b
      have l2 := dg_sz mid
      have l3 := dg_sz (b * mid)
      have step : ∀ rec : (Int × Int) → Option (Int × Int), z107.l2P (dg b) (dg r) rec some ((lo : Int), (hi : Int)) = if b * mid ≤ r then rec ((mid : Int), (hi : Int)) else rec ((lo : Int), ((mid - 1 : Nat) : Int)) := fun rec => by
        unfold z107.l2P
        simp only
        rw [bif_t (by omega), e1, ref01_Small (by omega)]
        simp only [Option.bind_some]
        rw [ref01_Mul (by omega)]
        simp only [Option.bind_some]
        rw [ref01_Cmp (by omega)]
        simp only [Option.bind_some]
        by_cases hc : b * mid ≤ r
        · rw [if_pos hc, bif_t (by
            rcases Nat.lt_or_eq_of_le hc with h3 | h3
            · exact Int.le_of_lt (cmpI_lt0.2 (by exact_mod_cast h3))
            · exact Int.le_of_eq (cmpI_eq0.2 (by exact_mod_cast h3)))]
        · rw [if_neg hc, bif_f (by
            have := cmpI_gt0 (m := ((b * mid : Nat) : Int)) (n := (r : Int))
            have h4 := this.2 (by exact_mod_cast Nat.lt_of_not_le hc)
            omega), wr_i64 (n := (mid : Int) - 1) (by omega) (by omega)]
          congr 2; omega
      by_cases hc : b * mid ≤ r
      · refine .step (fun rec => ?_) (divmod_search hb hs f mid hi (by omega) (by omega) hh hc h2)
        rw [step, if_pos hc]
      · refine .step (fun rec => ?_) (divmod_search hb hs f lo (mid - 1) (by omega) (by omega) (by omega) h1 (by rw [show mid - 1 + 1 = mid by omega]; omega))
        rw [step, if_neg hc]
    · have : lo = hi := by omega
      subst this
      have e : r / b = lo := Nat.div_eq_of_lt_le (by rw [Nat.mul_comm]; exact h1) (by rw [Nat.mul_comm]; exact h2)
      rw [e]
      refine .done fun rec => ?_
      unfold z107.l2P
      simp only
      rw [bif_f (by omega)]
theorem drop_set_ge {s : List Int} {i : Nat} {x : Int} : (s.set i x).drop (i + 1) = s.drop (i + 1) := by
  apply List.ext_getElem?
  intro j
  rw [List.getElem?_drop, List.getElem?_drop, List.getElem?_set_ne (by omega)]
theorem divmod_loop {a : List Int} {b N : Nat} (ha : inB 10000 a) (hb : 0 < b) (hs : sz b ≤ 100000000) (hl : a.length ≤ 800000000) (hN : (N : Int) = valB 10000 a) :
    ∀ (k : Nat), k ≤ a.length → ∀ (m : Nat) (q : List Int), (m : Int) = valB 10000 (a.drop k) → q.length = a.length → inB 10000 q → valB 10000 (q.drop k) = ((m / b : Nat) : Int) →
      ∃ q', Runs (fun rec x => z107.l0aP a (dg b) rec some x) (dg (m % b), (k : Int) - 1, q) (dg (N % b), (-1 : Int), q') ∧ q'.length = a.length ∧ inB 10000 q' ∧ valB 10000 q' = ((N / b : Nat) : Int)
  | 0, hk, m, q, hm, hq, hi, hv => by
    have : m = N := by rw [List.drop_zero] at hm; omega
    subst this
    refine ⟨q, .done fun rec => ?_, hq, hi, by rwa [List.drop_zero] at hv⟩
    unfold z107.l0aP
    simp only
    rw [bif_f (by omega)]; rfl
  | k + 1, hk, m, q, hm, hq, hi, hv => by
    have hka : k < a.length := by omega
    have hkq : k < q.length := by omega
    have hd := getD_in (B := 10000) (by decide) ha k
    obtain ⟨d, hd'⟩ : ∃ d : Nat, a.getD k 0 = (d : Int) := ⟨(a.getD k 0).toNat, by omega⟩
    have hd2 : d < 10000 := by omega
    obtain ⟨r, hr⟩ : ∃ r, m % b = r := ⟨_, rfl⟩
    have hrb : r < b := hr ▸ Nat.mod_lt m hb
    obtain ⟨x, hx⟩ : ∃ x, d + 10000 * r = x := ⟨_, rfl⟩
    have hxb : x < b * 10000 := by omega
    have sx : sz x ≤ sz b + 4 := sz_le (by
      have h1 := sz_lt b
      rw [Nat.pow_add]
      exact Nat.lt_of_lt_of_le hxb (Nat.mul_le_mul_right _ (Nat.le_of_lt h1)))
    have sr : sz r ≤ sz b := sz_mono (by omega)
    have l1 := dg_sz x
    have l2 := dg_sz r
    have l3 := dg_sz b
    obtain ⟨z, hz⟩ : ∃ z, x / b = z := ⟨_, rfl⟩
    obtain ⟨w, hw⟩ : ∃ w, x % b = w := ⟨_, rfl⟩
    obtain ⟨y, hy⟩ : ∃ y, m / b = y := ⟨_, rfl⟩
    have hq1 : z < 10000 := hz ▸ Nat.div_lt_of_lt_mul hxb
    have hdm : b * z + w = x := by rw [← hz, ← hw]; exact Nat.div_add_mod x b
    have hmm : b * y + r = m := by rw [← hy, ← hr]; exact Nat.div_add_mod m b
    have hm' : ((d + 10000 * m : Nat) : Int) = valB 10000 (a.drop k) := by rw [valB_drop, hd', ← hm]; omega
    have e : d + 10000 * m = x + b * (10000 * y) := by
      have h4 : b * (10000 * y) = 10000 * (b * y) := by rw [← Nat.mul_assoc, Nat.mul_comm b 10000, Nat.mul_assoc]
      omega
    have hdiv : (d + 10000 * m) / b = z + 10000 * y := by rw [e, Nat.add_mul_div_left _ _ hb, hz]
    have hmod : (d + 10000 * m) % b = w := by rw [e, Nat.add_mul_mod_self_left, hw]
    have hvq : valB 10000 ((q.set k (z : Int)).drop k) = (((d + 10000 * m) / b : Nat) : Int) := by
      rw [valB_drop, drop_set_ge, hv, hdiv, hy]
      have : (q.set k (z : Int)).getD k 0 = (z : Int) := by simp [List.getD, hkq]
      rw [this]; omega
    obtain ⟨q', r1, r2, r3, r4⟩ := divmod_loop ha hb hs hl hN k (by omega) (d + 10000 * m) (q.set k (z : Int)) hm' (by simp [hq]) (inB_set hi (by show (0 : Int) ≤ (z : Int) ∧ (z : Int) < 10000; omega)) hvq
    rw [hmod] at r1
    refine ⟨q', .step (fun rec => ?_) r1, r2, r3, r4⟩
    have hsr := divmod_search (b := b) (r := x) hb (by omega) 9999 0 9999 (by omega) (by omega) (by omega) (by omega) (by omega)
    have es : z107.l2 (dg b) (dg x) ((0 : Int), (9999 : Int)) = some (((x / b : Nat) : Int), ((x / b : Nat) : Int)) := hsr.lfp
    rw [hz] at es
    have et : z15.F ([(d : Int)] ++ dg r) = some (dg x) := by
      rw [ref01_Trim (inB_append.2 ⟨inB_cons.2 ⟨by omega, inB_nil _⟩, toB_in b4 r⟩) (by show ([(d : Int)] ++ dg r).length ≤ 1000000000; rw [List.length_append, List.length_singleton]; omega)]
      have : valB 10000 ([(d : Int)] ++ dg r) = (x : Int) := by
        show (d : Int) + ((10000 : Nat) : Int) * valB 10000 (dg r) = x
        rw [valB_toB b4]; omega
      rw [this]; rfl
    have szz : sz z ≤ 4 := sz_le (by omega)
    have l4 := dg_sz z
    have l5 := dg_sz (b * z)
    have sbz := sz_mul b z
    have ek : ((k + 1 : Nat) : Int) - 1 = (k : Int) := by omega
    unfold z107.l0aP
    simp only
    rw [ek, bif_t (by omega), if_pos (by omega), Int.toNat_natCast, hd', hr, if_pos (by rw [List.length_singleton]; omega), et]
    simp only [Option.bind_some]
    rw [es]
    simp only [Option.bind_some]
    rw [if_pos (by omega), if_pos hkq, ref01_Small (by omega)]
    simp only [Option.bind_some]
    rw [ref01_Mul (by omega)]
    simp only [Option.bind_some]
    rw [ref01_Sub (by omega) (by omega)]
    simp only [Option.bind_some]
    rw [wr_i64 (by omega) (by omega), show x - b * z = w by omega]
theorem ref01_DivMod {a b : Nat} (hb : 0 < b) (ha : sz a ≤ 700000000) (hs : sz b ≤ 100000000) : z107.F (dg a) (dg b) = some (dg (a / b), dg (a % b)) := by
  have l1 := dg_sz a
  obtain ⟨q', r1, r2, r3, r4⟩ := divmod_loop (a := dg a) (b := b) (N := a) (toB_in b4 a) hb hs (by omega) (by rw [valB_toB b4]) (dg a).length (Nat.le_refl _) 0 (List.replicate (dg a).length 0) (by rw [List.drop_length]; rfl) (by simp) (inB_replicate (by decide) _) (by rw [List.drop_eq_nil_of_le (by simp)]; simp [valB])
  rw [Nat.zero_mod, dg_zero] at r1
  have e : z107.l0a (dg a) (dg b) ([], ((dg a).length : Int) - 1, List.replicate (dg a).length 0) = some (dg (a % b), (-1 : Int), q') := r1.lfp
  unfold z107.F
  rw [if_pos (by omega), Int.toNat_natCast, wr_i64 (by omega) (by omega), e]
  simp only [Option.bind_some]
  rw [ref01_Trim r3 (by show List.length _ ≤ _; omega), r4]
  rfl
theorem ref02_Gcd {a b : Nat} (ha : sz a ≤ 100000000) (hb : sz b ≤ 100000000) : z108.F (dg a) (dg b) = some (dg (Nat.gcd a b)) := by
  have key : ∀ (f a b : Nat), b < f → sz a ≤ 100000000 → sz b ≤ 100000000 → Runs (fun rec x => z108.l0P rec some x) (dg a, dg b) (dg (Nat.gcd a b), []) := by
    intro f
    induction f with
    | zero => intro a b h; omega
    | succ f ih =>
      intro a b h ha hb
      rcases Nat.eq_zero_or_pos b with h0 | h0
      · subst h0
        refine .done fun rec => ?_
        unfold z108.l0P
        simp only
        rw [bif_f (by rw [dg_zero]; simp), Nat.gcd_zero_right, dg_zero]
      · have hm := Nat.mod_lt a h0
        have e : Nat.gcd a b = Nat.gcd b (a % b) := by rw [Nat.gcd_comm, Nat.gcd_rec, Nat.gcd_comm]
        have hsm : sz (a % b) ≤ sz b := sz_mono (by omega)
        rw [e]
        refine .step (fun rec => ?_) (ih b (a % b) (by omega) hb (by omega))
        unfold z108.l0P
        simp only
        rw [bif_t ((dg_lenp b).2 h0), ref01_DivMod h0 (by omega) hb]
        rfl
  unfold z108.F
  have e : z108.l0 (dg a, dg b) = some (dg (Nat.gcd a b), []) := (key (b + 1) a b (by omega) ha hb).lfp
  rw [e]; rfl
abbrev rf (q : Rat) : List Int × Bool × List Int := (dg q.num.natAbs, neg q.num, dg q.den)
theorem ref05_Make {num : Int} {den : Nat} (h0 : 0 < den) (hn : sz num.natAbs ≤ 100000000) (hd : sz den ≤ 100000000) : z109.F (dg num.natAbs) (neg num) (dg den) = some (rf (mkRat num den)) := by
  have hg : 0 < Nat.gcd num.natAbs den := Nat.gcd_pos_of_pos_right _ h0
  have hgs : sz (Nat.gcd num.natAbs den) ≤ sz den := sz_mono (Nat.gcd_le_right _ h0)
  obtain ⟨q1, q2⟩ := abs_ediv (Nat.gcd_dvd_left num.natAbs den) hg
  unfold z109.F
  rw [ref02_Gcd hn hd]
  simp only [Option.bind_some]
  show _ = some (dg (mkRat num den).num.natAbs, neg (mkRat num den).num, dg (mkRat num den).den)
  rw [Rat.num_mkRat, Rat.den_mkRat, if_neg (by omega), if_neg (by omega), Nat.gcd_comm den]
  generalize Nat.gcd num.natAbs den = g at *
  rw [ref01_DivMod hg (by omega) (by omega)]
  simp only [Option.bind_some]
  rw [ref01_DivMod hg (by omega) (by omega)]
  simp only [Option.bind_some]
  rw [of_at (z := num / (g : Int)) q1.symm (by
    have hz : num / (g : Int) < 0 ↔ num < 0 := q2
    by_cases h : num < 0
    · exact .inl ⟨decide_eq_true h, by omega⟩
    · exact .inr ⟨decide_eq_false h, by omega⟩)]
  rfl
theorem ref05_Of {num den : Int} (h0 : den ≠ 0) (hn : sz num.natAbs ≤ 100000000) (hd : sz den.natAbs ≤ 100000000) : z110.F (dg num.natAbs) (neg num) (dg den.natAbs) (neg den) = some (rf (Rat.divInt num den)) := by
  unfold z110.F
  by_cases h : den < 0
  · have e : Rat.divInt num den = mkRat (-num) den.natAbs := by
      have : den = -((den.natAbs : Nat) : Int) := by omega
      conv => lhs; rw [this]
      rw [Rat.divInt_neg', Rat.divInt_ofNat]
    rw [bif_t h, ref04_Neg]
    simp only [Option.bind_some]
    rw [ref05_Make (by omega) (by rw [Int.natAbs_neg]; exact hn) hd, e]
    rfl
  · have e : Rat.divInt num den = mkRat num den.natAbs := by
      have : den = ((den.natAbs : Nat) : Int) := by omega
      conv => lhs; rw [this]
      rw [Rat.divInt_ofNat]
    rw [bif_f h, ref05_Make (by omega) hn hd, e]
    rfl
theorem ref05_Small {a b : Int} (ha : -9223372036854775808 < a ∧ a < 9223372036854775808) (hb : -9223372036854775808 < b ∧ b < 9223372036854775808) (h0 : b ≠ 0) : z111.F a b = some (rf (Rat.divInt a b)) := by
  have s1 : sz a.natAbs ≤ 20 := sz_le (by omega)
  have s2 : sz b.natAbs ≤ 20 := sz_le (by omega)
  unfold z111.F
  rw [ref04_From ha]
  simp only [Option.bind_some]
  rw [ref04_From hb]
  simp only [Option.bind_some]
  rw [ref05_Of h0 (by omega) (by omega)]
  rfl
theorem ref05_cross {q r : Rat} (hs : sz q.num.natAbs + sz r.den ≤ 800000000) (a : List Int) (b : List Int) (c : Bool) : z114.F (dg q.num.natAbs) (neg q.num) a b c (dg r.den) = some (dg (q.num * r.den).natAbs, neg (q.num * r.den)) := by
  have l1 := dg_sz q.num.natAbs
  have l2 := dg_sz r.den
  have l3 : (dg (r.den : Int).natAbs).length = (dg r.den).length := rfl
  unfold z114.F
  rw [of_at (z := (r.den : Int)) (n := r.den) (by omega) (.inr ⟨rfl, by omega⟩)]
  simp only [Option.bind_some]
  rw [ref04_Mul (by omega)]
  rfl
theorem ref05_Cmp {q r : Rat} (hs : sz q.num.natAbs + sz r.den ≤ 300000000) (hs' : sz r.num.natAbs + sz q.den ≤ 300000000) : z115.F (rf q).1 (rf q).2.1 (rf q).2.2 (rf r).1 (rf r).2.1 (rf r).2.2 = some (cmpI (q.num * r.den) (r.num * q.den)) := by
  have m1 := sz_mul q.num.natAbs (r.den : Int).natAbs
  have m2 := sz_mul r.num.natAbs (q.den : Int).natAbs
  rw [← Int.natAbs_mul] at m1 m2
  have e1 : sz (r.den : Int).natAbs = sz r.den := rfl
  have e2 : sz (q.den : Int).natAbs = sz q.den := rfl
  have l1 := dg_sz (q.num * r.den).natAbs
  have l2 := dg_sz (r.num * q.den).natAbs
  unfold z115.F
  rw [ref05_cross (by omega)]
  simp only [Option.bind_some]
  rw [ref05_cross (by omega)]
  simp only [Option.bind_some]
  rw [ref04_Cmp (by omega)]
  rfl
theorem ref05_Quo {q r : Rat} (h0 : r ≠ 0) (hs : sz q.num.natAbs + sz r.den ≤ 90000000) (hs' : sz r.num.natAbs + sz q.den ≤ 90000000) : z116.F (rf q).1 (rf q).2.1 (rf q).2.2 (rf r).1 (rf r).2.1 (rf r).2.2 = some (rf (q / r)) := by
  have m1 := sz_mul q.num.natAbs (r.den : Int).natAbs
  have m2 := sz_mul r.num.natAbs (q.den : Int).natAbs
  rw [← Int.natAbs_mul] at m1 m2
  have e1 : sz (r.den : Int).natAbs = sz r.den := rfl
  have e2 : sz (q.den : Int).natAbs = sz q.den := rfl
  have l1 := dg_sz r.num.natAbs
  have l2 := dg_sz (q.den : Int).natAbs
  have hr : r.num ≠ 0 := fun h => h0 (Rat.num_eq_zero.1 h)
  have hqd := q.den_nz
  unfold z116.F
  rw [ref05_cross (by omega)]
  simp only [Option.bind_some]
  rw [of_at (z := (q.den : Int)) (n := q.den) (by omega) (.inr ⟨rfl, by omega⟩)]
  simp only [Option.bind_some]
  rw [ref04_Mul (by omega)]
  simp only [Option.bind_some]
  rw [ref05_Of (Int.mul_ne_zero hr (by omega)) (by omega) (by omega), rat_div, Int.mul_comm (q.den : Int)]
  rfl
end Go.Proofs.YtgjncgiekniniaaGreatDoor.A
end
section
set_option linter.unusedVariables false
set_option linter.unusedSimpArgs false
namespace Go.Proofs.YtgjncgiekniniaaGreatDoor.A
open Go
theorem getD_idx {s : List UInt8} {i : Nat} (h : i < s.length) : s.getD i 0 = s[i] := by simp [List.getD, h]
theorem text_loop {s : List UInt8} (hs : s.length ≤ 1000000000) : ∀ (f i : Nat), i + f = s.length →
    ∃ o, Runs (fun rec x => z95.l0b4P s rec some x) (i : Int) o ∧ (match o with | .inl _ => true | .inr q => q) = digs (s.drop i)
  | 0, i, hf => by
    refine ⟨.inl (i : Int), .done fun rec => ?_, ?_⟩
    · unfold z95.l0b4P
      rw [bif_f (by omega)]
    · rw [List.drop_eq_nil_of_le (by omega)]; rfl
  | f + 1, i, hf => by
    have hi : i < s.length := by omega
    rw [List.drop_eq_getElem_cons hi]
    have e : digs (s[i] :: s.drop (i + 1)) = (isD s[i] && digs (s.drop (i + 1))) := rfl
    rw [e]
    by_cases h1 : (s[i].toNat : Int) < 48
    · refine ⟨.inr false, .done fun rec => ?_, ?_⟩
      · unfold z95.l0b4P
        rw [bif_t (by omega), if_pos (by omega), Int.toNat_natCast, getD_idx hi, bif_t h1]
      · have : isD s[i] = false := by unfold isD; rw [decide_eq_false (show ¬ 48 ≤ s[i].toNat by omega)]; rfl
        rw [this]; rfl
    · by_cases h2 : (s[i].toNat : Int) > 57
      · refine ⟨.inr false, .done fun rec => ?_, ?_⟩
        · unfold z95.l0b4P
          rw [bif_t (by omega), if_pos (by omega), Int.toNat_natCast, getD_idx hi, bif_f h1, if_pos (by omega), bif_t h2]
        · have : isD s[i] = false := by unfold isD; rw [decide_eq_false (show ¬ s[i].toNat ≤ 57 by omega)]; simp
          rw [this]; rfl
      · obtain ⟨o, r, ho⟩ := text_loop hs f (i + 1) (by omega)
        refine ⟨o, .step (fun rec => ?_) r, ?_⟩
        · unfold z95.l0b4P
          rw [bif_t (by omega), if_pos (by omega), Int.toNat_natCast, getD_idx hi, bif_f h1, if_pos (by omega), bif_f h2, wr_i64 (by omega) (by omega)]
          rfl
        · have : isD s[i] = true := by unfold isD; rw [decide_eq_true (show 48 ≤ s[i].toNat by omega), decide_eq_true (show s[i].toNat ≤ 57 by omega)]; rfl
          rw [ho, this]; rfl
theorem ref03_Text {s : List UInt8} (hs : s.length ≤ 1000000000) : z95.F s = some (numOK s) := by
  obtain ⟨o, r, ho⟩ := text_loop hs s.length 0 (by omega)
  have e : z95.l0b4 s 0 = some o := r.lfp
  rw [List.drop_zero] at ho
  unfold z95.F numOK
  rw [e]
  simp only [Option.bind_some]
  by_cases h0 : s = []
  · subst h0; rfl
  · have hpos := List.length_pos_iff.2 h0
    rw [bif_f (by omega), decide_eq_false h0]
    by_cases h1 : 1 < s.length
    · rw [bif_t (by omega), if_pos (by omega), decide_eq_true h1]
      by_cases h2 : (s.getD 0 0).toNat = 48
      · rw [bif_t (by omega), decide_eq_true h2]; simp
      · rw [bif_f (by omega), decide_eq_false h2]
        simp only [Bool.not_false, Bool.true_and, Bool.and_true, Bool.and_false]
        cases o with
        | inl z => exact congrArg some ho
        | inr q => exact congrArg some ho
    · rw [bif_f (by omega), decide_eq_false h1]
      simp only [Bool.not_false, Bool.true_and, Bool.and_true, Bool.false_and]
      cases o with
      | inl z => exact congrArg some ho
      | inr q => exact congrArg some ho
theorem tv_pos {s : List UInt8} (hs : digits s) {b : UInt8} {t : List UInt8} (e : s = b :: t) (hb : b.toNat ≠ 48) : 0 < tv 0 s := by
  subst e
  have h1 := hs b (by simp)
  unfold digit at h1
  have h2 := tv_bound (s := t) fun x hx => hs x (by simp [hx])
  have e : tv 0 (b :: t) = ((b.toNat : Int) - 48) * (10 ^ t.length : Nat) + tv 0 t := by
    show tv (10 * 0 + (b.toNat : Int) - 48) t = _
    rw [tv_acc]; simp
  have h3 : 0 < 10 ^ t.length := Nat.pow_pos (by decide)
  have h4 : 1 * ((10 ^ t.length : Nat) : Int) ≤ ((b.toNat : Int) - 48) * (10 ^ t.length : Nat) := Int.mul_le_mul_of_nonneg_right (by omega) (by omega)
  rw [e]; omega
theorem numOK_digits {s : List UInt8} (h : numOK s = true) : digits s ∧ s ≠ [] ∧ (1 < s.length → (s.getD 0 0).toNat ≠ 48) := by
  unfold numOK at h
  simp only [Bool.and_eq_true, Bool.not_eq_true', decide_eq_false_iff_not, Bool.and_eq_false_iff] at h
  exact ⟨digs_iff.1 h.1.2, h.1.1, fun h1 h2 => by rcases h.2 with h3 | h3 <;> omega⟩
theorem numOK_zero {s : List UInt8} (h : numOK s = true) : (tv 0 s).toNat = 0 ↔ s = [48] := by
  obtain ⟨h1, h2, h3⟩ := numOK_digits h
  constructor
  · intro h0
    cases s with
    | nil => exact absurd rfl h2
    | cons b t =>
      by_cases hb : b.toNat = 48
      · have : t = [] := by
          cases t with
          | nil => rfl
          | cons c t' => exact absurd hb (h3 (by simp))
        subst this
        rw [show b = 48 from UInt8.toNat_inj.1 hb]
      · have := tv_pos h1 rfl hb; omega
  · rintro rfl; rfl
abbrev wr4 (w : Int × Int) : List Int × Bool × Int := (dg w.1.natAbs, neg w.1, w.2)
theorem ref14_Whole (s : List UInt8) (hs : s.length ≤ 1000000) : z96.F s = some (wr4 (mWhole s)) := by
  have key : ∀ (plain : List UInt8) (below : Bool), plain.length ≤ s.length → cutNeg s = (plain, below) → (below = true → s.length = plain.length + 1 ∧ s.drop 1 = plain ∧ (s.getD 0 0).toNat = 45) → (below = false → s = plain) →
      z96.j3 plain (dg (Int.natAbs 0), neg 0) s = some (wr4 (mWhole s)) := fun plain below hp hc hb hb' => by
    have z0 : ∀ e : Int, some (dg (Int.natAbs 0), neg 0, e) = some (wr4 (0, e)) := fun e => rfl
    unfold z96.j3 mWhole
    rw [hc]
    simp only
    by_cases h1 : 4096 < plain.length
    · have hm : mDigits plain = (0, 7) := by unfold mDigits; rw [if_pos h1]
      rw [bif_t (by omega), hm, if_pos (by decide)]
    · rw [bif_f (by omega), ref03_Text (by omega)]
      simp only [Option.bind_some]
      cases hn : numOK plain with
      | false =>
        have hm : mDigits plain = (0, 5) := by unfold mDigits; rw [if_neg h1, hn]; rfl
        simp only [Bool.not_false, cond_true]
        rw [hm, if_pos (by decide)]
      | true =>
        obtain ⟨d1, d2, d3⟩ := numOK_digits hn
        have hm : mDigits plain = ((tv 0 plain).toNat, 0) := by unfold mDigits; rw [if_neg h1, hn]; rfl
        have hz := numOK_zero hn
        obtain ⟨v, hv⟩ : ∃ v : Nat, tv 0 plain = (v : Int) := ⟨_, (Int.toNat_of_nonneg (tv_bound d1).1).symm⟩
        rw [hv, Int.toNat_natCast] at hm hz
        simp only [Bool.not_true, cond_false]
        rw [hm, if_neg (by simp)]
        simp only
        have hread : z94.F s = some (dg v, (below && decide (0 < v))) := by
          unfold z94.F
          have hpos := List.length_pos_iff.2 d2
          rw [if_pos (by omega)]
          cases below with
          | true =>
            obtain ⟨g1, g2, g3⟩ := hb rfl
            rw [bif_t (by omega), if_pos (by omega), g2, ref01_Read d1 (by omega), hv]
            simp only [Option.bind_some]
            rw [ref04_Of]; rfl
          | false =>
            have g := hb' rfl
            have hne : ¬ (((s.getD 0 0).toNat : Int) = 45) := by
              rw [g, getD_idx hpos]
              have := d1 plain[0] (List.getElem_mem hpos)
              unfold digit at this; omega
            rw [bif_f hne, g, ref01_Read d1 (by omega), hv]
            simp only [Option.bind_some]
            rw [ref04_Of]; rfl
        by_cases h48 : plain = [48]
        · have h0 := hz.2 h48
          rw [bif_t h48]
          cases below with
          | true =>
            obtain ⟨g1, g2, g3⟩ := hb rfl
            rw [bif_t (by rw [h48] at g1; simp at g1; omega), h0]
            rfl
          | false =>
            have g := hb' rfl
            rw [bif_f (by rw [g, h48]; simp), hread, h0]
            rfl
        · have h0 : v ≠ 0 := fun hh => h48 (hz.1 hh)
          rw [bif_f h48, hread]
          simp only [Option.bind_some]
          have e : (below && decide (v = 0)) = false := by rw [decide_eq_false h0, Bool.and_false]
          rw [e]
          simp only [Bool.false_eq_true, if_false]
          cases below with
          | true =>
            have e1 : (true && decide (0 < v)) = neg (-(v : Int)) := by rw [Bool.true_and]; exact decide_eq_decide.2 (by omega)
            rw [e1]
            show _ = some (dg (-(v : Int)).natAbs, neg (-(v : Int)), 0)
            rw [Int.natAbs_neg]; rfl
          | false =>
            have e1 : (false && decide (0 < v)) = neg (v : Int) := by rw [Bool.false_and]; symm; exact decide_eq_false (by omega)
            rw [e1]; rfl
  unfold z96.F
  rw [ref04_From (by omega)]
  simp only [Option.bind_some]
  cases s with
  | nil =>
    rw [bif_f (by simp)]
    exact key [] false (by simp) rfl (fun h => by simp at h) (fun _ => rfl)
  | cons b t =>
    rw [bif_t (by simp), if_pos (by simp)]
    by_cases h : b = 45
    · subst h
      rw [bif_t (by rfl), if_pos (by simp; omega)]
      exact key t true (by simp) rfl (fun _ => ⟨by simp, rfl, rfl⟩) (fun h => by simp at h)
    · have hb : ¬ ((((b :: t).getD 0 0).toNat : Int) = 45) := fun hh => h (UInt8.toNat_inj.1 (by have e : (b :: t).getD 0 0 = b := rfl; rw [e] at hh; show b.toNat = 45; omega))
      rw [bif_f hb]
      exact key (b :: t) false (by simp) (by unfold cutNeg; simp [h]) (fun h => by simp at h) (fun _ => rfl)
theorem ten_loop (t : Nat) (ht : t ≤ 1000000) : ∀ (f i : Nat), i + f = t → Runs (fun rec x => z97.l0P (t : Int) rec some x) ((49 : UInt8) :: List.replicate i 48, (i : Int)) ((49 : UInt8) :: List.replicate t 48, (t : Int))
  | 0, i, hf => by
    have : i = t := by omega
    subst this
    refine .done fun rec => ?_
    unfold z97.l0P
    simp only
    rw [bif_f (by omega)]
  | f + 1, i, hf => by
    refine .step (fun rec => ?_) (ten_loop t ht f (i + 1) (by omega))
    unfold z97.l0P
    simp only
    rw [bif_t (by omega), if_pos (by simp; omega), wr_i64 (by omega) (by omega), List.replicate_succ']
    rfl
theorem tv_ten : ∀ (t : Nat) (a : Int), tv a (List.replicate t 48) = a * (10 ^ t : Nat)
  | 0, a => by simp [tv]
  | t + 1, a => by
    rw [List.replicate_succ]
    show tv (10 * a + ((48 : UInt8).toNat : Int) - 48) (List.replicate t 48) = _
    rw [tv_ten t, Nat.pow_succ, Int.natCast_mul]
    have : ((48 : UInt8).toNat : Int) = 48 := rfl
    rw [this]
    generalize ((10 ^ t : Nat) : Int) = p
    grind
theorem ref03_Ten {t : Nat} (ht : t ≤ 1000000) : z97.F (t : Int) = some (dg (10 ^ t)) := by
  have e : z97.l0 (t : Int) ([49], (0 : Int)) = some ((49 : UInt8) :: List.replicate t 48, (t : Int)) := (ten_loop t ht t 0 (by omega)).lfp
  have hd : digits ((49 : UInt8) :: List.replicate t 48) := fun b hb => by
    rcases List.mem_cons.1 hb with h | h
    · subst h; unfold digit; decide
    · rw [List.eq_of_mem_replicate h]; unfold digit; decide
  have hv : tv 0 ((49 : UInt8) :: List.replicate t 48) = ((10 ^ t : Nat) : Int) := by
    show tv 1 (List.replicate t 48) = _
    rw [tv_ten]; simp
  unfold z97.F
  rw [e]
  simp only [Option.bind_some]
  rw [ref01_Read hd (by simp; omega), hv]
  rfl
theorem ref14_Money (s : List UInt8) (hs : s.length ≤ 1000000) : z106.F s = some (wr4 (mMoney s)) := by
  have hz := mWhole_sz s
  unfold z106.F mMoney
  rw [ref04_From (by omega)]
  simp only [Option.bind_some]
  rw [ref14_Whole s hs]
  simp only [Option.bind_some, wr4]
  generalize mWhole s = w at *
  by_cases h : w.2 = 0
  · rw [decide_eq_true h, if_neg (by omega)]
    simp only [Bool.not_true, cond_false]
    have h30 := ref03_Ten (t := 30) (by decide)
    rw [show ((30 : Nat) : Int) = 30 from rfl] at h30
    rw [h30]
    simp only [Option.bind_some]
    rw [of_at (z := 10 ^ 30) (by decide) (.inr ⟨rfl, by decide⟩)]
    simp only [Option.bind_some]
    have l1 := dg_sz w.1.natAbs
    have l2 : (dg (Int.natAbs (10 ^ 30))).length ≤ 31 := Nat.le_trans (dg_sz _) (sz_le (by decide))
    rw [ref04_Cmp (by omega)]
    simp only [Option.bind_some]
    by_cases h1 : w.1 < 0
    · rw [bif_t h1, if_pos (.inl h1)]
    · rw [bif_f h1]
      by_cases h2 : 10 ^ 30 < w.1
      · rw [bif_t (cmpI_gt0.2 h2), if_pos (.inr h2)]
      · rw [bif_f (fun h => h2 (cmpI_gt0.1 h)), if_neg (by omega)]
  · rw [decide_eq_false h, if_pos h]; rfl
end Go.Proofs.YtgjncgiekniniaaGreatDoor.A
end
section
set_option linter.unusedVariables false
set_option linter.unusedSimpArgs false
namespace Go.Proofs.YtgjncgiekniniaaGreatDoor.A
open Go
def scan : List UInt8 → List UInt8 → Int → Int → Bool → Option (List UInt8 × Int × Int × Bool)
  | [], all, ah, bh, z => some (all, ah, bh, z)
  | b :: t, all, ah, bh, z =>
    if b.toNat = 46 ∧ bh < 0 then scan t all ah 0 z
    else if isD b = false then none
    else if bh < 0 then scan t (all ++ [b]) (ah + 1) bh (z && decide (b.toNat = 48))
    else scan t (all ++ [b]) ah (bh + 1) (z && decide (b.toNat = 48))
def scanned (n : Int) : Option (List UInt8 × Int × Int × Bool) → (Int × List UInt8 × Int × Int × Bool) ⊕ Int
  | none => .inr 5
  | some r => .inl (n, r.1, r.2.1, r.2.2.1, r.2.2.2)
theorem scan_tail {s : List UInt8} (hs : s.length ≤ 1000000) {i : Nat} (hi : i < s.length) (all : List UInt8) (ha : all.length ≤ 1000000) (z : Bool) (x y : Int) {R : Type} (rec : (Int × List UInt8 × Int × Int × Bool) → Option R) (done : ((Int × List UInt8 × Int × Int × Bool) ⊕ Int) → Option R) :
    z112.j11016a rec done z (i : Int) s all x y = rec (((i + 1 : Nat) : Int), all ++ [s[i]], x, y, (z && decide (s[i].toNat = 48))) := by
  have e1 : wr .i64 ((i : Int) + 1) = ((i + 1 : Nat) : Int) := by rw [wr_i64 (by omega) (by omega)]; rfl
  have e2 : (s.drop i).take (i + 1 - i) = [s[i]] := by
    rw [show i + 1 - i = 1 by omega, List.drop_eq_getElem_cons hi]; rfl
  have e3 : decide ((s[i].toNat : Int) = 48) = decide (s[i].toNat = 48) := decide_eq_decide.2 (by omega)
  unfold z112.j11016a
  simp only [e1, Int.toNat_natCast, e2, getD_idx hi, e3]
  cases z with
  | true => simp only [cond_true, Bool.true_and]; rw [if_pos (by omega), if_pos (by omega), if_pos (by simp; omega)]
  | false => simp only [cond_false, Bool.false_and]; rw [if_pos (by omega), if_pos (by simp; omega)]
theorem parse7_loop {s : List UInt8} (hs : s.length ≤ 1000000) : ∀ (f i : Nat) (all : List UInt8) (ah bh : Int) (z : Bool), i + f = s.length → all.length ≤ i → (0 ≤ ah ∧ ah ≤ i) → (-1 ≤ bh ∧ bh ≤ i) →
    Runs (fun rec x => z112.l0b10P s rec some x) ((i : Int), all, ah, bh, z) (scanned (s.length : Int) (scan (s.drop i) all ah bh z))
  | 0, i, all, ah, bh, z, hf, _, _, _ => by
    refine .done fun rec => ?_
    unfold z112.l0b10P
    simp only
    rw [bif_f (by omega), List.drop_eq_nil_of_le (by omega), show (i : Int) = (s.length : Int) by omega]; rfl
  | f + 1, i, all, ah, bh, z, hf, ha, hah, hbh => by
    have hi : i < s.length := by omega
    have c1 : (0 : Int) ≤ (i : Int) ∧ (i : Int) < (s.length : Int) := by omega
    have e1 : wr .i64 ((i : Int) + 1) = ((i + 1 : Nat) : Int) := by rw [wr_i64 (by omega) (by omega)]; rfl
    rw [List.drop_eq_getElem_cons hi]
    by_cases hdot : s[i].toNat = 46 ∧ bh < 0
    · have ih := parse7_loop hs f (i + 1) all ah 0 z (by omega) (by omega) (by omega) (by omega)
      have es : scan (s[i] :: s.drop (i + 1)) all ah bh z = scan (s.drop (i + 1)) all ah 0 z := by rw [scan]; rw [if_pos hdot]
      rw [es]
      refine .step (fun rec => ?_) ih
      unfold z112.l0b10P
      simp only
      rw [bif_t (by omega), if_pos c1, Int.toNat_natCast, getD_idx hi, bif_t (by omega), bif_t hdot.2, e1]
    · by_cases hd : isD s[i] = true
      · have hd' : 48 ≤ s[i].toNat ∧ s[i].toNat ≤ 57 := by unfold isD at hd; simpa using hd
        have hnd : ¬ ((s[i].toNat : Int) = 46) := by omega
        by_cases hb : bh < 0
        · have ih := parse7_loop hs f (i + 1) (all ++ [s[i]]) (ah + 1) bh (z && decide (s[i].toNat = 48)) (by omega) (by simp; omega) (by omega) (by omega)
          have es : scan (s[i] :: s.drop (i + 1)) all ah bh z = scan (s.drop (i + 1)) (all ++ [s[i]]) (ah + 1) bh (z && decide (s[i].toNat = 48)) := by rw [scan]; rw [if_neg hdot, if_neg (by rw [hd]; simp), if_pos hb]
          rw [es]
          refine .step (fun rec => ?_) ih
          unfold z112.l0b10P
          simp only
          rw [bif_t (by omega), if_pos c1, Int.toNat_natCast, getD_idx hi, bif_f hnd, if_pos c1, bif_f (by omega), if_pos c1, bif_f (by omega), bif_t hb, wr_i64 (n := ah + 1) (by omega) (by omega)]
          exact scan_tail hs hi all (by omega) z _ _ rec some
        · have ih := parse7_loop hs f (i + 1) (all ++ [s[i]]) ah (bh + 1) (z && decide (s[i].toNat = 48)) (by omega) (by simp; omega) (by omega) (by omega)
          have es : scan (s[i] :: s.drop (i + 1)) all ah bh z = scan (s.drop (i + 1)) (all ++ [s[i]]) ah (bh + 1) (z && decide (s[i].toNat = 48)) := by rw [scan]; rw [if_neg hdot, if_neg (by rw [hd]; simp), if_neg hb]
          rw [es]
          refine .step (fun rec => ?_) ih
          unfold z112.l0b10P
          simp only
          rw [bif_t (by omega), if_pos c1, Int.toNat_natCast, getD_idx hi, bif_f hnd, if_pos c1, bif_f (by omega), if_pos c1, bif_f (by omega), bif_f hb, wr_i64 (n := bh + 1) (by omega) (by omega)]
          exact scan_tail hs hi all (by omega) z _ _ rec some
      · have hd2 : isD s[i] = false := by simpa using hd
        have hd' : s[i].toNat < 48 ∨ 57 < s[i].toNat := by
          unfold isD at hd2
          simp at hd2
          omega
        have es : scan (s[i] :: s.drop (i + 1)) all ah bh z = none := by rw [scan]; rw [if_neg hdot, if_pos hd2]
        rw [es]
        refine .done fun rec => ?_
        unfold z112.l0b10P
        simp only
        rw [bif_t (by omega), if_pos c1, Int.toNat_natCast, getD_idx hi]
        by_cases h46 : (s[i].toNat : Int) = 46
        · rw [bif_t h46, bif_f (by omega), if_pos c1, bif_t (by omega)]; rfl
        · rw [bif_f h46, if_pos c1]
          by_cases h48 : (s[i].toNat : Int) < 48
          · rw [bif_t h48]; rfl
          · rw [bif_f h48, if_pos c1, bif_t (by omega)]; rfl
theorem zeros_cons (b : UInt8) (t : List UInt8) : zeros (b :: t) = (decide (b.toNat = 48) && zeros t) := by
  show ((b == 48) && zeros t) = _
  rw [beq_u8]; rfl
theorem scan_behind : ∀ (t all : List UInt8) (ah bh : Int) (z : Bool), 0 ≤ bh → scan t all ah bh z = if digs t then some (all ++ t, ah, bh + t.length, z && zeros t) else none
  | [], all, ah, bh, z, h => by simp [scan, digs, zeros]
  | b :: t, all, ah, bh, z, h => by
    have e : digs (b :: t) = (isD b && digs t) := rfl
    rw [scan, if_neg (by omega), e, zeros_cons]
    by_cases hd : isD b = true
    · rw [if_neg (by rw [hd]; simp), if_neg (by omega), scan_behind t _ _ _ _ (by omega), hd, Bool.true_and, Bool.and_assoc, List.append_assoc]
      congr 3
      simp; omega
    · have hd2 : isD b = false := by simpa using hd
      rw [if_pos hd2, hd2]; rfl
theorem scan_ahead : ∀ (t all : List UInt8) (ah : Int) (z : Bool), scan t all ah (-1) z =
    if digs (cutDot t).1 then (match (cutDot t).2 with
      | none => some (all ++ (cutDot t).1, ah + (cutDot t).1.length, (-1 : Int), z && zeros (cutDot t).1)
      | some b => if digs b then some (all ++ (cutDot t).1 ++ b, ah + (cutDot t).1.length, (b.length : Int), z && zeros (cutDot t).1 && zeros b) else none) else none
  | [], all, ah, z => by simp [scan, cutDot, digs, zeros]
  | b :: t, all, ah, z => by
    by_cases h46 : b = 46
    · subst h46
      rw [scan, if_pos ⟨rfl, by decide⟩, scan_behind _ _ _ _ _ (Int.le_refl 0)]
      have : cutDot (46 :: t) = ([], some t) := by rw [cutDot, if_pos rfl]
      rw [this]
      simp [digs, zeros]
    · have hc : cutDot (b :: t) = (b :: (cutDot t).1, (cutDot t).2) := by rw [cutDot, if_neg h46]
      have h46' : ¬ (b.toNat = 46 ∧ (-1 : Int) < 0) := fun hh => h46 (UInt8.toNat_inj.1 hh.1)
      have e : ∀ x, digs (b :: x) = (isD b && digs x) := fun x => rfl
      rw [scan, if_neg h46', hc, e]
      by_cases hd : isD b = true
      · rw [if_neg (by rw [hd]; simp), if_pos (by decide), scan_ahead t, hd, Bool.true_and]
        split
        · cases (cutDot t).2 with
          | none =>
            simp only [zeros_cons, List.append_assoc, List.singleton_append, Bool.and_assoc, List.length_cons]
            congr 3
            omega
          | some c =>
            simp only [zeros_cons, List.append_assoc, List.singleton_append, Bool.and_assoc, List.length_cons, List.cons_append]
            split
            · congr 3; omega
            · rfl
        · rfl
      · have hd2 : isD b = false := by simpa using hd
        rw [if_pos hd2, hd2]; rfl
abbrev decD (m : Int × Nat × Int) : List Int × Bool × Int × Int := (dg m.1.natAbs, neg m.1, (m.2.1 : Int), m.2.2)
theorem decD0 (e : Int) : decD (0, 0, e) = ([], false, 0, e) := by unfold decD; simp [dg_zero]
theorem ref07_j3 {s t : List UInt8} {below : Bool} {i : Nat} (hs : s.length ≤ 4096) (hi : i ≤ 1) (hil : i ≤ s.length) (ht : s.drop i = t) :
    z112.j3 s (i : Int) below = some (decD (decOf below (cutDot t).1 (cutDot t).2)) := by
  have r := parse7_loop (s := s) (by omega) (s.length - i) i [] 0 (-1) true (by omega) (by simp) (by omega) (by omega)
  have e : z112.l0b10 s ((i : Int), [], (0 : Int), (-1 : Int), true) = some (scanned (s.length : Int) (scan t [] 0 (-1) true)) := by rw [← ht]; exact r.lfp
  have htl : t.length ≤ 4096 := by rw [← ht, List.length_drop]; omega
  unfold z112.j3
  rw [e, scan_ahead]
  simp only [Option.bind_some, List.nil_append, Int.zero_add, Bool.true_and]
  have fin : ∀ (all : List UInt8) (n ah bh : Int) (z : Bool) (sc : Nat), digits all → all.length ≤ 4096 → (sc : Int) = max bh 0 →
      z112.j7 (n, all, ah, bh, z) below = some (decD (if 64 < bh then (0, 0, 10) else (if below then -tv 0 all else tv 0 all, sc, 0))) := fun all n ah bh z sc hd hl hsc => by
    unfold z112.j7
    simp only
    by_cases h64 : 64 < bh
    · rw [bif_t h64, if_pos h64, decD0]
    · obtain ⟨v, hv⟩ : ∃ v : Nat, tv 0 all = (v : Int) := ⟨_, (Int.toNat_of_nonneg (tv_bound hd).1).symm⟩
      rw [bif_f h64, if_neg h64, ref01_Read hd (by omega), hv]
      simp only [Option.bind_some, Int.toNat_natCast]
      have em : (if (0 : Int) > bh then (0 : Int) else bh) = (sc : Int) := by split <;> omega
      rw [em]
      cases below with
      | true => rw [of_at (z := -(v : Int)) (by omega) (.inl ⟨rfl, by omega⟩)]; rfl
      | false => rw [of_at (z := (v : Int)) (by omega) (.inr ⟨rfl, by omega⟩)]; rfl
  unfold decOf plainB
  cases hda : digs (cutDot t).1 with
  | false =>
    simp only [Bool.false_eq_true, if_false, Bool.and_false, Bool.not_false, Bool.true_or, if_true]
    rw [decD0]; rfl
  | true =>
    have hdd := digs_iff.1 hda
    simp only [if_true, Bool.and_true, Bool.not_not]
    cases ho : (cutDot t).2 with
    | none =>
      have hct := cutDot_none ho
      rw [hct] at hdd ⊢
      simp only [scanned, Option.isSome_none, Bool.false_and, Bool.or_false, Option.getD_none, List.append_nil, List.length_nil]
      by_cases h0 : t = []
      · subst h0
        rw [bif_t (p := ((([] : List UInt8).length : Nat) : Int) = 0) rfl, decide_eq_true (p := ([] : List UInt8) = []) rfl]
        simp only [Bool.true_or, if_true]
        rw [decD0]
      · have hpos := List.length_pos_iff.2 h0
        rw [bif_f (by omega), bif_f (by omega), decide_eq_false h0]
        simp only [Bool.false_or]
        have hfin := fin t (s.length : Int) (t.length : Int) (-1) (zeros t) 0 hdd htl (by omega)
        rw [if_neg (by decide)] at hfin
        have rest : (bif below then bif zeros t then some ([], false, 0, 5) else z112.j7 ((s.length : Int), t, (t.length : Int), -1, zeros t) below else z112.j7 ((s.length : Int), t, (t.length : Int), -1, zeros t) below) = some (decD (if (below && zeros t) = true then (0, 0, 5) else (if below then -tv 0 t else tv 0 t, 0, 0))) := by
          rw [hfin]
          cases below <;> cases zeros t <;> first | rfl | (simp only [cond_true, Bool.true_and, if_true]; rw [decD0])
        by_cases h1 : 1 < t.length
        · rw [bif_t (by omega), if_pos (by omega), decide_eq_true h1]
          by_cases h48 : (t.getD 0 0).toNat = 48
          · rw [bif_t (by omega), decide_eq_true h48]
            simp only [Bool.true_and, if_true]
            rw [decD0]
          · rw [bif_f (by omega), decide_eq_false h48]
            simp only [Bool.and_false, Bool.false_eq_true, if_false]
            exact rest
        · rw [bif_f (by omega), decide_eq_false h1]
          simp only [Bool.false_and, Bool.false_eq_true, if_false]
          exact rest
    | some b =>
      have hct := cutDot_some ho
      generalize (cutDot t).1 = a at *
      have hlen : t.length = a.length + (b.length + 1) := by rw [hct]; simp
      simp only [Option.isSome_some, Bool.true_and, Option.getD_some]
      cases hdb : digs b with
      | false =>
        simp only [scanned, Bool.false_eq_true, if_false, Bool.and_false, Bool.not_false, Bool.or_true, Bool.true_or, if_true]
        rw [decD0]
      | true =>
        have hdd2 := digs_iff.1 hdb
        simp only [scanned, if_true, Bool.and_true, Bool.not_not]
        have hdall : digits (a ++ b) := fun x hx => (List.mem_append.1 hx).elim (hdd x) (hdd2 x)
        by_cases h0 : a = []
        · subst h0
          rw [bif_t (p := ((([] : List UInt8).length : Nat) : Int) = 0) rfl, decide_eq_true (p := ([] : List UInt8) = []) rfl]
          simp only [Bool.true_or, if_true]
          rw [decD0]
        · have hpos := List.length_pos_iff.2 h0
          rw [bif_f (by omega), decide_eq_false h0]
          by_cases hb0 : b = []
          · subst hb0
            rw [bif_t (p := ((([] : List UInt8).length : Nat) : Int) = 0) rfl, decide_eq_true (p := ([] : List UInt8) = []) rfl]
            simp only [Bool.true_or, Bool.or_true, if_true]
            rw [decD0]
          · have hbpos := List.length_pos_iff.2 hb0
            rw [bif_f (by omega), decide_eq_false hb0]
            simp only [Bool.false_or]
            have hz : zeros (a ++ b) = (zeros a && zeros b) := by simp [zeros]
            have hg : (a ++ b).getD 0 0 = a.getD 0 0 := by
              rw [getD_idx (by simp; omega), getD_idx hpos, List.getElem_append_left hpos]
            have hfin := fin (a ++ b) (s.length : Int) (a.length : Int) (b.length : Int) (zeros a && zeros b) b.length hdall (by rw [List.length_append]; omega) (by omega)
            have e64 : (64 < (b.length : Int)) = (64 < b.length) := by apply propext; omega
            simp only [e64] at hfin
            have rest : (bif below then bif (zeros a && zeros b) then some ([], false, 0, 5) else z112.j7 ((s.length : Int), a ++ b, (a.length : Int), (b.length : Int), (zeros a && zeros b)) below else z112.j7 ((s.length : Int), a ++ b, (a.length : Int), (b.length : Int), (zeros a && zeros b)) below) = some (decD (if (below && zeros (a ++ b)) = true then (0, 0, 5) else if 64 < b.length then (0, 0, 10) else (if below then -tv 0 (a ++ b) else tv 0 (a ++ b), b.length, 0))) := by
              rw [hfin, hz]
              cases below <;> cases (zeros a && zeros b) <;> first | rfl | (simp only [cond_true, Bool.true_and, if_true]; rw [decD0])
            rw [hg]
            by_cases h1 : 1 < a.length
            · rw [bif_t (by omega), if_pos (by rw [List.length_append]; omega), decide_eq_true h1]
              by_cases h48 : (a.getD 0 0).toNat = 48
              · rw [bif_t (by omega), decide_eq_true h48]
                simp only [Bool.true_and, if_true]
                rw [decD0]
              · rw [bif_f (by omega), decide_eq_false h48]
                simp only [Bool.and_false, Bool.false_eq_true, if_false]
                exact rest
            · rw [bif_f (by omega), decide_eq_false h1]
              simp only [Bool.false_and, Bool.false_eq_true, if_false]
              exact rest
theorem ref07_Parse {s : List UInt8} (hs : s.length ≤ 4096) : z112.F s = some (decD (mDec s)) := by
  have h4 : ¬ 4096 < s.length := by omega
  unfold z112.F mDec
  rw [if_neg h4]
  cases s with
  | nil =>
    rw [bif_f (by simp)]
    exact ref07_j3 (s := []) (t := []) (below := false) (i := 0) (by simp) (by omega) (by simp) rfl
  | cons b t =>
    rw [bif_t (by simp), if_pos (by simp)]
    by_cases h : b = 45
    · subst h
      rw [bif_t (by rfl)]
      exact ref07_j3 (s := 45 :: t) (t := t) (below := true) (i := 1) hs (by omega) (by simp) rfl
    · have hb : ¬ ((((b :: t).getD 0 0).toNat : Int) = 45) := fun hh => h (UInt8.toNat_inj.1 (by have e : (b :: t).getD 0 0 = b := rfl; rw [e] at hh; show b.toNat = 45; omega))
      rw [bif_f hb]
      have hc : cutNeg (b :: t) = (b :: t, false) := by unfold cutNeg; simp [h]
      rw [hc]
      exact ref07_j3 (s := b :: t) (t := b :: t) (below := false) (i := 0) hs (by omega) (by simp) rfl
end Go.Proofs.YtgjncgiekniniaaGreatDoor.A
end
section
set_option linter.unusedVariables false
set_option linter.unusedSimpArgs false
namespace Go.Proofs.YtgjncgiekniniaaGreatDoor.A
open Go
theorem ref07_Frac {c : Int} {s : Nat} (hs : s ≤ 4096) (hc : sz c.natAbs ≤ 100000000) : z113.F (dg c.natAbs) (neg c) (s : Int) = some (rf (mkRat c (10 ^ s))) := by
  have hp : 0 < 10 ^ s := Nat.pow_pos (by decide)
  have l := sz_ten s
  unfold z113.F
  rw [ref03_Ten (by omega)]
  simp only [Option.bind_some]
  rw [ref05_Make hp hc (by omega)]
  rfl
theorem mkRat_gt {n : Int} {d : Nat} (hd : 0 < d) (k : Int) : k * (mkRat n d).den < (mkRat n d).num ↔ k * d < n := by
  have hg : 0 < Nat.gcd d n.natAbs := Nat.gcd_pos_of_pos_left _ hd
  have e1 : (mkRat n d).num * (Nat.gcd d n.natAbs : Nat) = n := by
    rw [Rat.num_mkRat, if_neg (by omega)]
    exact Int.ediv_mul_cancel (Int.ofNat_dvd_left.2 (Nat.gcd_dvd_right _ _))
  have e2 : ((mkRat n d).den : Int) * (Nat.gcd d n.natAbs : Nat) = d := by
    rw [Rat.den_mkRat, if_neg (by omega)]
    exact_mod_cast Nat.div_mul_cancel (Nat.gcd_dvd_left _ _)
  generalize Nat.gcd d n.natAbs = g at *
  have hg' : (0 : Int) < (g : Int) := by omega
  have e3 : k * (d : Int) = k * (mkRat n d).den * g := by rw [← e2, Int.mul_assoc]
  constructor
  · intro h
    have := Int.mul_lt_mul_of_pos_right h hg'
    rw [e1] at this
    rw [e3]; exact this
  · intro h
    refine Int.lt_of_mul_lt_mul_right ?_ (Int.le_of_lt hg')
    rw [e1, ← e3]; exact h
theorem divInt_one (n : Int) : Rat.divInt n 1 = (n : Rat) := by
  rw [show (1 : Int) = ((1 : Nat) : Int) from rfl, Rat.divInt_ofNat, Rat.mkRat_eq_div]
  have : (n : Rat) / ((1 : Nat) : Rat) = (n : Rat) := by
    rw [Rat.div_def]
    have : (((1 : Nat) : Rat))⁻¹ = 1 := by decide +kernel
    rw [this, Rat.mul_one]
  exact this
theorem ref14_Rate (s : List UInt8) : z117.F s = some ((rf (mRate s).1).1, (rf (mRate s).1).2.1, (rf (mRate s).1).2.2, (mRate s).2) := by
  have s0 : z111.F 0 1 = some (rf 0) := by
    rw [ref05_Small (by omega) (by omega) (by omega), divInt_one]; rfl
  have s1000 : z111.F 1000 1 = some (rf 1000) := by
    rw [ref05_Small (by omega) (by omega) (by omega), divInt_one]; rfl
  have s100 : z111.F 100 1 = some (rf 100) := by
    rw [ref05_Small (by omega) (by omega) (by omega), divInt_one]; rfl
  obtain ⟨hb1, hb2⟩ := mDec_bound s
  unfold z117.F mRate
  rw [s0]
  simp only [Option.bind_some]
  by_cases hl : 4096 < s.length
  · have hm : mDec s = (0, 0, 7) := by unfold mDec; rw [if_pos hl]
    rw [bif_t (by omega), hm, if_pos (by decide)]
  · rw [bif_f (by omega), ref07_Parse (by omega)]
    simp only [Option.bind_some, decD]
    generalize mDec s = d at *
    obtain ⟨c, sc, e⟩ := d
    simp only at *
    by_cases h : e = 0
    · rw [decide_eq_true h, if_neg (by omega)]
      simp only [Bool.not_true, cond_false]
      have hp0 : 0 < 10 ^ sc := Nat.pow_pos (by decide)
      have n1 := sz_mono (mkRat_num_le c hp0)
      have n2 := sz_mono (mkRat_den_le c hp0)
      have l := sz_ten sc
      have k1 : sz (Rat.num 1000).natAbs ≤ 4 := sz_le (by decide)
      have k2 : sz (Rat.den 1000) ≤ 1 := sz_le (by decide)
      have k3 : sz (Rat.num 100).natAbs ≤ 3 := sz_le (by decide)
      have k4 : sz (Rat.den 100) ≤ 1 := sz_le (by decide)
      rw [ref07_Frac (by omega) (by omega)]
      simp only [Option.bind_some]
      rw [s1000]
      simp only [Option.bind_some]
      have hcmp := ref05_Cmp (q := mkRat c (10 ^ sc)) (r := 1000) (by omega) (by omega)
      rw [hcmp]
      simp only [Option.bind_some]
      have hgt := mkRat_gt (n := c) hp0 1000
      have e1 : (mkRat c (10 ^ sc)).num * ((Rat.den 1000 : Nat) : Int) = (mkRat c (10 ^ sc)).num := by
        show _ * ((1 : Nat) : Int) = _
        simp
      have e2 : Rat.num 1000 = 1000 := rfl
      rw [e1, e2]
      by_cases h1 : c < 0
      · rw [bif_t h1, if_pos (.inl h1)]
      · rw [bif_f h1]
        by_cases h2 : 1000 * ((10 ^ sc : Nat) : Int) < c
        · rw [bif_t (cmpI_gt0.2 (hgt.2 h2)), if_pos (.inr (.inl h2))]
        · rw [bif_f (fun h => h2 (hgt.1 (cmpI_gt0.1 h)))]
          by_cases h3 : 12 < sc
          · rw [bif_t (by omega), if_pos (.inr (.inr h3))]
          · rw [bif_f (by omega), if_neg (by omega)]
            unfold z117.j6
            rw [s100]
            simp only [Option.bind_some]
            rw [ref05_Quo (q := mkRat c (10 ^ sc)) (r := 100) (by decide) (by omega) (by omega)]
            rfl
    · rw [decide_eq_false h, if_pos h]; rfl
theorem ref14_Check (t : Tm) (hp : t.p.length ≤ 1000000) : z120.F t.p t.r t.kind t.basis t.mode t.y t.m t.d t.every t.count = some (mCheck t) := by
  unfold z120.F mCheck
  rw [ref14_Money _ hp]
  simp only [Option.bind_some, wr4]
  by_cases h1 : (mMoney t.p).2 = 0
  · rw [decide_eq_true h1, if_neg (fun hh => hh h1)]
    simp only [Bool.not_true, cond_false]
    by_cases h2 : (mMoney t.p).1 = 0
    · rw [bif_t ((dg_len0 _).2 (by omega)), if_pos h2]
    · rw [bif_f (fun hh => h2 (by have := (dg_len0 _).1 hh; omega)), if_neg h2, ref14_Rate]
      simp only [Option.bind_some]
      by_cases h3 : (mRate t.r).2 = 0
      · rw [decide_eq_true h3, if_neg (fun hh => hh h3)]
        simp only [Bool.not_true, cond_false]
        have fin : ∀ b : Bool, (b = true ↔ everyOK t.every) → z120.j3 t.kind t.basis t.mode b t.count t.y t.m t.d t.every = some (if ¬ kindsOK t then 2 else if t.count < 1 ∨ 1200 < t.count then 6 else if right t.y t.m t.d ∧ okM t.y t.m (t.every * t.count) then 0 else 11) := fun b hb => by
          unfold z120.j3 z120.j4 z120.j5
          by_cases g1 : t.kind < 0
          · rw [bif_t g1, if_pos (fun hh => by have := hh.1; omega)]
          · rw [bif_f g1]
            by_cases g2 : t.kind > 2
            · rw [bif_t g2, if_pos (fun hh => by have := hh.1; omega)]
            · rw [bif_f g2]
              by_cases g3 : t.basis < 0
              · rw [bif_t g3, if_pos (fun hh => by have := hh.2.1; omega)]
              · rw [bif_f g3]
                by_cases g4 : t.basis > 2
                · rw [bif_t g4, if_pos (fun hh => by have := hh.2.1; omega)]
                · rw [bif_f g4]
                  by_cases g5 : t.mode < 0
                  · rw [bif_t g5, if_pos (fun hh => by have := hh.2.2.1; omega)]
                  · rw [bif_f g5]
                    by_cases g6 : t.mode > 4
                    · rw [bif_t g6, if_pos (fun hh => by have := hh.2.2.1; omega)]
                    · rw [bif_f g6]
                      cases b with
                      | false =>
                        simp only [Bool.not_false, cond_true]
                        rw [if_pos (fun hh => by have := hb.2 hh.2.2.2; simp at this)]
                      | true =>
                        have he := hb.1 rfl
                        simp only [Bool.not_true, cond_false]
                        rw [if_neg (fun hh => hh ⟨by omega, by omega, by omega, he⟩)]
                        by_cases g7 : t.count < 1
                        · rw [bif_t g7, if_pos (.inl g7)]
                        · rw [bif_f g7]
                          by_cases g8 : t.count > 1200
                          · rw [bif_t g8, if_pos (.inr g8)]
                          · have hbd := every_bound (e := t.every) (c := t.count) he (by omega)
                            rw [bif_f g8, if_neg (by omega), ref09_Right]
                            simp only [Option.bind_some]
                            by_cases g9 : right t.y t.m t.d
                            · rw [decide_eq_true g9]
                              simp only [Bool.not_true, cond_false]
                              rw [wr_i64 (by omega) (by omega), ref10_Add g9]
                              simp only [Option.bind_some]
                              by_cases g10 : okM t.y t.m (t.every * t.count)
                              · rw [if_pos g10, if_pos ⟨g9, g10⟩]; rfl
                              · rw [if_neg g10, if_neg (fun hh => g10 hh.2)]; rfl
                            · rw [decide_eq_false g9, if_neg (fun hh => g9 hh.1)]; rfl
        by_cases e1 : t.every = 1
        · rw [bif_t e1]; exact fin true ⟨fun _ => by omega, fun _ => rfl⟩
        · rw [bif_f e1]
          by_cases e2 : t.every = 2
          · rw [bif_t e2]; exact fin true ⟨fun _ => by omega, fun _ => rfl⟩
          · rw [bif_f e2]
            by_cases e3 : t.every = 3
            · rw [bif_t e3]; exact fin true ⟨fun _ => by omega, fun _ => rfl⟩
            · rw [bif_f e3]
              by_cases e4 : t.every = 4
              · rw [bif_t e4]; exact fin true ⟨fun _ => by omega, fun _ => rfl⟩
              · rw [bif_f e4]
                by_cases e6 : t.every = 6
                · rw [bif_t e6]; exact fin true ⟨fun _ => by omega, fun _ => rfl⟩
                · rw [bif_f e6]; exact fin _ ⟨fun hh => by have := of_decide_eq_true hh; omega, fun hh => decide_eq_true (by omega)⟩
      · rw [decide_eq_false h3, if_pos h3]; rfl
  · rw [decide_eq_false h1, if_pos h1]; rfl
theorem series10_loop {y m d step : Int} {n : Nat} (hr : right y m d) (hs : 1 ≤ step ∧ step ≤ 12) (hn : n ≤ 1200) (ho : okM y m (n * step)) : ∀ (f k : Nat), k + f = n →
    Runs (fun rec x => z121.l0P step (n : Int) y m d rec some x) (((k + 1 : Nat) : Int), (series y m d step k).map dv) (.inl (((n + 1 : Nat) : Int), (series y m d step n).map dv))
  | 0, k, hk => by
    have : k = n := by omega
    subst this
    refine .done fun rec => ?_
    unfold z121.l0P
    simp only
    rw [bif_f (by omega)]
  | f + 1, k, hk => by
    have g := right_good hr
    have ih := series10_loop hr hs hn ho f (k + 1) (by omega)
    have hb : ((k + 1 : Nat) : Int) * step ≤ n * step := Int.mul_le_mul_of_nonneg_right (by omega) (by omega)
    have hb0 : 0 ≤ ((k + 1 : Nat) : Int) * step := Int.mul_nonneg (by omega) (by omega)
    have hb1 : (n : Int) * step ≤ 1200 * 12 := Int.mul_le_mul (by omega) (by omega) (by omega) (by omega)
    refine .step (fun rec => ?_) ih
    unfold z121.l0P
    simp only
    rw [bif_t (by omega), bif_f (by omega), wr_i64 (n := ((k + 1 : Nat) : Int) * step) (by omega) (by omega), ref10_Add hr, if_pos (okM_le ho hb0 hb (by omega))]
    simp only [Option.bind_some, Bool.not_true, cond_false]
    rw [if_pos (by rw [List.length_map, series_len]; simp; omega), wr_i64 (by omega) (by omega), series_succ, List.map_append]
    rfl
theorem ref10_Series {y m d step : Int} {n : Nat} (hr : right y m d) (hs : 1 ≤ step ∧ step ≤ 12) (hn : n ≤ 1200) (ho : okM y m (n * step)) : z121.F y m d step (n : Int) = some ((series y m d step n).map dv, 0) := by
  have e : z121.l0 step (n : Int) y m d ((1 : Int), []) = some (.inl (((n + 1 : Nat) : Int), (series y m d step n).map dv)) := (series10_loop hr hs hn ho n 0 (by omega)).lfp
  unfold z121.F z121.j1
  rw [bif_f (by omega), bif_f (by omega), bif_f (by omega), ref09_Right]
  simp only [Option.bind_some]
  rw [decide_eq_true hr, e]
  rfl
theorem ref15_Dates (t : Tm) (hp : t.p.length ≤ 1000000) : z122.F t.p t.r t.kind t.basis t.mode t.y t.m t.d t.every t.count = some (if mCheck t = 0 then (t.dates.map dv, 0) else ([], mCheck t)) := by
  unfold z122.F
  rw [ref14_Check t hp]
  simp only [Option.bind_some]
  by_cases h : mCheck t = 0
  · obtain ⟨hk, hc, hr, ho⟩ := mCheck_zero h
    have he := every_le hk.2.2.2
    have ec : t.count = (t.count.toNat : Int) := by omega
    rw [decide_eq_true h, if_pos h]
    simp only [Bool.not_true, cond_false]
    have hs := ref10_Series (y := t.y) (m := t.m) (d := t.d) (step := t.every) (n := t.count.toNat) hr he (by omega) (by rw [← ec, Int.mul_comm]; exact ho)
    rw [← ec] at hs
    rw [hs]; rfl
  · rw [decide_eq_false h, if_neg h]; rfl
theorem periods15_loop {l : List D3} (hl : l.length ≤ 2000) : ∀ (f i : Nat) (s : List (List V)) (a : D3), i + f = l.length → s.length = i →
    ∃ z, Runs (fun rec x => z124.l0P (l.map dv) rec some x) ((i : Int), s, a.1, a.2.1, a.2.2) ((l.length : Int), s ++ (pairs a (l.drop i)).map pv, z)
  | 0, i, s, a, hf, hs => by
    have : i = l.length := by omega
    refine ⟨(a.1, a.2.1, a.2.2), .done fun rec => ?_⟩
    unfold z124.l0P
    simp only
    rw [bif_f (by rw [List.length_map]; omega), List.drop_eq_nil_of_le (by omega), this]; simp [pairs]
  | f + 1, i, s, a, hf, hs => by
    have hi : i < l.length := by omega
    have hi' : (0 : Int) ≤ (i : Int) ∧ (i : Int) < ((l.map dv).length : Int) := by rw [List.length_map]; omega
    obtain ⟨z, r⟩ := periods15_loop hl f (i + 1) (s ++ [pv (a, l[i])]) l[i] (by omega) (by simp; omega)
    refine ⟨z, .step (fun rec => ?_) (by rw [List.drop_eq_getElem_cons hi]; simp only [pairs, List.map_cons]; rw [← List.append_cons] at r; exact r)⟩
    unfold z124.l0P
    simp only
    rw [bif_t hi'.2, if_pos hi', Int.toNat_natCast, getD_map dv hi]
    rw [asD0, asD1, asD2, if_pos (by simp; omega), if_pos hi', asD0, asD1, asD2, wr_i64 (by omega) (by omega)]
    rfl
theorem ref15_Periods {t : Tm} (hp : t.p.length ≤ 1000000) (h : mCheck t = 0) : z124.F t.p t.r t.kind t.basis t.mode t.y t.m t.d t.every t.count = some (t.periods.map pv) := by
  obtain ⟨hk, hc, hr, ho⟩ := mCheck_zero h
  have hl := t.dates_len
  obtain ⟨z, r⟩ := periods15_loop (l := t.dates) (by omega) t.dates.length 0 [] t.start (by omega) rfl
  have e : z124.l0 (t.dates.map dv) ((0 : Int), [], t.y, t.m, t.d) = _ := r.lfp
  unfold z124.F
  rw [ref15_Dates t hp, if_pos h]
  simp only [Option.bind_some]
  rw [e]
  rfl
end Go.Proofs.YtgjncgiekniniaaGreatDoor.A
end
section
set_option linter.unusedVariables false
set_option linter.unusedSimpArgs false
namespace Go.Proofs.YtgjncgiekniniaaGreatDoor.A
open Go
theorem Good.plen {t : Tm} {most : Int} (h : Good t most) : t.p.length ≤ 1000000 := by
  obtain ⟨n, e, h1, h2⟩ := h.money
  have : (txt n).length ≤ 31 := txt_len (by omega) (by decide)
  rw [e]; omega
def tmv (t : Tm) : List V := [.str t.p, .str t.r, .int .i64 t.kind, .int .i64 t.basis, .int .i64 t.mode, .int .i64 t.y, .int .i64 t.m, .int .i64 t.d, .int .i64 t.every, .int .i64 t.count]
theorem asT0 {R : Type} (t : Tm) (K : List UInt8 → Option R) : V.asStr ((tmv t).getD 0 .undef) K = K t.p := by simp [tmv, V.asStr]
theorem asT1 {R : Type} (t : Tm) (K : List UInt8 → Option R) : V.asStr ((tmv t).getD 1 .undef) K = K t.r := by simp [tmv, V.asStr]
theorem asT2 {R : Type} (t : Tm) (K : Int → Option R) : V.asInt .i64 ((tmv t).getD 2 .undef) K = K t.kind := by simp [tmv, V.asInt]
theorem asT3 {R : Type} (t : Tm) (K : Int → Option R) : V.asInt .i64 ((tmv t).getD 3 .undef) K = K t.basis := by simp [tmv, V.asInt]
theorem asT4 {R : Type} (t : Tm) (K : Int → Option R) : V.asInt .i64 ((tmv t).getD 4 .undef) K = K t.mode := by simp [tmv, V.asInt]
theorem asT5 {R : Type} (t : Tm) (K : Int → Option R) : V.asInt .i64 ((tmv t).getD 5 .undef) K = K t.y := by simp [tmv, V.asInt]
theorem asT6 {R : Type} (t : Tm) (K : Int → Option R) : V.asInt .i64 ((tmv t).getD 6 .undef) K = K t.m := by simp [tmv, V.asInt]
theorem asT7 {R : Type} (t : Tm) (K : Int → Option R) : V.asInt .i64 ((tmv t).getD 7 .undef) K = K t.d := by simp [tmv, V.asInt]
theorem asT8 {R : Type} (t : Tm) (K : Int → Option R) : V.asInt .i64 ((tmv t).getD 8 .undef) K = K t.every := by simp [tmv, V.asInt]
theorem asT9 {R : Type} (t : Tm) (K : Int → Option R) : V.asInt .i64 ((tmv t).getD 9 .undef) K = K t.count := by simp [tmv, V.asInt]
theorem tell_inner {l : List (D3 × D3)} (hl : l.length ≤ 100000) : ∀ (f i : Nat), i + f = l.length →
    Runs (fun rec x => z129.l2b7P (l.map pv) (l.map pv) (l.length : Int) rec some x) (i : Int) (.inl (l.length : Int))
  | 0, i, hf => by
    refine .done fun rec => ?_
    unfold z129.l2b7P
    rw [bif_f (by omega), show (i : Int) = (l.length : Int) by omega]
  | f + 1, i, hf => by
    have hi : i < l.length := by omega
    have c1 : (0 : Int) ≤ (i : Int) ∧ (i : Int) < ((l.map pv).length : Int) := by rw [List.length_map]; omega
    refine .step (fun rec => ?_) (tell_inner hl f (i + 1) (by omega))
    unfold z129.l2b7P
    rw [bif_t (by omega), if_pos c1, Int.toNat_natCast, getD_map pv hi, asP0, asP1, asP2, asP3, asP4, asP5, if_pos c1, asP0, asP1, asP2, asP3, asP4, asP5]
    simp only [decide_true, Bool.true_and, Bool.not_true, cond_false]
    rw [if_pos c1, asP0, asP1, asP2, asP3, asP4, asP5, wr_i64 (by omega) (by omega)]
    simp only [decide_true, Bool.true_and, Bool.not_true, cond_false]
    rfl
theorem tell_loop {l : List Tm} (hp : ∀ t ∈ l, t.p.length ≤ 1000000) (hl : l.length ≤ 1000) : ∀ (f i : Nat), i + f = l.length →
    Runs (fun rec x => z129.l0b12P (l.map tmv) (l.length : Int) rec some x) (i : Int) (.inl (l.length : Int))
  | 0, i, hf => by
    refine .done fun rec => ?_
    unfold z129.l0b12P
    rw [bif_f (by omega), show (i : Int) = (l.length : Int) by omega]
  | f + 1, i, hf => by
    have hi : i < l.length := by omega
    have c1 : (0 : Int) ≤ (i : Int) ∧ (i : Int) < ((l.map tmv).length : Int) := by rw [List.length_map]; omega
    have hpi := hp l[i] (List.getElem_mem hi)
    refine .step (fun rec => ?_) (tell_loop hp hl f (i + 1) (by omega))
    unfold z129.l0b12P
    rw [bif_t (by omega), if_pos c1, Int.toNat_natCast, getD_map tmv hi, asT0, asT1, asT2, asT3, asT4, asT5, asT6, asT7, asT8, asT9]
    rw [dues_Dates]
    simp only [Option.bind_some]
    rw [dues_Periods]
    simp only [Option.bind_some]
    rw [ref15_Dates _ hpi]
    simp only [Option.bind_some]
    have ew : wr .i64 ((i : Int) + 1) = ((i + 1 : Nat) : Int) := by rw [wr_i64 (by omega) (by omega)]; rfl
    by_cases h : mCheck l[i] = 0
    · obtain ⟨hk, hc, hr, ho⟩ := mCheck_zero h
      have hdl := l[i].dates_len
      have hpl : l[i].periods.length = l[i].dates.length := pairs_len _ _
      rw [if_pos h, if_pos h]
      simp only [decide_true, Bool.not_true, cond_false]
      rw [equal_dates (by omega)]
      simp only [Option.bind_some, decide_true, Bool.not_true, cond_false, List.length_map, hpl]
      rw [ref15_Periods hpi h]
      simp only [Option.bind_some, List.length_map]
      have e := (tell_inner (l := l[i].periods) (by omega) l[i].periods.length 0 (by omega)).lfp
      have e' : z129.l2b7 (l[i].periods.map pv) (l[i].periods.map pv) (l[i].periods.length : Int) 0 = some (.inl (l[i].periods.length : Int)) := e
      rw [e']
      simp only [Option.bind_some]
      rw [ew]
    · rw [if_neg h, if_neg h]
      simp only [decide_true, Bool.not_true, cond_false]
      have e0 := equal_dates (l := []) (l' := []) (by decide)
      simp only [List.map_nil] at e0
      rw [e0]
      simp only [Option.bind_some, decide_true, Bool.not_true, cond_false]
      rw [decide_eq_false h]
      simp only [Bool.not_false, cond_true]
      rw [ew]
theorem tell_law {a0 a1 a2 a3 a4 a5 a6 a7 a8 a9 a10 a11 : Int} {a12 a13 : List UInt8} {a14 a15 a16 a17 a18 a19 a20 a21 : Int} (h0 : (Lit.int .u64 a0).wf = true) (h1 : (Lit.int .u16 a1).wf = true) (h2 : (Lit.int .u32 a2).wf = true) (h3 : (Lit.int .u8 a3).wf = true) (h4 : (Lit.int .u8 a4).wf = true) (h5 : (Lit.int .u8 a5).wf = true)
    (h6 : (Lit.int .u8 a6).wf = true) (h7 : (Lit.int .u8 a7).wf = true) (h8 : (Lit.int .u8 a8).wf = true) : z129.F a0 a1 a2 a3 a4 a5 a6 a7 a8 a9 a10 a11 a12 a13 a14 a15 a16 a17 a18 a19 a20 a21 = some true := by
  obtain ⟨t, g, e⟩ := ref14_Make (a9 := a9) (a10 := a10) (a11 := a11) (most := 60) (wf_u64 h0) (wf_u16 h1) (wf_u32 h2) (wf_u8 h3) (wf_u8 h4) (wf_u8 h5) (wf_u8 h6) (wf_u8 h7) (wf_u8 h8) (by decide)
  have m : ∀ s : List UInt8, ((0 : Int) ≤ (if (100 : Int) < (s.length : Int) then (100 : Int) else (s.length : Int)) ∧ (if (100 : Int) < (s.length : Int) then (100 : Int) else (s.length : Int)) ≤ ((s).length : Int)) ∧ (if (100 : Int) < (s.length : Int) then (100 : Int) else (s.length : Int)).toNat ≤ 100 := fun s => by split <;> omega
  unfold z129.F
  rw [if_pos (m a12).1, if_pos (m a13).1, e]
  simp only [Option.bind_some]
  have h12 := (m a12).2
  generalize (if (100 : Int) < (a12.length : Int) then (100 : Int) else (a12.length : Int)).toNat = k at *
  generalize (if (100 : Int) < (a13.length : Int) then (100 : Int) else (a13.length : Int)).toNat = k' at *
  have r := (tell_loop (l := [t, ⟨a12.take k, a13.take k', a14, a15, a16, a17, a18, a19, a20, a21⟩]) (fun u hu => by
    rcases List.mem_cons.1 hu with rfl | hu
    · exact g.plen
    · rw [List.mem_singleton] at hu
      subst hu
      show (a12.take k).length ≤ _
      rw [List.length_take]; omega) (by simp) 2 0 rfl).lfp
  have er : z129.l0b12 [tmv t, tmv ⟨a12.take k, a13.take k', a14, a15, a16, a17, a18, a19, a20, a21⟩] 2 0 = some (.inl 2) := r
  unfold tmv at er
  simp only at er
  show ((z129.l0b12 _ 2 0).bind _) = _
  rw [er]
  simp only [Option.bind_some]
  rw [law15_wakes]
  rfl
end Go.Proofs.YtgjncgiekniniaaGreatDoor.A
end
section
set_option linter.unusedVariables false
namespace Go.Proofs.YtgjncgiekniniaaGreatDoor.A
open Go
namespace DuesTell
theorem law (a0 : Int) (a1 : Int) (a2 : Int) (a3 : Int) (a4 : Int) (a5 : Int) (a6 : Int) (a7 : Int) (a8 : Int) (a9 : Int) (a10 : Int) (a11 : Int) (a12 : List UInt8) (a13 : List UInt8) (a14 : Int) (a15 : Int) (a16 : Int) (a17 : Int) (a18 : Int) (a19 : Int) (a20 : Int) (a21 : Int) (h0 : (Lit.int .u64 a0).wf = true) (h1 : (Lit.int .u16 a1).wf = true) (h2 : (Lit.int .u32 a2).wf = true) (h3 : (Lit.int .u8 a3).wf = true) (h4 : (Lit.int .u8 a4).wf = true) (h5 : (Lit.int .u8 a5).wf = true) (h6 : (Lit.int .u8 a6).wf = true) (h7 : (Lit.int .u8 a7).wf = true) (h8 : (Lit.int .u8 a8).wf = true) (h9 : (Lit.int .i64 a9).wf = true) (h10 : (Lit.int .i64 a10).wf = true) (h11 : (Lit.int .i64 a11).wf = true) (h12 : a12.length ≤ maxLen) (h13 : a13.length ≤ maxLen) (h14 : (Lit.int .i64 a14).wf = true) (h15 : (Lit.int .i64 a15).wf = true) (h16 : (Lit.int .i64 a16).wf = true) (h17 : (Lit.int .i64 a17).wf = true) (h18 : (Lit.int .i64 a18).wf = true) (h19 : (Lit.int .i64 a19).wf = true) (h20 : (Lit.int .i64 a20).wf = true) (h21 : (Lit.int .i64 a21).wf = true) : z129.F a0 a1 a2 a3 a4 a5 a6 a7 a8 a9 a10 a11 a12 a13 a14 a15 a16 a17 a18 a19 a20 a21 = some true :=
  tell_law h0 h1 h2 h3 h4 h5 h6 h7 h8
end DuesTell
end Go.Proofs.YtgjncgiekniniaaGreatDoor.A
end
section
set_option linter.unusedVariables false
set_option linter.unusedSimpArgs false
set_option maxRecDepth 100000
namespace Go.Proofs.YtgjncgiekniniaaGreatDoor.A
open Go Go.RowKit Go.ChangeShapes Go.WideShapes Go.ChangeAt
noncomputable section
namespace DuesTell
theorem wide : atsOf Tryz.prog 8 Tryz.f9.params.toList = some [(.agg [.sc (.i .u64), .sc (.i .u16), .sc (.i .u32), .sc (.i .u8), .sc (.i .u8), .sc (.i .u8), .sc (.i .u8), .sc (.i .u8), .sc (.i .u8), .sc (.i .i64), .sc (.i .i64), .sc (.i .i64)]), (.agg [.sc .s, .sc .s, .sc (.i .i64), .sc (.i .i64), .sc (.i .i64), .sc (.i .i64), .sc (.i .i64), .sc (.i .i64), .sc (.i .i64), .sc (.i .i64)])] := by kernel_rfl
theorem readable : Tryz.f9.params.toList.all (fun t => Tryz.prog.readableRec t && decide (t < Tryz.prog.types.size)) = true := by kernel_rfl
noncomputable def args0 : Array Value := #[.agg #[.int .u64 0, .int .u16 0, .int .u32 0, .int .u8 0, .int .u8 0, .int .u8 0, .int .u8 0, .int .u8 0, .int .u8 0, .int .i64 0, .int .i64 0, .int .i64 0], .agg #[.string ⟨#[]⟩, .string ⟨#[]⟩, .int .i64 0, .int .i64 0, .int .i64 0, .int .i64 0, .int .i64 0, .int .i64 0, .int .i64 0, .int .i64 0]]
theorem laid_met (os : Os) : laidMet Tryz.prog Rows.duesTellRow.laid ((laidWorld os).forCall (fun _ _ => 0) ⟨#[], args0, []⟩).memory :=
  laidMet_of_run' 12 (by kernel_rfl) (by kernel_rfl)
theorem reads (os : Os) {H : Type} (enc : TypeId × Value → H) : ∃ ds places, DataW.whole enc Tryz.prog ((laidWorld os).forCall (fun _ _ => 0) ⟨#[], args0, []⟩).memory Tryz.f9.params.toList Rows.duesTellSpec.vars false args0.toList 12 = some (ds, [], places) :=
  ⟨[.agg [.lit (.int .u64 0), .lit (.int .u16 0), .lit (.int .u32 0), .lit (.int .u8 0), .lit (.int .u8 0), .lit (.int .u8 0), .lit (.int .u8 0), .lit (.int .u8 0), .lit (.int .u8 0), .agg [.lit (.int .i64 0), .lit (.int .i64 0), .lit (.int .i64 0)]], .agg [.lit (.string []), .lit (.string []), .lit (.int .i64 0), .lit (.int .i64 0), .lit (.int .i64 0), .agg [.lit (.int .i64 0), .lit (.int .i64 0), .lit (.int .i64 0)], .lit (.int .i64 0), .lit (.int .i64 0)]], [], by kernel_rfl⟩
theorem plainly (vs : List V) (h : okAL [(.agg [.sc (.i .u64), .sc (.i .u16), .sc (.i .u32), .sc (.i .u8), .sc (.i .u8), .sc (.i .u8), .sc (.i .u8), .sc (.i .u8), .sc (.i .u8), .sc (.i .i64), .sc (.i .i64), .sc (.i .i64)]), (.agg [.sc .s, .sc .s, .sc (.i .i64), .sc (.i .i64), .sc (.i .i64), .sc (.i .i64), .sc (.i .i64), .sc (.i .i64), .sc (.i .i64), .sc (.i .i64)])] vs) : ∃ p r, SoundC Tryz.prog 9 vs p ∧ p.m = some r ∧ p.enc r = .bool true := by
  obtain ⟨_, _, rfl, ⟨_, rfl, _, _, rfl, ⟨a0, rfl, h0⟩, _, _, rfl, ⟨a1, rfl, h1⟩, _, _, rfl, ⟨a2, rfl, h2⟩, _, _, rfl, ⟨a3, rfl, h3⟩, _, _, rfl, ⟨a4, rfl, h4⟩, _, _, rfl, ⟨a5, rfl, h5⟩, _, _, rfl, ⟨a6, rfl, h6⟩, _, _, rfl, ⟨a7, rfl, h7⟩, _, _, rfl, ⟨a8, rfl, h8⟩, _, _, rfl, ⟨a9, rfl, h9⟩, _, _, rfl, ⟨a10, rfl, h10⟩, _, _, rfl, ⟨a11, rfl, h11⟩, rfl⟩, _, _, rfl, ⟨_, rfl, _, _, rfl, ⟨a12, rfl, h12⟩, _, _, rfl, ⟨a13, rfl, h13⟩, _, _, rfl, ⟨a14, rfl, h14⟩, _, _, rfl, ⟨a15, rfl, h15⟩, _, _, rfl, ⟨a16, rfl, h16⟩, _, _, rfl, ⟨a17, rfl, h17⟩, _, _, rfl, ⟨a18, rfl, h18⟩, _, _, rfl, ⟨a19, rfl, h19⟩, _, _, rfl, ⟨a20, rfl, h20⟩, _, _, rfl, ⟨a21, rfl, h21⟩, rfl⟩, rfl⟩ := h
  exact ⟨⟨Bool, z129.F a0 a1 a2 a3 a4 a5 a6 a7 a8 a9 a10 a11 a12 a13 a14 a15 a16 a17 a18 a19 a20 a21, z129.enc⟩, true, z129.sound _ _ (by kernel_rfl), law a0 a1 a2 a3 a4 a5 a6 a7 a8 a9 a10 a11 a12 a13 a14 a15 a16 a17 a18 a19 a20 a21 h0 h1 h2 h3 h4 h5 h6 h7 h8 h9 h10 h11 h12 h13 h14 h15 h16 h17 h18 h19 h20 h21, rfl⟩
theorem specFn {H : Type} (ds : List (DataW H)) (h : ds.length = Tryz.f9.params.toList.length) : Rows.duesTellSpec.fn H ds = { results := [.lit (.bool true)], args := ds } := by
  have h : ds.length = 2 := h.trans (by kernel_rfl)
  match ds, h with
  | [d0, d1], _ => rfl
theorem clos : Tryz.prog.closure 9 = [9, 43, 95, 153, 219, 60, 152, 113, 131, 208, 234, 235, 26, 102, 132, 48, 44, 36, 76, 160, 223, 260, 161, 200, 250, 249, 251, 253, 276, 252, 255, 279, 289, 277, 287, 278, 288, 292, 283, 290, 293, 285, 284, 254, 158, 222, 185, 164, 227, 268, 183, 99, 184, 104, 91, 28, 114, 195, 247, 74, 90, 110, 24, 100, 186, 146, 212, 245, 273, 187, 38, 118, 198, 248, 275, 286, 291, 199, 201, 69, 119, 202, 120, 121, 203, 204, 156, 122, 123, 176, 92, 163, 226, 162, 188, 224, 261, 262, 280, 225, 263, 264, 265, 266, 267, 281, 68, 124, 157, 130, 133, 47, 137, 209, 228, 257, 149, 214, 215, 134, 142, 210, 258, 259, 138, 49, 50, 45, 37, 115, 196, 103, 192, 116, 117, 63, 35, 85, 170, 171, 172, 197, 39, 125, 205, 206, 256, 221, 126, 127, 128, 207, 129, 80, 135, 139, 51, 52, 53, 55, 57, 145, 144, 143] := by kernel_rfl
theorem inPlace : (Rows.duesTellRow.inPlace == Tryz.prog.inPlace 9) = true := by unfold Program.inPlace; rw [clos]; kernel_rfl
theorem unfollowed : (Rows.duesTellRow.unfollowed == Tryz.prog.unfollowed 9) = true := by unfold Program.unfollowed; rw [clos]; kernel_rfl
theorem recurses : (Rows.duesTellRow.recurses == Tryz.prog.recurses 9) = true := by unfold Program.recurses Program.unfollowed; rw [clos]; kernel_rfl
theorem named : (Rows.duesTellRow.named == Tryz.prog.varsNamed 9) = true := by unfold Program.varsNamed; rw [clos]; kernel_rfl
theorem number : Tryz.prog.funcNamed "chattel/chattellaw15.DuesTell" = some 9 := by kernel_rfl
theorem goes : false = Rows.duesTellRow.goesBy Tryz.prog := by
  have h : Tryz.prog.goes 9 = false := by unfold Program.goes Program.unfollowed; rw [clos]; kernel_rfl
  have e : Rows.duesTellRow.goesBy Tryz.prog = ((Tryz.prog.funcNamed "chattel/chattellaw15.DuesTell").any Tryz.prog.goes || false) := by kernel_rfl
  rw [e, number]
  simp [h]
theorem j_wf : Rows.duesTellRow.wf (OpenSpec.ofChange (OpenSpec.ofChange Rows.duesTellSpec).bare) = true := by kernel_rfl
theorem j_params : (Tryz.f9.params.all (Tryz.pinned.checked.prog.readableRec ·)) = true := by kernel_rfl
theorem j_vars : namedTie Tryz.pinned.checked.prog Rows.duesTellRow.named (OpenSpec.ofChange Rows.duesTellSpec).bare.vars = true := by kernel_rfl
theorem j_stops : (Rows.duesTellRow.stops == []) = true := by kernel_rfl
theorem j_knobs : (Rows.duesTellRow.knobs == []) = true := by kernel_rfl
theorem j_maps : (Rows.duesTellRow.maps == (Tryz.f9.params.toList ++ DataSpec.varTypes Tryz.pinned.checked.prog (OpenSpec.ofChange Rows.duesTellSpec).bare.plain).any (Tryz.pinned.checked.prog.mapsRec ·)) = true := by kernel_rfl
theorem j_ifaces : (Rows.duesTellRow.ifaces == (Tryz.f9.params.toList ++ DataSpec.varTypes Tryz.pinned.checked.prog (OpenSpec.ofChange Rows.duesTellSpec).bare.plain).any (Tryz.pinned.checked.prog.ifacesRec ·)) = true := by kernel_rfl
theorem j_mapsOut : (Rows.duesTellRow.mapsOut == Tryz.pinned.checked.prog.mapsAmong Tryz.f9.resultTypes.toList) = true := by kernel_rfl
theorem j_loops : (Rows.duesTellRow.loops == (Tryz.f9.params.toList ++ DataSpec.varTypes Tryz.pinned.checked.prog (OpenSpec.ofChange Rows.duesTellSpec).bare.plain).any (Tryz.pinned.checked.prog.loopsFrom ·)) = true := by kernel_rfl
theorem j_wideKeys : (Rows.duesTellRow.wideKeys == (Tryz.f9.params.toList ++ DataSpec.varTypes Tryz.pinned.checked.prog (OpenSpec.ofChange Rows.duesTellSpec).bare.plain ++ Tryz.f9.resultTypes.toList).any (Tryz.pinned.checked.prog.wideKeysFrom ·)) = true := by kernel_rfl
theorem j_varsRead : (OpenSpec.ofChange Rows.duesTellSpec).bare.vars.all (Tryz.pinned.checked.prog.varReadable ·) = true := by kernel_rfl
theorem j_results : (Tryz.f9.resultTypes.all fun t => Tryz.pinned.checked.prog.readableRec t && decide (t < Tryz.pinned.checked.prog.types.size)) = true := by kernel_rfl
theorem j_ifacesOut : (Rows.duesTellRow.ifacesOut == Tryz.f9.resultTypes.toList.any (Tryz.pinned.checked.prog.ifacesRec ·)) = true := by kernel_rfl
theorem j_loopsOut : (Rows.duesTellRow.loopsOut == Tryz.f9.resultTypes.toList.any (Tryz.pinned.checked.prog.loopsFrom ·)) = true := by kernel_rfl
theorem j_plainKeys : (Rows.duesTellRow.plainKeys == Tryz.pinned.checked.prog.plainKeys) = true := by kernel_rfl
theorem j_short : Rows.duesTellRow.shortTexts.isNone = true := by kernel_rfl
theorem j_lift : (Rows.duesTellRow.lifted == Tryz.pinned.checked.prog.liftsFinal) = true := by kernel_rfl
theorem j_make : (Tryz.pinned.checked.prog.make == some Rows.duesTellRow.make) = true := by kernel_rfl
theorem j_kinds : (Rows.duesTellRow.kinds == (if Rows.duesTellRow.domain.isEmpty then [] else Tryz.f9.params.toList.map fun t => match Tryz.pinned.checked.prog.underlying t with | some (.int k) => some k | _ => none)) = true := by kernel_rfl
theorem j_pinned : (Rows.duesTellRow.pinned == Rows.duesTellRow.pinnedBy) = true := by kernel_rfl
theorem j_veiled : (Rows.duesTellRow.veiled == (Tryz.f9.params.toList ++ DataSpec.varTypes Tryz.pinned.checked.prog (OpenSpec.ofChange Rows.duesTellSpec).bare.plain ++ Tryz.f9.resultTypes.toList).any (Tryz.pinned.checked.prog.veiledRec ·)) = true := by kernel_rfl
theorem j_veiledFits : Rows.duesTellRow.veiledFits Tryz.pinned.checked.prog Tryz.f9.params.toList (Tryz.f9.params.toList ++ DataSpec.varTypes Tryz.pinned.checked.prog (OpenSpec.ofChange Rows.duesTellSpec).bare.plain ++ Tryz.f9.resultTypes.toList) = true := by kernel_rfl
theorem joined : joinedFacts Tryz.pinned.checked.prog 9 Tryz.f9 (OpenSpec.ofChange Rows.duesTellSpec).bare Rows.duesTellRow = true := by
  unfold joinedFacts
  simp only [Bool.and_eq_true]
  and_intros
  · exact j_wf
  · exact laidOut
  · exact rowed
  · exact j_params
  · exact j_vars
  · exact j_stops
  · exact noStops
  · exact j_knobs
  · exact noKnobs
  · exact inPlace
  · exact unfollowed
  · exact recurses
  · exact named
  · exact j_maps
  · exact j_ifaces
  · exact j_mapsOut
  · exact j_loops
  · exact j_wideKeys
  · exact j_varsRead
  · exact j_results
  · exact j_ifacesOut
  · exact j_loopsOut
  · exact j_plainKeys
  · exact j_short
  · exact heard
  · exact enterable
  · exact j_lift
  · exact j_make
  · exact j_kinds
  · exact j_pinned
  · exact j_veiled
  · exact j_veiledFits
theorem lifted (os : Os) (started : os.Started) (H : Type) (enc : TypeId × Value → H) (F : Stop.Interp) :
    ReturnsInHanded {} Tryz.checked os 9 .any ((OpenSpec.ofChange Rows.duesTellSpec).preRow enc Tryz.prog Tryz.f9 Rows.duesTellRow.domain false Rows.duesTellRow.laid) (((OpenSpec.ofChange Rows.duesTellSpec).at F).post enc Tryz.prog Tryz.f9 false true false false) := by
  obtain ⟨ds0, places, hx⟩ := reads os enc
  refine returnsInHanded_of_row (C := Tryz.checked) (s := OpenSpec.ofChange Rows.duesTellSpec) own started (by kernel_rfl) Tryz.func9
    (witness_row_at (enc := enc) (C := Tryz.checked) false (laidWorld os) args0 rfl (by kernel_rfl) (by kernel_rfl) (by kernel_rfl)
      (OpenSpec.preRow_of_cond 12 hx (by kernel_rfl) (fun k hk => by cases hk) (by kernel_rfl) (laid_met os))) ?_
  intro W base args ds gs before hval hW _ _ _ hL _ _
  exact law_contract fun9 laidOut readable wide (tb := 4) (by kernel_rfl) (by kernel_rfl) rfl specFn plainly W base args ds gs before hval hW
theorem wrapped : Tryz.f9.isWrapper Tryz.pinned.checked.prog Rows.duesTellRow.wrapper Rows.duesTellRow.mainSum := by
  unfold Func.isWrapper; first | (rw [if_pos (by decide +kernel)]; kernel_rfl) | (rw [if_neg (by decide +kernel)]; exact ⟨rfl, rfl⟩)
theorem origin : Tryz.f9.isInstance Tryz.pinned.checked.prog Rows.duesTellRow.origin Rows.duesTellRow.targs := of_decide_eq_true (by kernel_rfl)
theorem said : Rows.DuesTellSaid :=
  OpenClaim.holds_of_cond 9 Tryz.f9 rfl rfl rfl rfl rfl rfl rfl ⟨rfl, rfl, rfl, rfl, rfl⟩ rfl rfl rfl rfl rfl number Tryz.func9 joined origin wrapped
    (fun os started H enc _ F => by rw [OpenClaim.pre_eq_preRow]; exact lifted os started H enc F)
theorem plainRow (f : FuncId) (fn : Func) (hf : Tryz.pinned.checked.prog.funcNamed "chattel/chattellaw15.DuesTell" = some f) (hfn : Tryz.pinned.checked.prog.funcs[f]? = some fn) :
    false = Tryz.pinned.checked.prog.looks [] ∧ ∀ (j : Nat) t, fn.params[j]? = some t → Tryz.pinned.checked.prog.wantsStandIn t = false := by
  obtain rfl : f = 9 := Option.some.inj (number.symm.trans hf) |>.symm
  obtain rfl : fn = Tryz.f9 := (Option.some.inj (Tryz.func9.symm.trans hfn)).symm
  refine ⟨looksOff, fun j t ht => ?_⟩
  have hall : Tryz.f9.params.toList.all (fun t => !Tryz.prog.wantsStandIn t) = true := by kernel_rfl
  have := List.all_eq_true.1 hall t (by simpa using Array.mem_of_getElem? ht)
  exact Bool.not_eq_true' _ |>.mp this
theorem card : Rows.DuesTellCardSaid :=
  Claim7.holds_tied_plain_at .later [] _ _ _ _ said (fun _ h => by cases h) (by kernel_rfl) (fun _ h => by cases h) duesTell_row_tie rfl ⟨rfl, rfl⟩ main rfl plainRow goes
end DuesTell
end
end Go.Proofs.YtgjncgiekniniaaGreatDoor.A
end
