/- Part 2 of the proof of TermsTexts.card. -/
import Derived.Test.YtgjncgiekniniaaGreatDoorCtt1
section
namespace Go.Proofs.YtgjncgiekniniaaGreatDoor.A
open Go
def tab : Tab :=
  (.node 100 { d := .tuple, size := 1, bytes := 0, zero := [.undef], flat := [100] } (.node 63 { d := .tuple, size := 1, bytes := 0, zero := [.undef], flat := [63] } (.node 30 { d := .slice 41, size := 1, bytes := 24, zero := [(.recs true 3 [])], flat := [30] } (.node 9 { d := .str, size := 1, bytes := 16, zero := [(.str ([] : List UInt8))], flat := [9] } (.node 4 { d := .bool, size := 1, bytes := 1, zero := [(.bool false)], flat := [4] } (.node 3 { d := .int .i64, size := 1, bytes := 8, zero := [(.int .i64 (0 : Int))], flat := [3] } (.node 0 { d := .tuple, size := 1, bytes := 0, zero := [.undef], flat := [0] } .nil .nil) .nil) (.node 5 { d := .int .u8, size := 1, bytes := 1, zero := [(.int .u8 (0 : Int))], flat := [5] } .nil .nil)) (.node 22 { d := .array 3 3, size := 3, bytes := 24, zero := [(.int .i64 (0 : Int)), (.int .i64 (0 : Int)), (.int .i64 (0 : Int))], flat := [3, 3, 3] } (.node 21 { d := .int .i32, size := 1, bytes := 4, zero := [(.int .i32 (0 : Int))], flat := [21] } .nil .nil) (.node 23 { d := .slice 5, size := 1, bytes := 24, zero := [(.ints true .u8 [])], flat := [23] } .nil .nil))) (.node 39 { d := .struct [(0, 1, 37), (1, 1, 4)], size := 2, bytes := 32, zero := [(.ints true .u64 []), (.bool false)], flat := [35, 4] } (.node 35 { d := .slice 79, size := 1, bytes := 24, zero := [(.ints true .u64 [])], flat := [35] } (.node 32 { d := .int .i64, size := 1, bytes := 8, zero := [(.int .i64 (0 : Int))], flat := [32] } .nil .nil) (.node 37 { d := .struct [(0, 1, 35)], size := 1, bytes := 24, zero := [(.ints true .u64 [])], flat := [35] } .nil .nil)) (.node 45 { d := .slice 3, size := 1, bytes := 24, zero := [(.ints true .i64 [])], flat := [45] } (.node 41 { d := .struct [(0, 1, 3), (1, 1, 3), (2, 1, 3)], size := 3, bytes := 24, zero := [(.int .i64 (0 : Int)), (.int .i64 (0 : Int)), (.int .i64 (0 : Int))], flat := [3, 3, 3], eq := true } .nil .nil) (.node 47 { d := .struct [(0, 1, 45), (1, 1, 4)], size := 2, bytes := 32, zero := [(.ints true .i64 []), (.bool false)], flat := [45, 4] } .nil .nil)))) (.node 81 { d := .int .u32, size := 1, bytes := 4, zero := [(.int .u32 (0 : Int))], flat := [81] } (.node 73 { d := .tuple, size := 1, bytes := 0, zero := [.undef], flat := [73] } (.node 69 { d := .tuple, size := 1, bytes := 0, zero := [.undef], flat := [69] } (.node 68 { d := .struct [(0, 2, 39), (2, 1, 37)], size := 3, bytes := 56, zero := [(.ints true .u64 []), (.bool false), (.ints true .u64 [])], flat := [35, 4, 35] } (.node 65 { d := .tuple, size := 1, bytes := 0, zero := [.undef], flat := [65] } .nil .nil) .nil) (.node 72 { d := .struct [(0, 2, 47), (2, 1, 45)], size := 3, bytes := 56, zero := [(.ints true .i64 []), (.bool false), (.ints true .i64 [])], flat := [45, 4, 45] } .nil .nil)) (.node 79 { d := .int .u64, size := 1, bytes := 8, zero := [(.int .u64 (0 : Int))], flat := [79] } (.node 78 { d := .struct [(0, 1, 9), (1, 1, 9), (2, 1, 3), (3, 1, 3), (4, 1, 3), (5, 3, 41), (8, 1, 3), (9, 1, 3)], size := 10, bytes := 96, zero := [(.str ([] : List UInt8)), (.str ([] : List UInt8)), (.int .i64 (0 : Int)), (.int .i64 (0 : Int)), (.int .i64 (0 : Int)), (.int .i64 (0 : Int)), (.int .i64 (0 : Int)), (.int .i64 (0 : Int)), (.int .i64 (0 : Int)), (.int .i64 (0 : Int))], flat := [9, 9, 3, 3, 3, 3, 3, 3, 3, 3], eq := true } .nil .nil) (.node 80 { d := .int .u16, size := 1, bytes := 2, zero := [(.int .u16 (0 : Int))], flat := [80] } .nil .nil))) (.node 91 { d := .tuple, size := 1, bytes := 0, zero := [.undef], flat := [91] } (.node 85 { d := .struct [(0, 10, 78), (10, 12, 83), (22, 1, 5), (23, 1, 3)], size := 24, bytes := 160, zero := [(.str ([] : List UInt8)), (.str ([] : List UInt8)), (.int .i64 (0 : Int)), (.int .i64 (0 : Int)), (.int .i64 (0 : Int)), (.int .i64 (0 : Int)), (.int .i64 (0 : Int)), (.int .i64 (0 : Int)), (.int .i64 (0 : Int)), (.int .i64 (0 : Int)), (.int .u64 (0 : Int)), (.int .u16 (0 : Int)), (.int .u32 (0 : Int)), (.int .u8 (0 : Int)), (.int .u8 (0 : Int)), (.int .u8 (0 : Int)), (.int .u8 (0 : Int)), (.int .u8 (0 : Int)), (.int .u8 (0 : Int)), (.int .i64 (0 : Int)), (.int .i64 (0 : Int)), (.int .i64 (0 : Int)), (.int .u8 (0 : Int)), (.int .i64 (0 : Int))], flat := [9, 9, 3, 3, 3, 3, 3, 3, 3, 3, 79, 80, 81, 5, 5, 5, 5, 5, 5, 3, 3, 3, 5, 3], eq := true } (.node 83 { d := .struct [(0, 1, 79), (1, 1, 80), (2, 1, 81), (3, 1, 5), (4, 1, 5), (5, 1, 5), (6, 1, 5), (7, 1, 5), (8, 1, 5), (9, 3, 22)], size := 12, bytes := 48, zero := [(.int .u64 (0 : Int)), (.int .u16 (0 : Int)), (.int .u32 (0 : Int)), (.int .u8 (0 : Int)), (.int .u8 (0 : Int)), (.int .u8 (0 : Int)), (.int .u8 (0 : Int)), (.int .u8 (0 : Int)), (.int .u8 (0 : Int)), (.int .i64 (0 : Int)), (.int .i64 (0 : Int)), (.int .i64 (0 : Int))], flat := [79, 80, 81, 5, 5, 5, 5, 5, 5, 3, 3, 3], eq := true } .nil .nil) (.node 90 { d := .slice 9, size := 1, bytes := 24, zero := [(.strs true [])], flat := [90] } .nil .nil)) (.node 97 { d := .tuple, size := 1, bytes := 0, zero := [.undef], flat := [97] } (.node 96 { d := .slice 78, size := 1, bytes := 24, zero := [(.recs true 10 [])], flat := [96] } .nil .nil) (.node 99 { d := .slice 109, size := 1, bytes := 24, zero := [(.recs true 6 [])], flat := [99] } .nil .nil))))) (.node 234 { d := .int .i64, size := 1, bytes := 8, zero := [(.int .i64 (0 : Int))], flat := [234] } (.node 132 { d := .tuple, size := 1, bytes := 0, zero := [.undef], flat := [132] } (.node 112 { d := .int .i16, size := 1, bytes := 2, zero := [(.int .i16 (0 : Int))], flat := [112] } (.node 108 { d := .struct [(0, 3, 41), (3, 3, 41)], size := 6, bytes := 48, zero := [(.int .i64 (0 : Int)), (.int .i64 (0 : Int)), (.int .i64 (0 : Int)), (.int .i64 (0 : Int)), (.int .i64 (0 : Int)), (.int .i64 (0 : Int))], flat := [3, 3, 3, 3, 3, 3], eq := true } (.node 105 { d := .slice 108, size := 1, bytes := 24, zero := [(.recs true 6 [])], flat := [105] } (.node 102 { d := .tuple, size := 1, bytes := 0, zero := [.undef], flat := [102] } .nil .nil) .nil) (.node 109 { d := .struct [(0, 3, 41), (3, 3, 41)], size := 6, bytes := 48, zero := [(.int .i64 (0 : Int)), (.int .i64 (0 : Int)), (.int .i64 (0 : Int)), (.int .i64 (0 : Int)), (.int .i64 (0 : Int)), (.int .i64 (0 : Int))], flat := [3, 3, 3, 3, 3, 3], eq := true } .nil .nil)) (.node 115 { d := .tuple, size := 1, bytes := 0, zero := [.undef], flat := [115] } (.node 113 { d := .tuple, size := 1, bytes := 0, zero := [.undef], flat := [113] } .nil .nil) (.node 117 { d := .tuple, size := 1, bytes := 0, zero := [.undef], flat := [117] } .nil .nil))) (.node 205 { d := .struct [(0, 2, 39), (2, 1, 3)], size := 3, bytes := 40, zero := [(.ints true .u64 []), (.bool false), (.int .i64 (0 : Int))], flat := [35, 4, 3] } (.node 160 { d := .func, size := 1, bytes := 8, zero := [.nilf], flat := [160] } (.node 158 { d := .int .u64, size := 1, bytes := 8, zero := [(.int .u64 (0 : Int))], flat := [158] } .nil .nil) (.node 185 { d := .tuple, size := 1, bytes := 0, zero := [.undef], flat := [185] } .nil .nil)) (.node 213 { d := .struct [(0, 2, 47), (2, 1, 3)], size := 3, bytes := 40, zero := [(.ints true .i64 []), (.bool false), (.int .i64 (0 : Int))], flat := [45, 4, 3] } (.node 206 { d := .tuple, size := 1, bytes := 0, zero := [.undef], flat := [206] } .nil .nil) (.node 214 { d := .tuple, size := 1, bytes := 0, zero := [.undef], flat := [214] } .nil .nil)))) (.node 277 { d := .tuple, size := 1, bytes := 0, zero := [.undef], flat := [277] } (.node 265 { d := .tuple, size := 1, bytes := 0, zero := [.undef], flat := [265] } (.node 245 { d := .tuple, size := 1, bytes := 0, zero := [.undef], flat := [245] } (.node 243 { d := .tuple, size := 1, bytes := 0, zero := [.undef], flat := [243] } (.node 241 { d := .tuple, size := 1, bytes := 0, zero := [.undef], flat := [241] } .nil .nil) .nil) (.node 249 { d := .int .i64, size := 1, bytes := 8, zero := [(.int .i64 (0 : Int))], flat := [249] } .nil .nil)) (.node 274 { d := .struct [(0, 1, 272), (1, 1, 23)], size := 2, bytes := 32, zero := [.nilp, (.ints true .u8 [])], flat := [272, 23] } (.node 272 { d := .ptr 274, size := 1, bytes := 8, zero := [.nilp], flat := [272] } .nil .nil) (.node 276 { d := .iface, size := 1, bytes := 16, zero := [.nili], flat := [276] } .nil .nil))) (.node 304 { d := .tuple, size := 1, bytes := 0, zero := [.undef], flat := [304] } (.node 299 { d := .tuple, size := 1, bytes := 0, zero := [.undef], flat := [299] } (.node 288 { d := .tuple, size := 1, bytes := 0, zero := [.undef], flat := [288] } .nil .nil) (.node 302 { d := .tuple, size := 1, bytes := 0, zero := [.undef], flat := [302] } .nil .nil)) (.node 322 { d := .ptr 5, size := 1, bytes := 8, zero := [.nilp], flat := [322] } (.node 321 { d := .array 20 5, size := 20, bytes := 20, zero := [(.int .u8 (0 : Int)), (.int .u8 (0 : Int)), (.int .u8 (0 : Int)), (.int .u8 (0 : Int)), (.int .u8 (0 : Int)), (.int .u8 (0 : Int)), (.int .u8 (0 : Int)), (.int .u8 (0 : Int)), (.int .u8 (0 : Int)), (.int .u8 (0 : Int)), (.int .u8 (0 : Int)), (.int .u8 (0 : Int)), (.int .u8 (0 : Int)), (.int .u8 (0 : Int)), (.int .u8 (0 : Int)), (.int .u8 (0 : Int)), (.int .u8 (0 : Int)), (.int .u8 (0 : Int)), (.int .u8 (0 : Int)), (.int .u8 (0 : Int))], flat := [5, 5, 5, 5, 5, 5, 5, 5, 5, 5, 5, 5, 5, 5, 5, 5, 5, 5, 5, 5] } .nil .nil) (.node 331 { d := .array 12 3, size := 12, bytes := 96, zero := [(.int .i64 (0 : Int)), (.int .i64 (0 : Int)), (.int .i64 (0 : Int)), (.int .i64 (0 : Int)), (.int .i64 (0 : Int)), (.int .i64 (0 : Int)), (.int .i64 (0 : Int)), (.int .i64 (0 : Int)), (.int .i64 (0 : Int)), (.int .i64 (0 : Int)), (.int .i64 (0 : Int)), (.int .i64 (0 : Int))], flat := [3, 3, 3, 3, 3, 3, 3, 3, 3, 3, 3, 3] } .nil .nil))))))
end Go.Proofs.YtgjncgiekniniaaGreatDoor.A
end
section
set_option linter.unusedVariables false
namespace Go.Proofs.YtgjncgiekniniaaGreatDoor.A
open Go
noncomputable section
def z6.l2P  {R : Type} (rec : ((List UInt8) × Int × Int) → Option R) (done : ((List UInt8) × Int × Int) → Option R) : ((List UInt8) × Int × Int) → Option R := fun x => match x with
  | (s2003, d2005, k2006) => (bif (decide (k2006 < (4 : Int))) then (if ([(wr .u8 (wr .i64 ((48 : Int) + (Int.tmod d2005 (10 : Int)))))].map fun n => UInt8.ofNat n.toNat).length + s2003.length ≤ 9223372036854775807 then (rec ((([(wr .u8 (wr .i64 ((48 : Int) + (Int.tmod d2005 (10 : Int)))))].map fun n => UInt8.ofNat n.toNat) ++ s2003), (wr .i64 (Int.tdiv d2005 (10 : Int))), (wr .i64 (k2006 + (1 : Int))))) else none) else (done (s2003, d2005, k2006)))
def z6.l2  (x : ((List UInt8) × Int × Int)) : Option (((List UInt8) × Int × Int)) := lfp (fun rec x => z6.l2P  rec some x) x
def z6.l0P (a1001 : List Int) {R : Type} (rec : ((List UInt8) × Int) → Option R) (done : ((List UInt8) × Int) → Option R) : ((List UInt8) × Int) → Option R := fun x => match x with
  | (s1003, i1004) => (bif (decide (i1004 < (((a1001).length : Nat) : Int))) then (if (0 : Int) ≤ i1004 ∧ i1004 < (a1001.length : Int) then ((z6.l2 (s1003, (a1001.getD (i1004).toNat 0), (0 : Int))).bind fun o1005 => (rec (o1005.1, (wr .i64 (i1004 + (1 : Int)))))) else none) else (done (s1003, i1004)))
def z6.l0 (a1001 : List Int) (x : ((List UInt8) × Int)) : Option (((List UInt8) × Int)) := lfp (fun rec x => z6.l0P a1001 rec some x) x
def z6.l4P (s3002 : List UInt8) {R : Type} (rec : Int → Option R) (done : (Int) → Option R) : Int → Option R := fun i3003 => (if (0 : Int) ≤ i3003 ∧ i3003 < (s3002.length : Int) then (bif (decide (((s3002.getD (i3003).toNat 0).toNat : Int) = (48 : Int))) then (rec (wr .i64 (i3003 + (1 : Int)))) else (done i3003)) else none)
def z6.l4 (s3002 : List UInt8) (x : Int) : Option ((Int)) := lfp (fun rec x => z6.l4P s3002 rec some x) x
def z6.F (a0 : List Int) : Option ((List UInt8)) :=
  (bif (decide ((((a0).length : Nat) : Int) = (0 : Int))) then (some ([48] : List UInt8)) else ((z6.l0 a0 (([] : List UInt8), (0 : Int))).bind fun o1 => ((z6.l4 o1.1 (0 : Int)).bind fun o2 => (if (0 : Int) ≤ o2 ∧ o2 ≤ ((o1.1).length : Int) then (some (o1.1.drop (o2).toNat)) else none))))
def z6.enc (r : (List UInt8)) : V := (.str r)
def z6.pack : List V → Option Pack
  | [(.ints _ .i64 a0)] => some ⟨(List UInt8), z6.F a0, z6.enc⟩
  | _ => none
def z7.F (a0 : List Int) (a1 : Bool) : Option ((List UInt8)) :=
  ((z6.F a0).bind fun r1 => (bif a1 then (if ([45] : List UInt8).length + r1.length ≤ 9223372036854775807 then (some (([45] : List UInt8) ++ r1)) else none) else (some r1)))
def z7.enc (r : (List UInt8)) : V := (.str r)
def z7.pack : List V → Option Pack
  | [(.agg [(.ints _ .i64 a0), (.bool a1)])] => some ⟨(List UInt8), z7.F a0 a1, z7.enc⟩
  | _ => none
def z8.F (a0 : List Int) (a1 : Bool) : Option ((List Int) × Bool) :=
  (bif a1 then (some (a0, (decide ((((a0).length : Nat) : Int) > (0 : Int))))) else (some (a0, false)))
def z8.enc (r : (List Int) × Bool) : V := (.agg [(.ints false .i64 r.1), (.bool r.2)])
def z8.pack : List V → Option Pack
  | [(.ints _ .i64 a0), (.bool a1)] => some ⟨(List Int) × Bool, z8.F a0 a1, z8.enc⟩
  | _ => none
def z9.l0P  {R : Type} (rec : (Int × (List Int)) → Option R) (done : (Int × (List Int)) → Option R) : (Int × (List Int)) → Option R := fun x => match x with
  | (n1001, s1003) => (bif (decide (n1001 > (0 : Int))) then (if ((s1003).length + ([(Int.tmod n1001 (10000 : Int))]).length) * 8 ≤ 140737488355328 then (rec ((wr .i64 (Int.tdiv n1001 (10000 : Int))), (s1003 ++ [(Int.tmod n1001 (10000 : Int))]))) else none) else (done (n1001, s1003)))
def z9.l0  (x : (Int × (List Int))) : Option ((Int × (List Int))) := lfp (fun rec x => z9.l0P  rec some x) x
def z9.F (a0 : Int) : Option ((List Int)) :=
  ((z9.l0 (a0, [])).bind fun o1 => (some o1.2))
def z9.enc (r : (List Int)) : V := (.ints false .i64 r)
def z9.pack : List V → Option Pack
  | [(.int .i64 a0)] => some ⟨(List Int), z9.F a0, z9.enc⟩
  | _ => none
def z10.F (a0 : Int) : Option ((List Int) × Bool) :=
  (bif (decide (a0 < (0 : Int))) then ((z9.F (wr .i64 (0 - a0))).bind fun r1 => ((z8.F r1 true).bind fun r2 => (some (r2.1, r2.2)))) else ((z9.F a0).bind fun r3 => ((z8.F r3 false).bind fun r4 => (some (r4.1, r4.2)))))
def z10.enc (r : (List Int) × Bool) : V := (.agg [(.ints false .i64 r.1), (.bool r.2)])
def z10.pack : List V → Option Pack
  | [(.int .i64 a0)] => some ⟨(List Int) × Bool, z10.F a0, z10.enc⟩
  | _ => none
def z11.F (a0 : List Int) (a1 : Int) : Option (Int) :=
  (bif (decide (a1 ≥ (((a0).length : Nat) : Int))) then (some (0 : Int)) else (if (0 : Int) ≤ a1 ∧ a1 < (a0.length : Int) then (some (a0.getD (a1).toNat 0)) else none))
def z11.enc (r : Int) : V := (.int .i64 r)
def z11.pack : List V → Option Pack
  | [(.ints _ .i64 a0), (.int .i64 a1)] => some ⟨Int, z11.F a0 a1, z11.enc⟩
  | _ => none
def z12.l0b6P (a7001 : List Int) {R : Type} (rec : Int → Option R) (done : (Int) → Option R) : Int → Option R := fun n7002 => (bif (decide (n7002 > (0 : Int))) then (if (0 : Int) ≤ (wr .i64 (n7002 - (1 : Int))) ∧ (wr .i64 (n7002 - (1 : Int))) < (a7001.length : Int) then (bif (decide ((a7001.getD ((wr .i64 (n7002 - (1 : Int)))).toNat 0) = (0 : Int))) then (rec (wr .i64 (n7002 - (1 : Int)))) else (done n7002)) else none) else (done n7002))
def z12.l0b6 (a7001 : List Int) (x : Int) : Option ((Int)) := lfp (fun rec x => z12.l0b6P a7001 rec some x) x
def z12.F (a0 : List Int) : Option ((List Int)) :=
  ((z12.l0b6 a0 (((a0).length : Nat) : Int)).bind fun o1 => (if (0 : Int) ≤ o1 ∧ o1 ≤ (a0.length : Int) then (some (a0.take (o1).toNat)) else none))
def z12.enc (r : (List Int)) : V := (.ints false .i64 r)
def z12.pack : List V → Option Pack
  | [(.ints _ .i64 a0)] => some ⟨(List Int), z12.F a0, z12.enc⟩
  | _ => none
def z13.l2aaP (a4001 : List Int) (b4002 : List Int) (i4003 : Int) {R : Type} (rec : (Int × Int × (List Int)) → Option R) (done : (Int × Int × (List Int)) → Option R) : (Int × Int × (List Int)) → Option R := fun x => match x with
  | (carry4004, k4005, s4007) => (bif (decide (k4005 < (((b4002).length : Nat) : Int))) then ((z11.F b4002 k4005).bind fun r4008 => (if (0 : Int) ≤ (wr .i64 (i4003 + k4005)) ∧ (wr .i64 (i4003 + k4005)) < (s4007.length : Int) then (if ((wr .i64 (i4003 + k4005))).toNat < s4007.length then (if (0 : Int) ≤ i4003 ∧ i4003 < (a4001.length : Int) then (if (0 : Int) ≤ (wr .i64 (i4003 + k4005)) ∧ (wr .i64 (i4003 + k4005)) < (s4007.length : Int) then (if ((wr .i64 (i4003 + k4005))).toNat < s4007.length then (rec ((wr .i64 (Int.tdiv (wr .i64 ((wr .i64 ((s4007.getD ((wr .i64 (i4003 + k4005))).toNat 0) + (wr .i64 ((a4001.getD (i4003).toNat 0) * r4008)))) + carry4004)) (10000 : Int))), (wr .i64 (k4005 + (1 : Int))), (s4007.set ((wr .i64 (i4003 + k4005))).toNat (Int.tmod (wr .i64 ((wr .i64 ((s4007.getD ((wr .i64 (i4003 + k4005))).toNat 0) + (wr .i64 ((a4001.getD (i4003).toNat 0) * r4008)))) + carry4004)) (10000 : Int))))) else none) else none) else none) else none) else none)) else (bif (decide (carry4004 > (0 : Int))) then ((z11.F b4002 k4005).bind fun r4009 => (if (0 : Int) ≤ (wr .i64 (i4003 + k4005)) ∧ (wr .i64 (i4003 + k4005)) < (s4007.length : Int) then (if ((wr .i64 (i4003 + k4005))).toNat < s4007.length then (if (0 : Int) ≤ i4003 ∧ i4003 < (a4001.length : Int) then (if (0 : Int) ≤ (wr .i64 (i4003 + k4005)) ∧ (wr .i64 (i4003 + k4005)) < (s4007.length : Int) then (if ((wr .i64 (i4003 + k4005))).toNat < s4007.length then (rec ((wr .i64 (Int.tdiv (wr .i64 ((wr .i64 ((s4007.getD ((wr .i64 (i4003 + k4005))).toNat 0) + (wr .i64 ((a4001.getD (i4003).toNat 0) * r4009)))) + carry4004)) (10000 : Int))), (wr .i64 (k4005 + (1 : Int))), (s4007.set ((wr .i64 (i4003 + k4005))).toNat (Int.tmod (wr .i64 ((wr .i64 ((s4007.getD ((wr .i64 (i4003 + k4005))).toNat 0) + (wr .i64 ((a4001.getD (i4003).toNat 0) * r4009)))) + carry4004)) (10000 : Int))))) else none) else none) else none) else none) else none)) else (done (carry4004, k4005, s4007))))
def z13.l2aa (a4001 : List Int) (b4002 : List Int) (i4003 : Int) (x : (Int × Int × (List Int))) : Option ((Int × Int × (List Int))) := lfp (fun rec x => z13.l2aaP a4001 b4002 i4003 rec some x) x
def z13.l0P (a1001 : List Int) (b1002 : List Int) {R : Type} (rec : (Int × (List Int)) → Option R) (done : (Int × (List Int)) → Option R) : (Int × (List Int)) → Option R := fun x => match x with
  | (i1003, s1005) => (bif (decide (i1003 < (((a1001).length : Nat) : Int))) then ((z13.l2aa a1001 b1002 i1003 ((0 : Int), (0 : Int), s1005)).bind fun o1006 => (rec ((wr .i64 (i1003 + (1 : Int))), o1006.2.2))) else (done (i1003, s1005)))
def z13.l0 (a1001 : List Int) (b1002 : List Int) (x : (Int × (List Int))) : Option ((Int × (List Int))) := lfp (fun rec x => z13.l0P a1001 b1002 rec some x) x
def z13.F (a0 : List Int) (a1 : List Int) : Option ((List Int)) :=
  (if 0 ≤ (wr .i64 ((wr .i64 ((((a0).length : Nat) : Int) + (((a1).length : Nat) : Int))) + (1 : Int))) ∧ (wr .i64 ((wr .i64 ((((a0).length : Nat) : Int) + (((a1).length : Nat) : Int))) + (1 : Int))) * 8 ≤ 140737488355328 then ((z13.l0 a0 a1 ((0 : Int), (List.replicate ((wr .i64 ((wr .i64 ((((a0).length : Nat) : Int) + (((a1).length : Nat) : Int))) + (1 : Int)))).toNat (0 : Int)))).bind fun o1 => ((z12.F o1.2).bind fun r2 => (some r2))) else none)
def z13.enc (r : (List Int)) : V := (.ints false .i64 r)
def z13.pack : List V → Option Pack
  | [(.ints _ .i64 a0), (.ints _ .i64 a1)] => some ⟨(List Int), z13.F a0 a1, z13.enc⟩
  | _ => none
def z14.F (a0 : List Int) (a1 : Bool) (a2 : List Int) (a3 : Bool) : Option ((List Int) × Bool) :=
  ((z13.F a0 a2).bind fun r1 => ((z8.F r1 (!decide (a1 = a3))).bind fun r2 => (some (r2.1, r2.2))))
def z14.enc (r : (List Int) × Bool) : V := (.agg [(.ints false .i64 r.1), (.bool r.2)])
def z14.pack : List V → Option Pack
  | [(.agg [(.ints _ .i64 a0), (.bool a1)]), (.agg [(.ints _ .i64 a2), (.bool a3)])] => some ⟨(List Int) × Bool, z14.F a0 a1 a2 a3, z14.enc⟩
  | _ => none
def z15.F (a0 : List Int) : Option (Bool) :=
  (some (decide ((((a0).length : Nat) : Int) = (0 : Int))))
def z15.enc (r : Bool) : V := (.bool r)
def z15.pack : List V → Option Pack
  | [(.agg [(.ints _ .u64 a0)])] => some ⟨Bool, z15.F a0, z15.enc⟩
  | _ => none
def z16.F (a0 : List Int) (a1 : Bool) : Option (Int) :=
  ((z15.F a0).bind fun r1 => (bif r1 then (some (0 : Int)) else (bif a1 then (some (-1 : Int)) else (some (1 : Int)))))
def z16.enc (r : Int) : V := (.int .i64 r)
def z16.pack : List V → Option Pack
  | [(.agg [(.ints _ .u64 a0), (.bool a1)])] => some ⟨Int, z16.F a0 a1, z16.enc⟩
  | _ => none
def z17.F (a0 : List Int) (a1 : Bool) : Option ((List Int) × Bool) :=
  (bif a1 then ((z15.F a0).bind fun r1 => (some (a0, (!r1)))) else (some (a0, false)))
def z17.enc (r : (List Int) × Bool) : V := (.agg [(.ints false .u64 r.1), (.bool r.2)])
def z17.pack : List V → Option Pack
  | [(.agg [(.ints _ .u64 a0)]), (.bool a1)] => some ⟨(List Int) × Bool, z17.F a0 a1, z17.enc⟩
  | _ => none
def z18.F (a0 : List Int) (a1 : Int) : Option (Int) :=
  (bif (decide (a1 ≥ (((a0).length : Nat) : Int))) then (some (0 : Int)) else (if (0 : Int) ≤ a1 ∧ a1 < (a0.length : Int) then (some (a0.getD (a1).toNat 0)) else none))
def z18.enc (r : Int) : V := (.int .u64 r)
def z18.pack : List V → Option Pack
  | [(.agg [(.ints _ .u64 a0)]), (.int .i64 a1)] => some ⟨Int, z18.F a0 a1, z18.enc⟩
  | _ => none
def z19.l0b6P (l7001 : List Int) {R : Type} (rec : Int → Option R) (done : (Int) → Option R) : Int → Option R := fun n7002 => (bif (decide (n7002 > (0 : Int))) then (if (0 : Int) ≤ (wr .i64 (n7002 - (1 : Int))) ∧ (wr .i64 (n7002 - (1 : Int))) < (l7001.length : Int) then (bif (decide ((l7001.getD ((wr .i64 (n7002 - (1 : Int)))).toNat 0) = (0 : Int))) then (rec (wr .i64 (n7002 - (1 : Int)))) else (done n7002)) else none) else (done n7002))
def z19.l0b6 (l7001 : List Int) (x : Int) : Option ((Int)) := lfp (fun rec x => z19.l0b6P l7001 rec some x) x
def z19.F (a0 : List Int) : Option ((List Int)) :=
  ((z19.l0b6 a0 (((a0).length : Nat) : Int)).bind fun o1 => (if (0 : Int) ≤ o1 ∧ o1 ≤ o1 ∧ o1 ≤ (a0.length : Int) then (some (a0.take (o1).toNat)) else none))
def z19.enc (r : (List Int)) : V := (.agg [(.ints false .u64 r)])
def z19.pack : List V → Option Pack
  | [(.ints _ .u64 a0)] => some ⟨(List Int), z19.F a0, z19.enc⟩
  | _ => none
def z20.l0P (t1002 : Int) (s1004 : List Int) (s1005 : List Int) {R : Type} (rec : (Int × Int × (List Int)) → Option R) (done : (Int × Int × (List Int)) → Option R) : (Int × Int × (List Int)) → Option R := fun x => match x with
  | (carry1001, t1003, s1007) => (bif (decide (t1003 < t1002)) then ((z18.F s1004 t1003).bind fun r1008 => ((z18.F s1005 t1003).bind fun r1009 => ((z0.F r1008 r1009 carry1001).bind fun r1010 => (if (0 : Int) ≤ t1003 ∧ t1003 < (s1007.length : Int) then (if (t1003).toNat < s1007.length then (rec (r1010.2, (wr .i64 (t1003 + (1 : Int))), (s1007.set (t1003).toNat r1010.1))) else none) else none)))) else (done (carry1001, t1003, s1007)))
def z20.l0 (t1002 : Int) (s1004 : List Int) (s1005 : List Int) (x : (Int × Int × (List Int))) : Option ((Int × Int × (List Int))) := lfp (fun rec x => z20.l0P t1002 s1004 s1005 rec some x) x
def z20.F (a0 : List Int) (a1 : List Int) : Option ((List Int)) :=
  (if 0 ≤ (wr .i64 ((if (((a1).length : Nat) : Int) > (((a0).length : Nat) : Int) then (((a1).length : Nat) : Int) else (((a0).length : Nat) : Int)) + (1 : Int))) ∧ (wr .i64 ((if (((a1).length : Nat) : Int) > (((a0).length : Nat) : Int) then (((a1).length : Nat) : Int) else (((a0).length : Nat) : Int)) + (1 : Int))) * 8 ≤ 140737488355328 then ((z20.l0 ((((List.replicate ((wr .i64 ((if (((a1).length : Nat) : Int) > (((a0).length : Nat) : Int) then (((a1).length : Nat) : Int) else (((a0).length : Nat) : Int)) + (1 : Int)))).toNat (0 : Int))).length : Nat) : Int) a0 a1 ((0 : Int), (0 : Int), (List.replicate ((wr .i64 ((if (((a1).length : Nat) : Int) > (((a0).length : Nat) : Int) then (((a1).length : Nat) : Int) else (((a0).length : Nat) : Int)) + (1 : Int)))).toNat (0 : Int)))).bind fun o1 => ((z19.F o1.2.2).bind fun r2 => (some r2))) else none)
def z20.enc (r : (List Int)) : V := (.agg [(.ints false .u64 r)])
def z20.pack : List V → Option Pack
  | [(.agg [(.ints _ .u64 a0)]), (.agg [(.ints _ .u64 a1)])] => some ⟨(List Int), z20.F a0 a1, z20.enc⟩
  | _ => none
def z21.F (a0 : Int) : Option (Bool) :=
  (some (!decide (a0 = a0)))
def z21.enc (r : Bool) : V := (.bool r)
def z21.pack : List V → Option Pack
  | [(.int .i64 a0)] => some ⟨Bool, z21.F a0, z21.enc⟩
  | _ => none
def z22.F (a0 : Int) (a1 : Int) : Option (Int) :=
  ((z21.F a0).bind fun r1 => ((z21.F a1).bind fun r2 => (bif r1 then (bif r2 then (some (0 : Int)) else (some (-1 : Int))) else (bif r2 then (some (1 : Int)) else (bif (decide (a0 < a1)) then (some (-1 : Int)) else (bif (decide (a0 > a1)) then (some (1 : Int)) else (some (0 : Int))))))))
def z22.enc (r : Int) : V := (.int .i64 r)
def z22.pack : List V → Option Pack
  | [(.int .i64 a0), (.int .i64 a1)] => some ⟨Int, z22.F a0 a1, z22.enc⟩
  | _ => none
def z23.F (a0 : Int) : Option (Bool) :=
  (some (!decide (a0 = a0)))
def z23.enc (r : Bool) : V := (.bool r)
def z23.pack : List V → Option Pack
  | [(.int .u64 a0)] => some ⟨Bool, z23.F a0, z23.enc⟩
  | _ => none
def z24.F (a0 : Int) (a1 : Int) : Option (Int) :=
  ((z23.F a0).bind fun r1 => ((z23.F a1).bind fun r2 => (bif r1 then (bif r2 then (some (0 : Int)) else (some (-1 : Int))) else (bif r2 then (some (1 : Int)) else (bif (decide (a0 < a1)) then (some (-1 : Int)) else (bif (decide (a0 > a1)) then (some (1 : Int)) else (some (0 : Int))))))))
def z24.enc (r : Int) : V := (.int .i64 r)
def z24.pack : List V → Option Pack
  | [(.int .u64 a0), (.int .u64 a1)] => some ⟨Int, z24.F a0 a1, z24.enc⟩
  | _ => none
def z25.l0P (s1003 : List Int) (s1004 : List Int) {R : Type} (rec : Int → Option R) (done : ((Int) ⊕ (Int)) → Option R) : Int → Option R := fun i1002 => (bif (decide (i1002 ≥ (0 : Int))) then (if (0 : Int) ≤ i1002 ∧ i1002 < (s1003.length : Int) then (if (0 : Int) ≤ i1002 ∧ i1002 < (s1004.length : Int) then ((z24.F (s1003.getD (i1002).toNat 0) (s1004.getD (i1002).toNat 0)).bind fun r1005 => (bif (!decide (r1005 = (0 : Int))) then (done (.inr r1005)) else (rec (wr .i64 (i1002 - (1 : Int)))))) else none) else none) else (done (.inl i1002)))
def z25.l0 (s1003 : List Int) (s1004 : List Int) (x : Int) : Option (((Int) ⊕ (Int))) := lfp (fun rec x => z25.l0P s1003 s1004 rec some x) x
def z25.F (a0 : List Int) (a1 : List Int) : Option (Int) :=
  ((z22.F (((a0).length : Nat) : Int) (((a1).length : Nat) : Int)).bind fun r1 => (bif (!decide (r1 = (0 : Int))) then (some r1) else ((z25.l0 a0 a1 (wr .i64 ((((a0).length : Nat) : Int) - (1 : Int)))).bind fun o2 => match o2 with | .inl p3 => (some (0 : Int)) | .inr q4 => (some q4))))
def z25.enc (r : Int) : V := (.int .i64 r)
def z25.pack : List V → Option Pack
  | [(.agg [(.ints _ .u64 a0)]), (.agg [(.ints _ .u64 a1)])] => some ⟨Int, z25.F a0 a1, z25.enc⟩
  | _ => none
def z26.l0P (t1003 : Int) (s1005 : List Int) (s1006 : List Int) {R : Type} (rec : (Int × Int × (List Int)) → Option R) (done : (Int × Int × (List Int)) → Option R) : (Int × Int × (List Int)) → Option R := fun x => match x with
  | (borrow1002, t1004, s1008) => (bif (decide (t1004 < t1003)) then (if (0 : Int) ≤ t1004 ∧ t1004 < (s1005.length : Int) then ((z18.F s1006 t1004).bind fun r1009 => ((z1.F (s1005.getD (t1004).toNat 0) r1009 borrow1002).bind fun r1010 => (if (0 : Int) ≤ t1004 ∧ t1004 < (s1008.length : Int) then (if (t1004).toNat < s1008.length then (rec (r1010.2, (wr .i64 (t1004 + (1 : Int))), (s1008.set (t1004).toNat r1010.1))) else none) else none))) else none) else (done (borrow1002, t1004, s1008)))
def z26.l0 (t1003 : Int) (s1005 : List Int) (s1006 : List Int) (x : (Int × Int × (List Int))) : Option ((Int × Int × (List Int))) := lfp (fun rec x => z26.l0P t1003 s1005 s1006 rec some x) x
def z26.F (a0 : List Int) (a1 : List Int) : Option ((List Int) × Bool) :=
  ((z25.F a0 a1).bind fun r1 => (bif (decide (r1 < (0 : Int))) then (some ([], false)) else (if 0 ≤ (((a0).length : Nat) : Int) ∧ (((a0).length : Nat) : Int) * 8 ≤ 140737488355328 then ((z26.l0 ((((List.replicate ((((a0).length : Nat) : Int)).toNat (0 : Int))).length : Nat) : Int) a0 a1 ((0 : Int), (0 : Int), (List.replicate ((((a0).length : Nat) : Int)).toNat (0 : Int)))).bind fun o2 => ((z19.F o2.2.2).bind fun r3 => (some (r3, true)))) else none)))
def z26.enc (r : (List Int) × Bool) : V := (.tup [(.agg [(.ints false .u64 r.1)]), (.bool r.2)])
def z26.pack : List V → Option Pack
  | [(.agg [(.ints _ .u64 a0)]), (.agg [(.ints _ .u64 a1)])] => some ⟨(List Int) × Bool, z26.F a0 a1, z26.enc⟩
  | _ => none
def z27.F (a0 : List Int) (a1 : Bool) (a2 : List Int) (a3 : Bool) : Option ((List Int) × Bool) :=
  (bif (decide (a1 = a3)) then ((z20.F a0 a2).bind fun r1 => ((z17.F r1 a1).bind fun r2 => (some (r2.1, r2.2)))) else ((z26.F a0 a2).bind fun r3 => (bif r3.2 then ((z17.F r3.1 a1).bind fun r4 => (some (r4.1, r4.2))) else ((z26.F a2 a0).bind fun r5 => ((z17.F r5.1 a3).bind fun r6 => (some (r6.1, r6.2)))))))
def z27.enc (r : (List Int) × Bool) : V := (.agg [(.ints false .u64 r.1), (.bool r.2)])
def z27.pack : List V → Option Pack
  | [(.agg [(.ints _ .u64 a0), (.bool a1)]), (.agg [(.ints _ .u64 a2), (.bool a3)])] => some ⟨(List Int) × Bool, z27.F a0 a1 a2 a3, z27.enc⟩
  | _ => none
def z28.F (a0 : List Int) (a1 : Bool) : Option ((List Int) × Bool) :=
  ((z17.F a0 (!a1)).bind fun r1 => (some (r1.1, r1.2)))
def z28.enc (r : (List Int) × Bool) : V := (.agg [(.ints false .u64 r.1), (.bool r.2)])
def z28.pack : List V → Option Pack
  | [(.agg [(.ints _ .u64 a0), (.bool a1)])] => some ⟨(List Int) × Bool, z28.F a0 a1, z28.enc⟩
  | _ => none
def z29.F (a0 : List Int) (a1 : Bool) (a2 : List Int) (a3 : Bool) : Option ((List Int) × Bool) :=
  ((z28.F a2 a3).bind fun r1 => ((z27.F a0 a1 r1.1 r1.2).bind fun r2 => (some (r2.1, r2.2))))
def z29.enc (r : (List Int) × Bool) : V := (.agg [(.ints false .u64 r.1), (.bool r.2)])
def z29.pack : List V → Option Pack
  | [(.agg [(.ints _ .u64 a0), (.bool a1)]), (.agg [(.ints _ .u64 a2), (.bool a3)])] => some ⟨(List Int) × Bool, z29.F a0 a1 a2 a3, z29.enc⟩
  | _ => none
def z30.F (a0 : List Int) (a1 : Bool) (a2 : List Int) (a3 : Bool) : Option (Int) :=
  ((z29.F a0 a1 a2 a3).bind fun r1 => ((z16.F r1.1 r1.2).bind fun r2 => (some r2)))
def z30.enc (r : Int) : V := (.int .i64 r)
def z30.pack : List V → Option Pack
  | [(.agg [(.ints _ .u64 a0), (.bool a1)]), (.agg [(.ints _ .u64 a2), (.bool a3)])] => some ⟨Int, z30.F a0 a1 a2 a3, z30.enc⟩
  | _ => none
def z31.F (a0 : List UInt8) (a1 : List UInt8) : Option (Bool) :=
  (bif (decide ((a0.length : Int) ≥ (a1.length : Int))) then (if (0 : Int) ≤ (a1.length : Int) ∧ (a1.length : Int) ≤ ((a0).length : Int) then (some (decide ((a0.take ((a1.length : Int)).toNat) = a1))) else none) else (some false))
def z31.enc (r : Bool) : V := (.bool r)
def z31.pack : List V → Option Pack
  | [(.str a0), (.str a1)] => some ⟨Bool, z31.F a0 a1, z31.enc⟩
  | _ => none
def z32.F (a0 : List UInt8) (a1 : List UInt8) : Option ((List UInt8) × Bool) :=
  ((z31.F a0 a1).bind fun r1 => (bif (!r1) then (some (a0, false)) else (if (0 : Int) ≤ (a1.length : Int) ∧ (a1.length : Int) ≤ ((a0).length : Int) then (some ((a0.drop ((a1.length : Int)).toNat), true)) else none)))
def z32.enc (r : (List UInt8) × Bool) : V := (.tup [(.str r.1), (.bool r.2)])
def z32.pack : List V → Option Pack
  | [(.str a0), (.str a1)] => some ⟨(List UInt8) × Bool, z32.F a0 a1, z32.enc⟩
  | _ => none
def z33.F (a0 : List UInt8) (a1 : List UInt8) : Option ((List UInt8) × Bool) :=
  ((z32.F a0 a1).bind fun r1 => (some (r1.1, r1.2)))
def z33.enc (r : (List UInt8) × Bool) : V := (.tup [(.str r.1), (.bool r.2)])
def z33.pack : List V → Option Pack
  | [(.str a0), (.str a1)] => some ⟨(List UInt8) × Bool, z33.F a0 a1, z33.enc⟩
  | _ => none
def z34.F (a0 : List Int) : Option ((List Int)) :=
  (if (a0).length * 8 ≤ 140737488355328 then ((z19.F a0).bind fun r1 => (some r1)) else none)
def z34.enc (r : (List Int)) : V := (.agg [(.ints false .u64 r)])
def z34.pack : List V → Option Pack
  | [(.ints _ .u64 a0)] => some ⟨(List Int), z34.F a0, z34.enc⟩
  | _ => none
def z35.F (a0 : Int) (a1 : Int) : Option (Int × Int) :=
  (some ((wr .u64 ((wr .u64 ((wr .u64 ((Int.fdiv a0 (2 ^ (min 32 (64 : Nat)))) * (Int.fdiv a1 (2 ^ (min 32 (64 : Nat)))))) + (Int.fdiv (wr .u64 ((wr .u64 ((Int.fdiv a0 (2 ^ (min 32 (64 : Nat)))) * (wr .u64 ((BitVec.ofInt (IntKind.bits .u64) a1 &&& BitVec.ofInt (IntKind.bits .u64) (4294967295 : Int)).toNat : Int)))) + (Int.fdiv (wr .u64 ((wr .u64 ((BitVec.ofInt (IntKind.bits .u64) a0 &&& BitVec.ofInt (IntKind.bits .u64) (4294967295 : Int)).toNat : Int)) * (wr .u64 ((BitVec.ofInt (IntKind.bits .u64) a1 &&& BitVec.ofInt (IntKind.bits .u64) (4294967295 : Int)).toNat : Int)))) (2 ^ (min 32 (64 : Nat)))))) (2 ^ (min 32 (64 : Nat)))))) + (Int.fdiv (wr .u64 ((wr .u64 ((BitVec.ofInt (IntKind.bits .u64) (wr .u64 ((wr .u64 ((Int.fdiv a0 (2 ^ (min 32 (64 : Nat)))) * (wr .u64 ((BitVec.ofInt (IntKind.bits .u64) a1 &&& BitVec.ofInt (IntKind.bits .u64) (4294967295 : Int)).toNat : Int)))) + (Int.fdiv (wr .u64 ((wr .u64 ((BitVec.ofInt (IntKind.bits .u64) a0 &&& BitVec.ofInt (IntKind.bits .u64) (4294967295 : Int)).toNat : Int)) * (wr .u64 ((BitVec.ofInt (IntKind.bits .u64) a1 &&& BitVec.ofInt (IntKind.bits .u64) (4294967295 : Int)).toNat : Int)))) (2 ^ (min 32 (64 : Nat)))))) &&& BitVec.ofInt (IntKind.bits .u64) (4294967295 : Int)).toNat : Int)) + (wr .u64 ((wr .u64 ((BitVec.ofInt (IntKind.bits .u64) a0 &&& BitVec.ofInt (IntKind.bits .u64) (4294967295 : Int)).toNat : Int)) * (Int.fdiv a1 (2 ^ (min 32 (64 : Nat)))))))) (2 ^ (min 32 (64 : Nat)))))), (wr .u64 (a0 * a1))))
def z35.enc (r : Int × Int) : V := (.tup [(.int .u64 r.1), (.int .u64 r.2)])
def z35.pack : List V → Option Pack
  | [(.int .u64 a0), (.int .u64 a1)] => some ⟨Int × Int, z35.F a0 a1, z35.enc⟩
  | _ => none
def z36.l0aP (x2001 : Int) (l2002 : Nat) (l2003 : Nat) (t2005 : List Int) (t2006 : Int) {R : Type} (rec : (Int × Int × (List Int)) → Option R) (done : (Int × Int × (List Int)) → Option R) : (Int × Int × (List Int)) → Option R := fun x => match x with
  | (carry2004, t2007, s2010) => (bif (decide (t2007 < t2006)) then (if (0 : Int) ≤ t2007 ∧ t2007 < (t2005.length : Int) then ((z35.F x2001 (t2005.getD (t2007).toNat 0)).bind fun r2012 => ((z0.F r2012.2 carry2004 (0 : Int)).bind fun r2013 => (if (0 : Int) ≤ t2007 ∧ t2007 < ((l2003 : Nat) : Int) then (if (l2002 + (t2007).toNat) < s2010.length then ((z0.F (s2010.getD (l2002 + (t2007).toNat) 0) r2013.1 (0 : Int)).bind fun r2014 => (if (0 : Int) ≤ t2007 ∧ t2007 < ((l2003 : Nat) : Int) then (if (l2002 + (t2007).toNat) < s2010.length then (rec ((wr .u64 ((wr .u64 (r2012.1 + r2013.2)) + r2014.2)), (wr .i64 (t2007 + (1 : Int))), (s2010.set (l2002 + (t2007).toNat) r2014.1))) else none) else none)) else none) else none))) else none) else (done (carry2004, t2007, s2010)))
def z36.l0a (x2001 : Int) (l2002 : Nat) (l2003 : Nat) (t2005 : List Int) (t2006 : Int) (x : (Int × Int × (List Int))) : Option ((Int × Int × (List Int))) := lfp (fun rec x => z36.l0aP x2001 l2002 l2003 t2005 t2006 rec some x) x
def z36.l0P (t1001 : List Int) (t1002 : Int) (s1004 : List Int) {R : Type} (rec : (Int × (List Int)) → Option R) (done : (Int × (List Int)) → Option R) : (Int × (List Int)) → Option R := fun x => match x with
  | (t1003, s1006) => (bif (decide (t1003 < t1002)) then (if (0 : Int) ≤ t1003 ∧ t1003 < (t1001.length : Int) then (if (0 : Int) ≤ t1003 ∧ t1003 ≤ ((s1006).length : Int) then ((z36.l0a (t1001.getD (t1003).toNat 0) (t1003).toNat ((s1006).length - (t1003).toNat) s1004 (((s1004).length : Nat) : Int) ((0 : Int), (0 : Int), s1006)).bind fun o1007 => (if (0 : Int) ≤ (((s1004).length : Nat) : Int) ∧ (((s1004).length : Nat) : Int) < ((((s1006).length - (t1003).toNat) : Nat) : Int) then (if ((t1003).toNat + ((((s1004).length : Nat) : Int)).toNat) < o1007.2.2.length then (if (0 : Int) ≤ (((s1004).length : Nat) : Int) ∧ (((s1004).length : Nat) : Int) < ((((s1006).length - (t1003).toNat) : Nat) : Int) then (if ((t1003).toNat + ((((s1004).length : Nat) : Int)).toNat) < o1007.2.2.length then (rec ((wr .i64 (t1003 + (1 : Int))), (o1007.2.2.set ((t1003).toNat + ((((s1004).length : Nat) : Int)).toNat) (wr .u64 ((o1007.2.2.getD ((t1003).toNat + ((((s1004).length : Nat) : Int)).toNat) 0) + o1007.1))))) else none) else none) else none) else none)) else none) else none) else (done (t1003, s1006)))
def z36.l0 (t1001 : List Int) (t1002 : Int) (s1004 : List Int) (x : (Int × (List Int))) : Option ((Int × (List Int))) := lfp (fun rec x => z36.l0P t1001 t1002 s1004 rec some x) x
def z36.F (a0 : List Int) (a1 : List Int) : Option ((List Int)) :=
  (if 0 ≤ (wr .i64 ((wr .i64 ((((a0).length : Nat) : Int) + (((a1).length : Nat) : Int))) + (1 : Int))) ∧ (wr .i64 ((wr .i64 ((((a0).length : Nat) : Int) + (((a1).length : Nat) : Int))) + (1 : Int))) * 8 ≤ 140737488355328 then ((z36.l0 a1 (((a1).length : Nat) : Int) a0 ((0 : Int), (List.replicate ((wr .i64 ((wr .i64 ((((a0).length : Nat) : Int) + (((a1).length : Nat) : Int))) + (1 : Int)))).toNat (0 : Int)))).bind fun o1 => ((z19.F o1.2).bind fun r2 => (some r2))) else none)
def z36.enc (r : (List Int)) : V := (.agg [(.ints false .u64 r)])
def z36.pack : List V → Option Pack
  | [(.agg [(.ints _ .u64 a0)]), (.agg [(.ints _ .u64 a1)])] => some ⟨(List Int), z36.F a0 a1, z36.enc⟩
  | _ => none
def z37.l2P (s2007 : List UInt8) {R : Type} (rec : (Int × Nat) → Option R) (done : (Int × Nat) → Option R) : (Int × Nat) → Option R := fun x => match x with
  | (part2004, s2008) => (if s2008 < s2007.length then (rec ((wr .u64 ((wr .u64 ((10 : Int) * part2004)) + (wr .u64 (wr .i32 (((Utf8.decode ⟨s2007.toArray⟩ s2008).1 : Int) - (48 : Int)))))), (s2008 + (Utf8.decode ⟨s2007.toArray⟩ s2008).2))) else (done (part2004, s2008)))
def z37.l2 (s2007 : List UInt8) (x : (Int × Nat)) : Option ((Int × Nat)) := lfp (fun rec x => z37.l2P s2007 rec some x) x
def z37.l2aP (s3009 : List UInt8) {R : Type} (rec : (Int × Nat) → Option R) (done : (Int × Nat) → Option R) : (Int × Nat) → Option R := fun x => match x with
  | (part3004, s3010) => (if s3010 < s3009.length then (rec ((wr .u64 ((wr .u64 ((10 : Int) * part3004)) + (wr .u64 (wr .i32 (((Utf8.decode ⟨s3009.toArray⟩ s3010).1 : Int) - (48 : Int)))))), (s3010 + (Utf8.decode ⟨s3009.toArray⟩ s3010).2))) else (done (part3004, s3010)))
def z37.l2a (s3009 : List UInt8) (x : (Int × Nat)) : Option ((Int × Nat)) := lfp (fun rec x => z37.l2aP s3009 rec some x) x
def z37.j5011a {R : Type} (rec : ((List UInt8) × Bool × (List Int)) → Option R) (done : ((List UInt8) × Bool × (List Int)) → Option R) (j5011 : Int) (s5001 : List UInt8) (s5005 : List Int) : Option R :=
  (if (0 : Int) ≤ j5011 ∧ j5011 ≤ ((s5001).length : Int) then ((z37.l2a (s5001.take (j5011).toNat) ((0 : Int), 0)).bind fun o5012 => ((z34.F [(1000000000000000000 : Int)]).bind fun r5013 => ((z36.F s5005 r5013).bind fun r5014 => ((z34.F [o5012.1]).bind fun r5015 => ((z20.F r5014 r5015).bind fun r5016 => (if (0 : Int) ≤ j5011 ∧ j5011 ≤ ((s5001).length : Int) then (rec ((s5001.drop (j5011).toNat), false, r5016)) else none)))))) else none)
def z37.l0aaP  {R : Type} (rec : ((List UInt8) × Bool × (List Int)) → Option R) (done : ((List UInt8) × Bool × (List Int)) → Option R) : ((List UInt8) × Bool × (List Int)) → Option R := fun x => match x with
  | (s5001, first5003, s5005) => (bif (!decide (s5001 = ([] : List UInt8))) then (bif (!first5003) then (if (0 : Int) ≤ (18 : Int) ∧ (18 : Int) ≤ ((s5001).length : Int) then ((z37.l2 (s5001.take 18) ((0 : Int), 0)).bind fun o5006 => ((z34.F [(1000000000000000000 : Int)]).bind fun r5007 => ((z36.F s5005 r5007).bind fun r5008 => ((z34.F [o5006.1]).bind fun r5009 => ((z20.F r5008 r5009).bind fun r5010 => (if (0 : Int) ≤ (18 : Int) ∧ (18 : Int) ≤ ((s5001).length : Int) then (rec ((s5001.drop 18), false, r5010)) else none)))))) else none) else (bif (decide ((Int.tmod (s5001.length : Int) (18 : Int)) = (0 : Int))) then (z37.j5011a rec done (18 : Int) s5001 s5005) else (z37.j5011a rec done (Int.tmod (s5001.length : Int) (18 : Int)) s5001 s5005))) else (done (s5001, first5003, s5005)))
def z37.l0aa  (x : ((List UInt8) × Bool × (List Int))) : Option (((List UInt8) × Bool × (List Int))) := lfp (fun rec x => z37.l0aaP  rec some x) x
def z37.F (a0 : List UInt8) : Option ((List Int) × Int) :=
  (bif (decide ((a0.length : Int) > (4096 : Int))) then (some ([], (7 : Int))) else (bif (decide (a0 = ([] : List UInt8))) then (some ([], (5 : Int))) else ((z3.F a0 ([48, 49, 50, 51, 52, 53, 54, 55, 56, 57] : List UInt8)).bind fun r1 => (bif (!decide (r1 = ([] : List UInt8))) then (some ([], (5 : Int))) else (bif (decide ((a0.length : Int) > (1 : Int))) then (if (0 : Int) ≤ (0 : Int) ∧ (0 : Int) < (a0.length : Int) then (bif (decide (((a0.getD 0 0).toNat : Int) = (48 : Int))) then (some ([], (5 : Int))) else ((z37.l0aa (a0, true, [])).bind fun o5 => (some (o5.2.2, (0 : Int))))) else none) else ((z37.l0aa (a0, true, [])).bind fun o6 => (some (o6.2.2, (0 : Int)))))))))
def z37.enc (r : (List Int) × Int) : V := (.tup [(.agg [(.ints false .u64 r.1)]), (.int .i64 r.2)])
def z37.pack : List V → Option Pack
  | [(.str a0)] => some ⟨(List Int) × Int, z37.F a0, z37.enc⟩
  | _ => none
def z38.F (a0 : List UInt8) : Option ((List Int) × Bool × Int) :=
  ((z33.F a0 ([45] : List UInt8)).bind fun r1 => ((z37.F r1.1).bind fun r2 => (bif (!decide (r2.2 = (0 : Int))) then (some ([], false, r2.2)) else (bif r1.2 then ((z15.F r2.1).bind fun r3 => (bif r3 then (some ([], false, (5 : Int))) else ((z17.F r2.1 r1.2).bind fun r7 => (some (r7.1, r7.2, (0 : Int)))))) else ((z17.F r2.1 r1.2).bind fun r8 => (some (r8.1, r8.2, (0 : Int))))))))
def z38.enc (r : (List Int) × Bool × Int) : V := (.tup [(.agg [(.ints false .u64 r.1), (.bool r.2.1)]), (.int .i64 r.2.2)])
def z38.pack : List V → Option Pack
  | [(.str a0)] => some ⟨(List Int) × Bool × Int, z38.F a0, z38.enc⟩
  | _ => none
def z39.l0P  {R : Type} (rec : (Int × (List Int) × (List Int)) → Option R) (done : (Int × (List Int) × (List Int)) → Option R) : (Int × (List Int) × (List Int)) → Option R := fun x => match x with
  | (times1001, s1002, s1004) => (bif (decide (times1001 > (0 : Int))) then (bif (decide ((wr .i64 ((BitVec.ofInt (IntKind.bits .i64) times1001 &&& BitVec.ofInt (IntKind.bits .i64) (1 : Int)).toNat : Int)) = (1 : Int))) then ((z36.F s1004 s1002).bind fun r1005 => (bif (decide (times1001 > (1 : Int))) then ((z36.F s1002 s1002).bind fun r1008 => (rec ((Int.fdiv times1001 (2 ^ (min 1 (64 : Nat)))), r1008, r1005))) else (rec ((Int.fdiv times1001 (2 ^ (min 1 (64 : Nat)))), s1002, r1005)))) else (bif (decide (times1001 > (1 : Int))) then ((z36.F s1002 s1002).bind fun r1009 => (rec ((Int.fdiv times1001 (2 ^ (min 1 (64 : Nat)))), r1009, s1004))) else (rec ((Int.fdiv times1001 (2 ^ (min 1 (64 : Nat)))), s1002, s1004)))) else (done (times1001, s1002, s1004)))
def z39.l0  (x : (Int × (List Int) × (List Int))) : Option ((Int × (List Int) × (List Int))) := lfp (fun rec x => z39.l0P  rec some x) x
def z39.F (a0 : List Int) (a1 : Int) : Option ((List Int)) :=
  ((z34.F [(1 : Int)]).bind fun r1 => ((z39.l0 (a1, a0, r1)).bind fun o2 => (some o2.2.2)))
def z39.enc (r : (List Int)) : V := (.agg [(.ints false .u64 r)])
def z39.pack : List V → Option Pack
  | [(.agg [(.ints _ .u64 a0)]), (.int .i64 a1)] => some ⟨(List Int), z39.F a0 a1, z39.enc⟩
  | _ => none
def z40.F (a0 : Int) : Option ((List Int) × Int) :=
  (bif (decide (a0 < (0 : Int))) then (some ([], (2 : Int))) else (bif (decide (a0 > (4096 : Int))) then (some ([], (6 : Int))) else ((z34.F [(10 : Int)]).bind fun r1 => ((z39.F r1 a0).bind fun r2 => (some (r2, (0 : Int)))))))
def z40.enc (r : (List Int) × Int) : V := (.tup [(.agg [(.ints false .u64 r.1)]), (.int .i64 r.2)])
def z40.pack : List V → Option Pack
  | [(.int .i64 a0)] => some ⟨(List Int) × Int, z40.F a0, z40.enc⟩
  | _ => none
def z41.F  : Option ((List Int) × Bool) :=
  ((z40.F (30 : Int)).bind fun r1 => ((z17.F r1.1 false).bind fun r2 => (some (r2.1, r2.2))))
def z41.enc (r : (List Int) × Bool) : V := (.agg [(.ints false .u64 r.1), (.bool r.2)])
def z41.pack : List V → Option Pack
  | [] => some ⟨(List Int) × Bool, z41.F , z41.enc⟩
  | _ => none
def z42.F (a0 : List UInt8) : Option ((List Int) × Bool × Int) :=
  ((z38.F a0).bind fun r1 => (bif (!decide (r1.2.2 = (0 : Int))) then (some ([], false, r1.2.2)) else ((z16.F r1.1 r1.2.1).bind fun r2 => (bif (decide (r2 < (0 : Int))) then (some ([], false, (19 : Int))) else (z41.F.bind fun r3 => ((z30.F r1.1 r1.2.1 r3.1 r3.2).bind fun r4 => (bif (decide (r4 > (0 : Int))) then (some ([], false, (19 : Int))) else (some (r1.1, r1.2.1, (0 : Int))))))))))
def z42.enc (r : (List Int) × Bool × Int) : V := (.tup [(.agg [(.ints false .u64 r.1), (.bool r.2.1)]), (.int .i64 r.2.2)])
def z42.pack : List V → Option Pack
  | [(.str a0)] => some ⟨(List Int) × Bool × Int, z42.F a0, z42.enc⟩
  | _ => none
def z43.F (a0 : List Int) (a1 : Bool) : Option ((List Int) × Bool × (List Int)) :=
  (some (a0, a1, []))
def z43.enc (r : (List Int) × Bool × (List Int)) : V := (.agg [(.ints false .u64 r.1), (.bool r.2.1), (.ints false .u64 r.2.2)])
def z43.pack : List V → Option Pack
  | [(.agg [(.ints _ .u64 a0), (.bool a1)])] => some ⟨(List Int) × Bool × (List Int), z43.F a0 a1, z43.enc⟩
  | _ => none
def z44.F (a0 : Int) : Option ((List Int) × Bool) :=
  (bif (decide (a0 < (0 : Int))) then ((z34.F [(wr .u64 (0 - (wr .u64 a0)))]).bind fun r1 => ((z17.F r1 true).bind fun r2 => (some (r2.1, r2.2)))) else ((z34.F [(wr .u64 a0)]).bind fun r3 => ((z17.F r3 false).bind fun r4 => (some (r4.1, r4.2)))))
def z44.enc (r : (List Int) × Bool) : V := (.agg [(.ints false .u64 r.1), (.bool r.2)])
def z44.pack : List V → Option Pack
  | [(.int .i64 a0)] => some ⟨(List Int) × Bool, z44.F a0, z44.enc⟩
  | _ => none
def z45.F (a0 : List UInt8) : Option (Bool) :=
  (bif (!decide (a0 = ([] : List UInt8))) then ((z3.F a0 ([48, 49, 50, 51, 52, 53, 54, 55, 56, 57] : List UInt8)).bind fun r1 => (some (decide (r1 = ([] : List UInt8))))) else (some false))
def z45.enc (r : Bool) : V := (.bool r)
def z45.pack : List V → Option Pack
  | [(.str a0)] => some ⟨Bool, z45.F a0, z45.enc⟩
  | _ => none
def z46.j8 (j8 : List UInt8) (r1 : (List UInt8) × Bool) : Option ((List Int) × Bool × Int × Int) :=
  ((z37.F j8).bind fun r9 => ((z17.F r9.1 r1.2).bind fun r10 => (some (r10.1, r10.2, ((r1.1.drop 1).length : Int), (0 : Int)))))
def z46.j6 (j6 : Bool) (r1 : (List UInt8) × Bool) : Option ((List Int) × Bool × Int × Int) :=
  (bif j6 then (some ([], false, (0 : Int), (5 : Int))) else (bif (decide (((r1.1.drop 1).length : Int) > (64 : Int))) then (some ([], false, (0 : Int), (10 : Int))) else (if (r1.1.take 0).length + (r1.1.drop 1).length ≤ 9223372036854775807 then ((z4.F ((r1.1.take 0) ++ (r1.1.drop 1)) ([48] : List UInt8)).bind fun r7 => (bif (decide (r7 = ([] : List UInt8))) then (z46.j8 ([48] : List UInt8) r1) else (z46.j8 r7 r1))) else none)))
def z46.j4 (j4 : Bool) (r1 : (List UInt8) × Bool) : Option ((List Int) × Bool × Int × Int) :=
  (bif j4 then (some ([], false, (0 : Int), (5 : Int))) else (bif r1.2 then (if (r1.1.take 0).length + (r1.1.drop 1).length ≤ 9223372036854775807 then ((z3.F ((r1.1.take 0) ++ (r1.1.drop 1)) ([48] : List UInt8)).bind fun r5 => (z46.j6 (decide (r5 = ([] : List UInt8))) r1)) else none) else (z46.j6 false r1)))
def z46.j18 (j18 : List UInt8) (r1 : (List UInt8) × Bool) (r11 : Int) : Option ((List Int) × Bool × Int × Int) :=
  ((z37.F j18).bind fun r19 => ((z17.F r19.1 r1.2).bind fun r20 => (some (r20.1, r20.2, ((r1.1.drop ((wr .i64 (r11 + (1 : Int)))).toNat).length : Int), (0 : Int)))))
def z46.j16 (j16 : Bool) (r1 : (List UInt8) × Bool) (r11 : Int) : Option ((List Int) × Bool × Int × Int) :=
  (bif j16 then (some ([], false, (0 : Int), (5 : Int))) else (bif (decide (((r1.1.drop ((wr .i64 (r11 + (1 : Int)))).toNat).length : Int) > (64 : Int))) then (some ([], false, (0 : Int), (10 : Int))) else (if (r1.1.take (r11).toNat).length + (r1.1.drop ((wr .i64 (r11 + (1 : Int)))).toNat).length ≤ 9223372036854775807 then ((z4.F ((r1.1.take (r11).toNat) ++ (r1.1.drop ((wr .i64 (r11 + (1 : Int)))).toNat)) ([48] : List UInt8)).bind fun r17 => (bif (decide (r17 = ([] : List UInt8))) then (z46.j18 ([48] : List UInt8) r1 r11) else (z46.j18 r17 r1 r11))) else none)))
def z46.j14 (j14 : Bool) (r1 : (List UInt8) × Bool) (r11 : Int) : Option ((List Int) × Bool × Int × Int) :=
  (bif j14 then (some ([], false, (0 : Int), (5 : Int))) else (bif r1.2 then (if (r1.1.take (r11).toNat).length + (r1.1.drop ((wr .i64 (r11 + (1 : Int)))).toNat).length ≤ 9223372036854775807 then ((z3.F ((r1.1.take (r11).toNat) ++ (r1.1.drop ((wr .i64 (r11 + (1 : Int)))).toNat)) ([48] : List UInt8)).bind fun r15 => (z46.j16 (decide (r15 = ([] : List UInt8))) r1 r11)) else none) else (z46.j16 false r1 r11)))
def z46.j26 (j26 : List UInt8) (r1 : (List UInt8) × Bool) : Option ((List Int) × Bool × Int × Int) :=
  ((z37.F j26).bind fun r27 => ((z17.F r27.1 r1.2).bind fun r28 => (some (r28.1, r28.2, (0 : Int), (0 : Int)))))
def z46.j24 (r1 : (List UInt8) × Bool) : Option ((List Int) × Bool × Int × Int) :=
  (if r1.1.length + ([] : List UInt8).length ≤ 9223372036854775807 then ((z4.F (r1.1 ++ ([] : List UInt8)) ([48] : List UInt8)).bind fun r25 => (bif (decide (r25 = ([] : List UInt8))) then (z46.j26 ([48] : List UInt8) r1) else (z46.j26 r25 r1))) else none)
def z46.j22 (j22 : Bool) (r1 : (List UInt8) × Bool) : Option ((List Int) × Bool × Int × Int) :=
  (bif j22 then (some ([], false, (0 : Int), (5 : Int))) else (bif r1.2 then (if r1.1.length + ([] : List UInt8).length ≤ 9223372036854775807 then ((z3.F (r1.1 ++ ([] : List UInt8)) ([48] : List UInt8)).bind fun r23 => (bif (decide (r23 = ([] : List UInt8))) then (some ([], false, (0 : Int), (5 : Int))) else (z46.j24 r1))) else none) else (z46.j24 r1)))
def z46.F (a0 : List UInt8) : Option ((List Int) × Bool × Int × Int) :=
  (bif (decide ((a0.length : Int) > (4096 : Int))) then (some ([], false, (0 : Int), (7 : Int))) else ((z33.F a0 ([45] : List UInt8)).bind fun r1 => (bif (decide (([46] : List UInt8) = r1.1)) then (if (0 : Int) ≤ (0 : Int) ∧ (0 : Int) ≤ ((r1.1).length : Int) then (if (0 : Int) ≤ (1 : Int) ∧ (1 : Int) ≤ ((r1.1).length : Int) then ((z45.F (r1.1.take 0)).bind fun r2 => (bif (!r2) then (z46.j4 true r1) else ((z45.F (r1.1.drop 1)).bind fun r3 => (bif (!r3) then (z46.j4 true r1) else (bif (decide (((r1.1.take 0).length : Int) > (1 : Int))) then (if (0 : Int) ≤ (0 : Int) ∧ (0 : Int) < ((r1.1.take 0).length : Int) then (z46.j4 (decide ((((r1.1.take 0).getD 0 0).toNat : Int) = (48 : Int))) r1) else none) else (z46.j4 false r1)))))) else none) else none) else (if (0 : Int) ≤ (0 : Int) ∧ (0 : Int) < (([46] : List UInt8).length : Int) then ((z2.F r1.1 ((([46] : List UInt8).getD 0 0).toNat : Int)).bind fun r11 => (bif (decide (r11 ≥ (0 : Int))) then (if (0 : Int) ≤ r11 ∧ r11 ≤ ((r1.1).length : Int) then (if (0 : Int) ≤ (wr .i64 (r11 + (1 : Int))) ∧ (wr .i64 (r11 + (1 : Int))) ≤ ((r1.1).length : Int) then ((z45.F (r1.1.take (r11).toNat)).bind fun r12 => (bif (!r12) then (z46.j14 true r1 r11) else ((z45.F (r1.1.drop ((wr .i64 (r11 + (1 : Int)))).toNat)).bind fun r13 => (bif (!r13) then (z46.j14 true r1 r11) else (bif (decide (((r1.1.take (r11).toNat).length : Int) > (1 : Int))) then (if (0 : Int) ≤ (0 : Int) ∧ (0 : Int) < ((r1.1.take (r11).toNat).length : Int) then (z46.j14 (decide ((((r1.1.take (r11).toNat).getD 0 0).toNat : Int) = (48 : Int))) r1 r11) else none) else (z46.j14 false r1 r11)))))) else none) else none) else ((z45.F r1.1).bind fun r21 => (bif (!r21) then (z46.j22 true r1) else (bif (decide ((r1.1.length : Int) > (1 : Int))) then (if (0 : Int) ≤ (0 : Int) ∧ (0 : Int) < (r1.1.length : Int) then (z46.j22 (decide (((r1.1.getD 0 0).toNat : Int) = (48 : Int))) r1) else none) else (z46.j22 false r1)))))) else none))))
def z46.enc (r : (List Int) × Bool × Int × Int) : V := (.tup [(.agg [(.ints false .u64 r.1), (.bool r.2.1), (.int .i64 r.2.2.1)]), (.int .i64 r.2.2.2)])
def z46.pack : List V → Option Pack
  | [(.str a0)] => some ⟨(List Int) × Bool × Int × Int, z46.F a0, z46.enc⟩
  | _ => none
def z47.F (a0 : Int) : Option (Bool) :=
  (bif (decide (a0 < (0 : Int))) then (some true) else (some (decide (a0 > (64 : Int)))))
def z47.enc (r : Bool) : V := (.bool r)
def z47.pack : List V → Option Pack
  | [(.int .i64 a0)] => some ⟨Bool, z47.F a0, z47.enc⟩
  | _ => none
def z48.F (a0 : List Int) (a1 : Bool) (a2 : Int) : Option ((List Int) × Bool × Int × Int) :=
  ((z47.F a2).bind fun r1 => (bif r1 then (some ([], false, (0 : Int), (10 : Int))) else (some (a0, a1, a2, (0 : Int)))))
def z48.enc (r : (List Int) × Bool × Int × Int) : V := (.tup [(.agg [(.ints false .u64 r.1), (.bool r.2.1), (.int .i64 r.2.2.1)]), (.int .i64 r.2.2.2)])
def z48.pack : List V → Option Pack
  | [(.agg [(.ints _ .u64 a0), (.bool a1)]), (.int .i64 a2)] => some ⟨(List Int) × Bool × Int × Int, z48.F a0 a1 a2, z48.enc⟩
  | _ => none
def z49.F (a0 : List Int) (a1 : Bool) (a2 : Int) : Option ((List Int) × Bool) :=
  (some (a0, a1))
def z49.enc (r : (List Int) × Bool) : V := (.agg [(.ints false .u64 r.1), (.bool r.2)])
def z49.pack : List V → Option Pack
  | [(.agg [(.ints _ .u64 a0), (.bool a1), (.int .i64 a2)])] => some ⟨(List Int) × Bool, z49.F a0 a1 a2, z49.enc⟩
  | _ => none
def z50.F (a0 : List Int) (a1 : Bool) (a2 : List Int) (a3 : Bool) : Option ((List Int) × Bool) :=
  ((z36.F a0 a2).bind fun r1 => ((z17.F r1 (!decide (a1 = a3))).bind fun r2 => (some (r2.1, r2.2))))
def z50.enc (r : (List Int) × Bool) : V := (.agg [(.ints false .u64 r.1), (.bool r.2)])
def z50.pack : List V → Option Pack
  | [(.agg [(.ints _ .u64 a0), (.bool a1)]), (.agg [(.ints _ .u64 a2), (.bool a3)])] => some ⟨(List Int) × Bool, z50.F a0 a1 a2 a3, z50.enc⟩
  | _ => none
def z51.F (a0 : Int) : Option ((List Int) × Bool) :=
  ((z40.F a0).bind fun r1 => ((z17.F r1.1 false).bind fun r2 => (some (r2.1, r2.2))))
def z51.enc (r : (List Int) × Bool) : V := (.agg [(.ints false .u64 r.1), (.bool r.2)])
def z51.pack : List V → Option Pack
  | [(.int .i64 a0)] => some ⟨(List Int) × Bool, z51.F a0, z51.enc⟩
  | _ => none
def z52.F (a0 : List Int) (a1 : Bool) (a2 : Int) (a3 : Int) : Option ((List Int) × Bool) :=
  ((z51.F (wr .i64 (a3 - a2))).bind fun r1 => ((z50.F a0 a1 r1.1 r1.2).bind fun r2 => (some (r2.1, r2.2))))
def z52.enc (r : (List Int) × Bool) : V := (.agg [(.ints false .u64 r.1), (.bool r.2)])
def z52.pack : List V → Option Pack
  | [(.agg [(.ints _ .u64 a0), (.bool a1), (.int .i64 a2)]), (.int .i64 a3)] => some ⟨(List Int) × Bool, z52.F a0 a1 a2 a3, z52.enc⟩
  | _ => none
def z53.F (a0 : List Int) (a1 : Bool) (a2 : Int) (a3 : List Int) (a4 : Bool) (a5 : Int) : Option (Int) :=
  ((z52.F a0 a1 a2 (if a5 > a2 then a5 else a2)).bind fun r1 => ((z52.F a3 a4 a5 (if a5 > a2 then a5 else a2)).bind fun r2 => ((z30.F r1.1 r1.2 r2.1 r2.2).bind fun r3 => (some r3))))
def z53.enc (r : Int) : V := (.int .i64 r)
def z53.pack : List V → Option Pack
  | [(.agg [(.ints _ .u64 a0), (.bool a1), (.int .i64 a2)]), (.agg [(.ints _ .u64 a3), (.bool a4), (.int .i64 a5)])] => some ⟨Int, z53.F a0 a1 a2 a3 a4 a5, z53.enc⟩
  | _ => none
def z54.F (a0 : List Int) (a1 : Bool) (a2 : Int) : Option (Int) :=
  (some a2)
def z54.enc (r : Int) : V := (.int .i64 r)
def z54.pack : List V → Option Pack
  | [(.agg [(.ints _ .u64 a0), (.bool a1), (.int .i64 a2)])] => some ⟨Int, z54.F a0 a1 a2, z54.enc⟩
  | _ => none
def z55.F (a0 : List Int) (a1 : Bool) : Option ((List Int)) :=
  (some a0)
def z55.enc (r : (List Int)) : V := (.agg [(.ints false .u64 r)])
def z55.pack : List V → Option Pack
  | [(.agg [(.ints _ .u64 a0), (.bool a1)])] => some ⟨(List Int), z55.F a0 a1, z55.enc⟩
  | _ => none
def z56.F (a0 : List Int) : Option ((List Int)) :=
  (if (a0).length * 8 ≤ 140737488355328 then (some a0) else none)
def z56.enc (r : (List Int)) : V := (.ints false .u64 r)
def z56.pack : List V → Option Pack
  | [(.agg [(.ints _ .u64 a0)])] => some ⟨(List Int), z56.F a0, z56.enc⟩
  | _ => none
def z57.j8 (j7 : Int) (j8 : Int) : Option (Int) :=
  (if (0 : Int) ≤ (wr .u8 j7) ∧ (wr .u8 j7) < (([0, 1, 2, 2, 3, 3, 3, 3, 4, 4, 4, 4, 4, 4, 4, 4, 5, 5, 5, 5, 5, 5, 5, 5, 5, 5, 5, 5, 5, 5, 5, 5, 6, 6, 6, 6, 6, 6, 6, 6, 6, 6, 6, 6, 6, 6, 6, 6, 6, 6, 6, 6, 6, 6, 6, 6, 6, 6, 6, 6, 6, 6, 6, 6, 7, 7, 7, 7, 7, 7, 7, 7, 7, 7, 7, 7, 7, 7, 7, 7, 7, 7, 7, 7, 7, 7, 7, 7, 7, 7, 7, 7, 7, 7, 7, 7, 7, 7, 7, 7, 7, 7, 7, 7, 7, 7, 7, 7, 7, 7, 7, 7, 7, 7, 7, 7, 7, 7, 7, 7, 7, 7, 7, 7, 7, 7, 7, 7, 8, 8, 8, 8, 8, 8, 8, 8, 8, 8, 8, 8, 8, 8, 8, 8, 8, 8, 8, 8, 8, 8, 8, 8, 8, 8, 8, 8, 8, 8, 8, 8, 8, 8, 8, 8, 8, 8, 8, 8, 8, 8, 8, 8, 8, 8, 8, 8, 8, 8, 8, 8, 8, 8, 8, 8, 8, 8, 8, 8, 8, 8, 8, 8, 8, 8, 8, 8, 8, 8, 8, 8, 8, 8, 8, 8, 8, 8, 8, 8, 8, 8, 8, 8, 8, 8, 8, 8, 8, 8, 8, 8, 8, 8, 8, 8, 8, 8, 8, 8, 8, 8, 8, 8, 8, 8, 8, 8, 8, 8, 8, 8, 8, 8, 8, 8, 8, 8, 8, 8, 8, 8, 8, 8, 8, 8, 8, 8] : List UInt8).length : Int) then (some (wr .i64 (j8 + (wr .i64 ((([0, 1, 2, 2, 3, 3, 3, 3, 4, 4, 4, 4, 4, 4, 4, 4, 5, 5, 5, 5, 5, 5, 5, 5, 5, 5, 5, 5, 5, 5, 5, 5, 6, 6, 6, 6, 6, 6, 6, 6, 6, 6, 6, 6, 6, 6, 6, 6, 6, 6, 6, 6, 6, 6, 6, 6, 6, 6, 6, 6, 6, 6, 6, 6, 7, 7, 7, 7, 7, 7, 7, 7, 7, 7, 7, 7, 7, 7, 7, 7, 7, 7, 7, 7, 7, 7, 7, 7, 7, 7, 7, 7, 7, 7, 7, 7, 7, 7, 7, 7, 7, 7, 7, 7, 7, 7, 7, 7, 7, 7, 7, 7, 7, 7, 7, 7, 7, 7, 7, 7, 7, 7, 7, 7, 7, 7, 7, 7, 8, 8, 8, 8, 8, 8, 8, 8, 8, 8, 8, 8, 8, 8, 8, 8, 8, 8, 8, 8, 8, 8, 8, 8, 8, 8, 8, 8, 8, 8, 8, 8, 8, 8, 8, 8, 8, 8, 8, 8, 8, 8, 8, 8, 8, 8, 8, 8, 8, 8, 8, 8, 8, 8, 8, 8, 8, 8, 8, 8, 8, 8, 8, 8, 8, 8, 8, 8, 8, 8, 8, 8, 8, 8, 8, 8, 8, 8, 8, 8, 8, 8, 8, 8, 8, 8, 8, 8, 8, 8, 8, 8, 8, 8, 8, 8, 8, 8, 8, 8, 8, 8, 8, 8, 8, 8, 8, 8, 8, 8, 8, 8, 8, 8, 8, 8, 8, 8, 8, 8, 8, 8, 8, 8, 8, 8, 8, 8] : List UInt8).getD ((wr .u8 j7)).toNat 0).toNat : Int))))) else none)
def z57.j10 (j9 : Int) (j10 : Int) : Option (Int) :=
  (if (0 : Int) ≤ (wr .u8 j9) ∧ (wr .u8 j9) < (([0, 1, 2, 2, 3, 3, 3, 3, 4, 4, 4, 4, 4, 4, 4, 4, 5, 5, 5, 5, 5, 5, 5, 5, 5, 5, 5, 5, 5, 5, 5, 5, 6, 6, 6, 6, 6, 6, 6, 6, 6, 6, 6, 6, 6, 6, 6, 6, 6, 6, 6, 6, 6, 6, 6, 6, 6, 6, 6, 6, 6, 6, 6, 6, 7, 7, 7, 7, 7, 7, 7, 7, 7, 7, 7, 7, 7, 7, 7, 7, 7, 7, 7, 7, 7, 7, 7, 7, 7, 7, 7, 7, 7, 7, 7, 7, 7, 7, 7, 7, 7, 7, 7, 7, 7, 7, 7, 7, 7, 7, 7, 7, 7, 7, 7, 7, 7, 7, 7, 7, 7, 7, 7, 7, 7, 7, 7, 7, 8, 8, 8, 8, 8, 8, 8, 8, 8, 8, 8, 8, 8, 8, 8, 8, 8, 8, 8, 8, 8, 8, 8, 8, 8, 8, 8, 8, 8, 8, 8, 8, 8, 8, 8, 8, 8, 8, 8, 8, 8, 8, 8, 8, 8, 8, 8, 8, 8, 8, 8, 8, 8, 8, 8, 8, 8, 8, 8, 8, 8, 8, 8, 8, 8, 8, 8, 8, 8, 8, 8, 8, 8, 8, 8, 8, 8, 8, 8, 8, 8, 8, 8, 8, 8, 8, 8, 8, 8, 8, 8, 8, 8, 8, 8, 8, 8, 8, 8, 8, 8, 8, 8, 8, 8, 8, 8, 8, 8, 8, 8, 8, 8, 8, 8, 8, 8, 8, 8, 8, 8, 8, 8, 8, 8, 8, 8, 8] : List UInt8).length : Int) then (some (wr .i64 (j10 + (wr .i64 ((([0, 1, 2, 2, 3, 3, 3, 3, 4, 4, 4, 4, 4, 4, 4, 4, 5, 5, 5, 5, 5, 5, 5, 5, 5, 5, 5, 5, 5, 5, 5, 5, 6, 6, 6, 6, 6, 6, 6, 6, 6, 6, 6, 6, 6, 6, 6, 6, 6, 6, 6, 6, 6, 6, 6, 6, 6, 6, 6, 6, 6, 6, 6, 6, 7, 7, 7, 7, 7, 7, 7, 7, 7, 7, 7, 7, 7, 7, 7, 7, 7, 7, 7, 7, 7, 7, 7, 7, 7, 7, 7, 7, 7, 7, 7, 7, 7, 7, 7, 7, 7, 7, 7, 7, 7, 7, 7, 7, 7, 7, 7, 7, 7, 7, 7, 7, 7, 7, 7, 7, 7, 7, 7, 7, 7, 7, 7, 7, 8, 8, 8, 8, 8, 8, 8, 8, 8, 8, 8, 8, 8, 8, 8, 8, 8, 8, 8, 8, 8, 8, 8, 8, 8, 8, 8, 8, 8, 8, 8, 8, 8, 8, 8, 8, 8, 8, 8, 8, 8, 8, 8, 8, 8, 8, 8, 8, 8, 8, 8, 8, 8, 8, 8, 8, 8, 8, 8, 8, 8, 8, 8, 8, 8, 8, 8, 8, 8, 8, 8, 8, 8, 8, 8, 8, 8, 8, 8, 8, 8, 8, 8, 8, 8, 8, 8, 8, 8, 8, 8, 8, 8, 8, 8, 8, 8, 8, 8, 8, 8, 8, 8, 8, 8, 8, 8, 8, 8, 8, 8, 8, 8, 8, 8, 8, 8, 8, 8, 8, 8, 8, 8, 8, 8, 8, 8, 8] : List UInt8).getD ((wr .u8 j9)).toNat 0).toNat : Int))))) else none)
def z57.j2 (j1 : Int) (j2 : Int) : Option (Int) :=
  (bif (decide (j1 ≥ (65536 : Int))) then (bif (decide ((Int.fdiv j1 (2 ^ (min 16 (64 : Nat)))) ≥ (256 : Int))) then (z57.j8 (Int.fdiv (Int.fdiv j1 (2 ^ (min 16 (64 : Nat)))) (2 ^ (min 8 (64 : Nat)))) (wr .i64 ((wr .i64 (j2 + (16 : Int))) + (8 : Int)))) else (z57.j8 (Int.fdiv j1 (2 ^ (min 16 (64 : Nat)))) (wr .i64 (j2 + (16 : Int))))) else (bif (decide (j1 ≥ (256 : Int))) then (z57.j10 (Int.fdiv j1 (2 ^ (min 8 (64 : Nat)))) (wr .i64 (j2 + (8 : Int)))) else (z57.j10 j1 j2)))
def z57.F (a0 : Int) : Option (Int) :=
  (bif (decide (a0 ≥ (4294967296 : Int))) then (z57.j2 (Int.fdiv a0 (2 ^ (min 32 (64 : Nat)))) (32 : Int)) else (z57.j2 a0 (0 : Int)))
def z57.enc (r : Int) : V := (.int .i64 r)
def z57.pack : List V → Option Pack
  | [(.int .u64 a0)] => some ⟨Int, z57.F a0, z57.enc⟩
  | _ => none
def z58.F (a0 : Int) : Option (Int) :=
  ((z57.F a0).bind fun r1 => (some (wr .i64 ((64 : Int) - r1))))
def z58.enc (r : Int) : V := (.int .i64 r)
def z58.pack : List V → Option Pack
  | [(.int .u64 a0)] => some ⟨Int, z58.F a0, z58.enc⟩
  | _ => none
def z59.l0b8P (yn9005 : Int) (yn9006 : Int) (un9008 : Int) {R : Type} (rec : (Int × Int) → Option R) (done : (Int × Int) → Option R) : (Int × Int) → Option R := fun x => match x with
  | (q9010, rhat9011) => (bif (decide (q9010 ≥ (4294967296 : Int))) then (bif (decide ((wr .u64 (rhat9011 + yn9005)) ≥ (4294967296 : Int))) then (done ((wr .u64 (q9010 - (1 : Int))), (wr .u64 (rhat9011 + yn9005)))) else (rec ((wr .u64 (q9010 - (1 : Int))), (wr .u64 (rhat9011 + yn9005))))) else (bif (decide ((wr .u64 (q9010 * yn9006)) > (wr .u64 ((wr .u64 ((4294967296 : Int) * rhat9011)) + un9008)))) then (bif (decide ((wr .u64 (rhat9011 + yn9005)) ≥ (4294967296 : Int))) then (done ((wr .u64 (q9010 - (1 : Int))), (wr .u64 (rhat9011 + yn9005)))) else (rec ((wr .u64 (q9010 - (1 : Int))), (wr .u64 (rhat9011 + yn9005))))) else (done (q9010, rhat9011))))
def z59.l0b8 (yn9005 : Int) (yn9006 : Int) (un9008 : Int) (x : (Int × Int)) : Option ((Int × Int)) := lfp (fun rec x => z59.l0b8P yn9005 yn9006 un9008 rec some x) x
def z59.l2b8P (yn18005 : Int) (yn18006 : Int) (un18007 : Int) {R : Type} (rec : (Int × Int) → Option R) (done : (Int × Int) → Option R) : (Int × Int) → Option R := fun x => match x with
  | (rhat18009, q18011) => (bif (decide (q18011 ≥ (4294967296 : Int))) then (bif (decide ((wr .u64 (rhat18009 + yn18005)) ≥ (4294967296 : Int))) then (done ((wr .u64 (rhat18009 + yn18005)), (wr .u64 (q18011 - (1 : Int))))) else (rec ((wr .u64 (rhat18009 + yn18005)), (wr .u64 (q18011 - (1 : Int)))))) else (bif (decide ((wr .u64 (q18011 * yn18006)) > (wr .u64 ((wr .u64 ((4294967296 : Int) * rhat18009)) + un18007)))) then (bif (decide ((wr .u64 (rhat18009 + yn18005)) ≥ (4294967296 : Int))) then (done ((wr .u64 (rhat18009 + yn18005)), (wr .u64 (q18011 - (1 : Int))))) else (rec ((wr .u64 (rhat18009 + yn18005)), (wr .u64 (q18011 - (1 : Int)))))) else (done (rhat18009, q18011))))
def z59.l2b8 (yn18005 : Int) (yn18006 : Int) (un18007 : Int) (x : (Int × Int)) : Option ((Int × Int)) := lfp (fun rec x => z59.l2b8P yn18005 yn18006 un18007 rec some x) x
def z59.F (a0 : Int) (a1 : Int) (a2 : Int) : Option (Int × Int) :=
  (bif (decide (a2 = (0 : Int))) then none else (bif (decide (a2 ≤ a0)) then none else (bif (decide (a0 = (0 : Int))) then (if a2 = 0 then none else (if a2 = 0 then none else (some ((wr .u64 (Int.tdiv a1 a2)), (Int.tmod a1 a2))))) else ((z58.F a2).bind fun r1 => (if (0 : Int) ≤ (wr .u64 r1) then (if (0 : Int) ≤ (wr .u64 r1) then (if (0 : Int) ≤ (wr .u64 ((64 : Int) - (wr .u64 r1))) then (if (0 : Int) ≤ (wr .u64 r1) then (if (Int.fdiv (wr .u64 (a2 * 2 ^ (min ((wr .u64 r1)).toNat (64 : Nat)))) (2 ^ (min 32 (64 : Nat)))) = 0 then none else ((z59.l0b8 (Int.fdiv (wr .u64 (a2 * 2 ^ (min ((wr .u64 r1)).toNat (64 : Nat)))) (2 ^ (min 32 (64 : Nat)))) (wr .u64 ((BitVec.ofInt (IntKind.bits .u64) (wr .u64 (a2 * 2 ^ (min ((wr .u64 r1)).toNat (64 : Nat)))) &&& BitVec.ofInt (IntKind.bits .u64) (4294967295 : Int)).toNat : Int)) (Int.fdiv (wr .u64 (a1 * 2 ^ (min ((wr .u64 r1)).toNat (64 : Nat)))) (2 ^ (min 32 (64 : Nat)))) ((wr .u64 (Int.tdiv (wr .u64 ((BitVec.ofInt (IntKind.bits .u64) (wr .u64 (a0 * 2 ^ (min ((wr .u64 r1)).toNat (64 : Nat)))) ||| BitVec.ofInt (IntKind.bits .u64) (Int.fdiv a1 (2 ^ (min ((wr .u64 ((64 : Int) - (wr .u64 r1)))).toNat (64 : Nat))))).toNat : Int)) (Int.fdiv (wr .u64 (a2 * 2 ^ (min ((wr .u64 r1)).toNat (64 : Nat)))) (2 ^ (min 32 (64 : Nat)))))), (wr .u64 ((wr .u64 ((BitVec.ofInt (IntKind.bits .u64) (wr .u64 (a0 * 2 ^ (min ((wr .u64 r1)).toNat (64 : Nat)))) ||| BitVec.ofInt (IntKind.bits .u64) (Int.fdiv a1 (2 ^ (min ((wr .u64 ((64 : Int) - (wr .u64 r1)))).toNat (64 : Nat))))).toNat : Int)) - (wr .u64 ((wr .u64 (Int.tdiv (wr .u64 ((BitVec.ofInt (IntKind.bits .u64) (wr .u64 (a0 * 2 ^ (min ((wr .u64 r1)).toNat (64 : Nat)))) ||| BitVec.ofInt (IntKind.bits .u64) (Int.fdiv a1 (2 ^ (min ((wr .u64 ((64 : Int) - (wr .u64 r1)))).toNat (64 : Nat))))).toNat : Int)) (Int.fdiv (wr .u64 (a2 * 2 ^ (min ((wr .u64 r1)).toNat (64 : Nat)))) (2 ^ (min 32 (64 : Nat)))))) * (Int.fdiv (wr .u64 (a2 * 2 ^ (min ((wr .u64 r1)).toNat (64 : Nat)))) (2 ^ (min 32 (64 : Nat)))))))))).bind fun o2 => (if (Int.fdiv (wr .u64 (a2 * 2 ^ (min ((wr .u64 r1)).toNat (64 : Nat)))) (2 ^ (min 32 (64 : Nat)))) = 0 then none else ((z59.l2b8 (Int.fdiv (wr .u64 (a2 * 2 ^ (min ((wr .u64 r1)).toNat (64 : Nat)))) (2 ^ (min 32 (64 : Nat)))) (wr .u64 ((BitVec.ofInt (IntKind.bits .u64) (wr .u64 (a2 * 2 ^ (min ((wr .u64 r1)).toNat (64 : Nat)))) &&& BitVec.ofInt (IntKind.bits .u64) (4294967295 : Int)).toNat : Int)) (wr .u64 ((BitVec.ofInt (IntKind.bits .u64) (wr .u64 (a1 * 2 ^ (min ((wr .u64 r1)).toNat (64 : Nat)))) &&& BitVec.ofInt (IntKind.bits .u64) (4294967295 : Int)).toNat : Int)) ((wr .u64 ((wr .u64 ((wr .u64 ((wr .u64 ((wr .u64 ((BitVec.ofInt (IntKind.bits .u64) (wr .u64 (a0 * 2 ^ (min ((wr .u64 r1)).toNat (64 : Nat)))) ||| BitVec.ofInt (IntKind.bits .u64) (Int.fdiv a1 (2 ^ (min ((wr .u64 ((64 : Int) - (wr .u64 r1)))).toNat (64 : Nat))))).toNat : Int)) * (4294967296 : Int))) + (Int.fdiv (wr .u64 (a1 * 2 ^ (min ((wr .u64 r1)).toNat (64 : Nat)))) (2 ^ (min 32 (64 : Nat)))))) - (wr .u64 (o2.1 * (wr .u64 (a2 * 2 ^ (min ((wr .u64 r1)).toNat (64 : Nat)))))))) - (wr .u64 ((wr .u64 (Int.tdiv (wr .u64 ((wr .u64 ((wr .u64 ((wr .u64 ((BitVec.ofInt (IntKind.bits .u64) (wr .u64 (a0 * 2 ^ (min ((wr .u64 r1)).toNat (64 : Nat)))) ||| BitVec.ofInt (IntKind.bits .u64) (Int.fdiv a1 (2 ^ (min ((wr .u64 ((64 : Int) - (wr .u64 r1)))).toNat (64 : Nat))))).toNat : Int)) * (4294967296 : Int))) + (Int.fdiv (wr .u64 (a1 * 2 ^ (min ((wr .u64 r1)).toNat (64 : Nat)))) (2 ^ (min 32 (64 : Nat)))))) - (wr .u64 (o2.1 * (wr .u64 (a2 * 2 ^ (min ((wr .u64 r1)).toNat (64 : Nat)))))))) (Int.fdiv (wr .u64 (a2 * 2 ^ (min ((wr .u64 r1)).toNat (64 : Nat)))) (2 ^ (min 32 (64 : Nat)))))) * (Int.fdiv (wr .u64 (a2 * 2 ^ (min ((wr .u64 r1)).toNat (64 : Nat)))) (2 ^ (min 32 (64 : Nat)))))))), (wr .u64 (Int.tdiv (wr .u64 ((wr .u64 ((wr .u64 ((wr .u64 ((BitVec.ofInt (IntKind.bits .u64) (wr .u64 (a0 * 2 ^ (min ((wr .u64 r1)).toNat (64 : Nat)))) ||| BitVec.ofInt (IntKind.bits .u64) (Int.fdiv a1 (2 ^ (min ((wr .u64 ((64 : Int) - (wr .u64 r1)))).toNat (64 : Nat))))).toNat : Int)) * (4294967296 : Int))) + (Int.fdiv (wr .u64 (a1 * 2 ^ (min ((wr .u64 r1)).toNat (64 : Nat)))) (2 ^ (min 32 (64 : Nat)))))) - (wr .u64 (o2.1 * (wr .u64 (a2 * 2 ^ (min ((wr .u64 r1)).toNat (64 : Nat)))))))) (Int.fdiv (wr .u64 (a2 * 2 ^ (min ((wr .u64 r1)).toNat (64 : Nat)))) (2 ^ (min 32 (64 : Nat)))))))).bind fun o3 => (if (0 : Int) ≤ (wr .u64 r1) then (some ((wr .u64 ((wr .u64 (o2.1 * (4294967296 : Int))) + o3.2)), (Int.fdiv (wr .u64 ((wr .u64 ((wr .u64 ((wr .u64 ((wr .u64 ((wr .u64 ((wr .u64 ((BitVec.ofInt (IntKind.bits .u64) (wr .u64 (a0 * 2 ^ (min ((wr .u64 r1)).toNat (64 : Nat)))) ||| BitVec.ofInt (IntKind.bits .u64) (Int.fdiv a1 (2 ^ (min ((wr .u64 ((64 : Int) - (wr .u64 r1)))).toNat (64 : Nat))))).toNat : Int)) * (4294967296 : Int))) + (Int.fdiv (wr .u64 (a1 * 2 ^ (min ((wr .u64 r1)).toNat (64 : Nat)))) (2 ^ (min 32 (64 : Nat)))))) - (wr .u64 (o2.1 * (wr .u64 (a2 * 2 ^ (min ((wr .u64 r1)).toNat (64 : Nat)))))))) * (4294967296 : Int))) + (wr .u64 ((BitVec.ofInt (IntKind.bits .u64) (wr .u64 (a1 * 2 ^ (min ((wr .u64 r1)).toNat (64 : Nat)))) &&& BitVec.ofInt (IntKind.bits .u64) (4294967295 : Int)).toNat : Int)))) - (wr .u64 (o3.2 * (wr .u64 (a2 * 2 ^ (min ((wr .u64 r1)).toNat (64 : Nat)))))))) (2 ^ (min ((wr .u64 r1)).toNat (64 : Nat)))))) else none))))) else none) else none) else none) else none)))))
def z59.enc (r : Int × Int) : V := (.tup [(.int .u64 r.1), (.int .u64 r.2)])
def z59.pack : List V → Option Pack
  | [(.int .u64 a0), (.int .u64 a1), (.int .u64 a2)] => some ⟨Int × Int, z59.F a0 a1 a2, z59.enc⟩
  | _ => none
def z60.l0P (l1001 : List Int) (d1002 : Int) {R : Type} (rec : (Int × Int × (List Int)) → Option R) (done : (Int × Int × (List Int)) → Option R) : (Int × Int × (List Int)) → Option R := fun x => match x with
  | (rest1004, i1005, s1007) => (bif (decide (i1005 ≥ (0 : Int))) then (if (0 : Int) ≤ i1005 ∧ i1005 < (l1001.length : Int) then ((z59.F rest1004 (l1001.getD (i1005).toNat 0) d1002).bind fun r1008 => (if (0 : Int) ≤ i1005 ∧ i1005 < (s1007.length : Int) then (if (i1005).toNat < s1007.length then (rec (r1008.2, (wr .i64 (i1005 - (1 : Int))), (s1007.set (i1005).toNat r1008.1))) else none) else none)) else none) else (done (rest1004, i1005, s1007)))
def z60.l0 (l1001 : List Int) (d1002 : Int) (x : (Int × Int × (List Int))) : Option ((Int × Int × (List Int))) := lfp (fun rec x => z60.l0P l1001 d1002 rec some x) x
def z60.F (a0 : List Int) (a1 : Int) : Option ((List Int) × Int) :=
  (if 0 ≤ (((a0).length : Nat) : Int) ∧ (((a0).length : Nat) : Int) * 8 ≤ 140737488355328 then ((z60.l0 a0 a1 ((0 : Int), (wr .i64 ((((a0).length : Nat) : Int) - (1 : Int))), (List.replicate ((((a0).length : Nat) : Int)).toNat (0 : Int)))).bind fun o1 => (some (o1.2.2, o1.1))) else none)
def z60.enc (r : (List Int) × Int) : V := (.tup [(.ints false .u64 r.1), (.int .u64 r.2)])
def z60.pack : List V → Option Pack
  | [(.ints _ .u64 a0), (.int .u64 a1)] => some ⟨(List Int) × Int, z60.F a0 a1, z60.enc⟩
  | _ => none
def z61.F (a0 : List Int) (a1 : List Int) : Option ((List Int) × (List Int) × Int) :=
  ((z15.F a1).bind fun r1 => (bif r1 then (some ([], [], (8 : Int))) else ((z25.F a0 a1).bind fun r2 => (bif (decide (r2 < (0 : Int))) then (some ([], a0, (0 : Int))) else ((z56.F a0).bind fun r3 => ((z56.F a1).bind fun r4 => (bif (decide ((((r4).length : Nat) : Int) = (1 : Int))) then (if (0 : Int) ≤ (0 : Int) ∧ (0 : Int) < (r4.length : Int) then ((z60.F r3 (r4.getD 0 0)).bind fun r5 => ((z34.F r5.1).bind fun r6 => ((z34.F [r5.2]).bind fun r7 => (some (r6, r7, (0 : Int)))))) else none) else ((z5.F r3 r4).bind fun r8 => ((z34.F r8.1).bind fun r9 => ((z34.F r8.2).bind fun r10 => (some (r9, r10, (0 : Int)))))))))))))
def z61.enc (r : (List Int) × (List Int) × Int) : V := (.tup [(.agg [(.ints false .u64 r.1)]), (.agg [(.ints false .u64 r.2.1)]), (.int .i64 r.2.2)])
def z61.pack : List V → Option Pack
  | [(.agg [(.ints _ .u64 a0)]), (.agg [(.ints _ .u64 a1)])] => some ⟨(List Int) × (List Int) × Int, z61.F a0 a1, z61.enc⟩
  | _ => none
def z62.l0P  {R : Type} (rec : ((List Int) × (List Int)) → Option R) (done : ((List Int) × (List Int)) → Option R) : ((List Int) × (List Int)) → Option R := fun x => match x with
  | (s1001, s1002) => ((z15.F s1002).bind fun r1004 => (bif (!r1004) then ((z61.F s1001 s1002).bind fun r1005 => (rec (s1002, r1005.2.1))) else (done (s1001, s1002))))
def z62.l0  (x : ((List Int) × (List Int))) : Option (((List Int) × (List Int))) := lfp (fun rec x => z62.l0P  rec some x) x
def z62.F (a0 : List Int) (a1 : List Int) : Option ((List Int)) :=
  ((z62.l0 (a0, a1)).bind fun o1 => (some o1.1))
def z62.enc (r : (List Int)) : V := (.agg [(.ints false .u64 r)])
def z62.pack : List V → Option Pack
  | [(.agg [(.ints _ .u64 a0)]), (.agg [(.ints _ .u64 a1)])] => some ⟨(List Int), z62.F a0 a1, z62.enc⟩
  | _ => none
def z63.F (a0 : List Int) (a1 : Bool) (a2 : List Int) : Option ((List Int) × Bool × (List Int)) :=
  ((z55.F a0 a1).bind fun r1 => ((z62.F r1 a2).bind fun r2 => ((z55.F a0 a1).bind fun r3 => ((z61.F r3 r2).bind fun r4 => ((z61.F a2 r2).bind fun r5 => ((z34.F [(1 : Int)]).bind fun r6 => ((z26.F r5.1 r6).bind fun r7 => ((z16.F a0 a1).bind fun r8 => ((z17.F r4.1 (decide (r8 < (0 : Int)))).bind fun r9 => (some (r9.1, r9.2, r7.1)))))))))))
def z63.enc (r : (List Int) × Bool × (List Int)) : V := (.agg [(.ints false .u64 r.1), (.bool r.2.1), (.ints false .u64 r.2.2)])
def z63.pack : List V → Option Pack
  | [(.agg [(.ints _ .u64 a0), (.bool a1)]), (.agg [(.ints _ .u64 a2)])] => some ⟨(List Int) × Bool × (List Int), z63.F a0 a1 a2, z63.enc⟩
  | _ => none
def z64.j4 (a2 : List Int) (a3 : Bool) (j3 : List Int) (j4 : Bool) : Option ((List Int) × Bool × (List Int) × Int) :=
  ((z55.F a2 a3).bind fun r5 => ((z63.F j3 j4 r5).bind fun r6 => (some (r6.1, r6.2.1, r6.2.2, (0 : Int)))))
def z64.F (a0 : List Int) (a1 : Bool) (a2 : List Int) (a3 : Bool) : Option ((List Int) × Bool × (List Int) × Int) :=
  ((z16.F a2 a3).bind fun r1 => (bif (decide (r1 = (0 : Int))) then (some ([], false, [], (8 : Int))) else (bif (decide (r1 = (-1 : Int))) then ((z28.F a0 a1).bind fun r2 => (z64.j4 a2 a3 r2.1 r2.2)) else (z64.j4 a2 a3 a0 a1))))
def z64.enc (r : (List Int) × Bool × (List Int) × Int) : V := (.tup [(.agg [(.ints false .u64 r.1), (.bool r.2.1), (.ints false .u64 r.2.2.1)]), (.int .i64 r.2.2.2)])
def z64.pack : List V → Option Pack
  | [(.agg [(.ints _ .u64 a0), (.bool a1)]), (.agg [(.ints _ .u64 a2), (.bool a3)])] => some ⟨(List Int) × Bool × (List Int) × Int, z64.F a0 a1 a2 a3, z64.enc⟩
  | _ => none
def z65.F (a0 : List Int) (a1 : Bool) (a2 : Int) : Option ((List Int) × Bool × (List Int)) :=
  ((z51.F a2).bind fun r1 => ((z64.F a0 a1 r1.1 r1.2).bind fun r2 => (some (r2.1, r2.2.1, r2.2.2.1))))
def z65.enc (r : (List Int) × Bool × (List Int)) : V := (.agg [(.ints false .u64 r.1), (.bool r.2.1), (.ints false .u64 r.2.2)])
def z65.pack : List V → Option Pack
  | [(.agg [(.ints _ .u64 a0), (.bool a1), (.int .i64 a2)])] => some ⟨(List Int) × Bool × (List Int), z65.F a0 a1 a2, z65.enc⟩
  | _ => none
def z66.F (a0 : List Int) (a1 : Bool) (a2 : List Int) : Option ((List Int)) :=
  ((z34.F [(1 : Int)]).bind fun r1 => ((z20.F a2 r1).bind fun r2 => (some r2)))
def z66.enc (r : (List Int)) : V := (.agg [(.ints false .u64 r)])
def z66.pack : List V → Option Pack
  | [(.agg [(.ints _ .u64 a0), (.bool a1), (.ints _ .u64 a2)])] => some ⟨(List Int), z66.F a0 a1 a2, z66.enc⟩
  | _ => none
def z67.F (a0 : List Int) (a1 : Bool) (a2 : List Int) : Option ((List Int) × Bool) :=
  ((z66.F a0 a1 a2).bind fun r1 => ((z17.F r1 false).bind fun r2 => (some (r2.1, r2.2))))
def z67.enc (r : (List Int) × Bool) : V := (.agg [(.ints false .u64 r.1), (.bool r.2)])
def z67.pack : List V → Option Pack
  | [(.agg [(.ints _ .u64 a0), (.bool a1), (.ints _ .u64 a2)])] => some ⟨(List Int) × Bool, z67.F a0 a1 a2, z67.enc⟩
  | _ => none
def z68.F (a0 : List Int) (a1 : Bool) (a2 : List Int) (a3 : List Int) (a4 : Bool) (a5 : List Int) : Option ((List Int) × Bool × (List Int) × Int) :=
  ((z67.F a3 a4 a5).bind fun r1 => ((z50.F a0 a1 r1.1 r1.2).bind fun r2 => ((z67.F a0 a1 a2).bind fun r3 => ((z50.F r3.1 r3.2 a3 a4).bind fun r4 => ((z64.F r2.1 r2.2 r4.1 r4.2).bind fun r5 => (some (r5.1, r5.2.1, r5.2.2.1, r5.2.2.2)))))))
def z68.enc (r : (List Int) × Bool × (List Int) × Int) : V := (.tup [(.agg [(.ints false .u64 r.1), (.bool r.2.1), (.ints false .u64 r.2.2.1)]), (.int .i64 r.2.2.2)])
def z68.pack : List V → Option Pack
  | [(.agg [(.ints _ .u64 a0), (.bool a1), (.ints _ .u64 a2)]), (.agg [(.ints _ .u64 a3), (.bool a4), (.ints _ .u64 a5)])] => some ⟨(List Int) × Bool × (List Int) × Int, z68.F a0 a1 a2 a3 a4 a5, z68.enc⟩
  | _ => none
def z69.j8 (r1 : (List Int) × Bool × Int × Int) : Option ((List Int) × Bool × (List Int) × Int) :=
  ((z65.F r1.1 r1.2.1 r1.2.2.1).bind fun r9 => ((z44.F (100 : Int)).bind fun r10 => ((z43.F r10.1 r10.2).bind fun r11 => ((z68.F r9.1 r9.2.1 r9.2.2 r11.1 r11.2.1 r11.2.2).bind fun r12 => (some (r12.1, r12.2.1, r12.2.2.1, r12.2.2.2))))))
def z69.F (a0 : List UInt8) : Option ((List Int) × Bool × (List Int) × Int) :=
  ((z46.F a0).bind fun r1 => (bif (!decide (r1.2.2.2 = (0 : Int))) then (some ([], false, [], r1.2.2.2)) else ((z44.F (1000 : Int)).bind fun r2 => ((z48.F r2.1 r2.2 (0 : Int)).bind fun r3 => ((z49.F r1.1 r1.2.1 r1.2.2.1).bind fun r4 => ((z16.F r4.1 r4.2).bind fun r5 => (bif (decide (r5 < (0 : Int))) then (some ([], false, [], (18 : Int))) else ((z53.F r1.1 r1.2.1 r1.2.2.1 r3.1 r3.2.1 r3.2.2.1).bind fun r6 => (bif (decide (r6 > (0 : Int))) then (some ([], false, [], (18 : Int))) else ((z54.F r1.1 r1.2.1 r1.2.2.1).bind fun r7 => (bif (decide (r7 > (12 : Int))) then (some ([], false, [], (18 : Int))) else (z69.j8 r1))))))))))))
def z69.enc (r : (List Int) × Bool × (List Int) × Int) : V := (.tup [(.agg [(.ints false .u64 r.1), (.bool r.2.1), (.ints false .u64 r.2.2.1)]), (.int .i64 r.2.2.2)])
def z69.pack : List V → Option Pack
  | [(.str a0)] => some ⟨(List Int) × Bool × (List Int) × Int, z69.F a0, z69.enc⟩
  | _ => none
def z70.F  : Option ((List (List UInt8))) :=
  (some [([97, 110, 110, 117, 105, 116, 121] : List UInt8), ([108, 105, 110, 101, 97, 114] : List UInt8), ([98, 117, 108, 108, 101, 116] : List UInt8)])
def z70.enc (r : (List (List UInt8))) : V := (.strs false r)
def z70.pack : List V → Option Pack
  | [] => some ⟨(List (List UInt8)), z70.F , z70.enc⟩
  | _ => none
def z71.j1 (a0 : Int) : Option ((List UInt8)) :=
  (z70.F.bind fun r2 => (if (0 : Int) ≤ a0 ∧ a0 < (r2.length : Int) then (some (r2.getD (a0).toNat [])) else none))
def z71.F (a0 : Int) : Option ((List UInt8)) :=
  (bif (decide (a0 < (0 : Int))) then (some ([] : List UInt8)) else (bif (decide (a0 ≥ (3 : Int))) then (some ([] : List UInt8)) else (z71.j1 a0)))
def z71.enc (r : (List UInt8)) : V := (.str r)
def z71.pack : List V → Option Pack
  | [(.int .i64 a0)] => some ⟨(List UInt8), z71.F a0, z71.enc⟩
  | _ => none
def z72.F (a0 : Int) : Option (Bool) :=
  (bif (decide (a0 ≥ (0 : Int))) then (some (decide (a0 < (5 : Int)))) else (some false))
def z72.enc (r : Bool) : V := (.bool r)
def z72.pack : List V → Option Pack
  | [(.int .i64 a0)] => some ⟨Bool, z72.F a0, z72.enc⟩
  | _ => none
def z73.F  : Option ((List (List UInt8))) :=
  (some [([100, 111, 119, 110] : List UInt8), ([117, 112] : List UInt8), ([104, 97, 108, 102, 45, 117, 112] : List UInt8), ([104, 97, 108, 102, 45, 100, 111, 119, 110] : List UInt8), ([104, 97, 108, 102, 45, 101, 118, 101, 110] : List UInt8)])
def z73.enc (r : (List (List UInt8))) : V := (.strs false r)
def z73.pack : List V → Option Pack
  | [] => some ⟨(List (List UInt8)), z73.F , z73.enc⟩
  | _ => none
def z74.F (a0 : Int) : Option ((List UInt8)) :=
  ((z72.F a0).bind fun r1 => (bif (!r1) then (some ([] : List UInt8)) else (z73.F.bind fun r2 => (if (0 : Int) ≤ a0 ∧ a0 < (r2.length : Int) then (some (r2.getD (a0).toNat [])) else none))))
def z74.enc (r : (List UInt8)) : V := (.str r)
def z74.pack : List V → Option Pack
  | [(.int .i64 a0)] => some ⟨(List UInt8), z74.F a0, z74.enc⟩
  | _ => none
def z75.F (a0 : Int) : Option (Bool) :=
  (bif (decide (a0 ≥ (0 : Int))) then (some (decide (a0 < (3 : Int)))) else (some false))
def z75.enc (r : Bool) : V := (.bool r)
def z75.pack : List V → Option Pack
  | [(.int .i64 a0)] => some ⟨Bool, z75.F a0, z75.enc⟩
  | _ => none
def z76.F  : Option ((List (List UInt8))) :=
  (some [([116, 104, 105, 114, 116, 121] : List UInt8), ([102, 105, 120, 101, 100] : List UInt8), ([97, 99, 116, 117, 97, 108] : List UInt8)])
def z76.enc (r : (List (List UInt8))) : V := (.strs false r)
def z76.pack : List V → Option Pack
  | [] => some ⟨(List (List UInt8)), z76.F , z76.enc⟩
  | _ => none
def z77.F (a0 : Int) : Option ((List UInt8)) :=
  ((z75.F a0).bind fun r1 => (bif (!r1) then (some ([] : List UInt8)) else (z76.F.bind fun r2 => (if (0 : Int) ≤ a0 ∧ a0 < (r2.length : Int) then (some (r2.getD (a0).toNat [])) else none))))
def z77.enc (r : (List UInt8)) : V := (.str r)
def z77.pack : List V → Option Pack
  | [(.int .i64 a0)] => some ⟨(List UInt8), z77.F a0, z77.enc⟩
  | _ => none
def z78.F (a0 : List UInt8) (a1 : List UInt8) (a2 : Int) (a3 : Int) (a4 : Int) (a5 : Int) (a6 : Int) (a7 : Int) (a8 : Int) (a9 : Int) : Option (Bool) :=
  ((z71.F a2).bind fun r1 => (bif (decide (r1 = ([] : List UInt8))) then (some true) else ((z77.F a3).bind fun r2 => (bif (decide (r2 = ([] : List UInt8))) then (some true) else ((z74.F a4).bind fun r3 => (bif (decide (r3 = ([] : List UInt8))) then (some true) else (bif (decide (a8 < (1 : Int))) then (some true) else (bif (decide (a8 = (5 : Int))) then (some true) else (if a8 = 0 then none else (some (!decide ((Int.tmod (12 : Int) a8) = (0 : Int)))))))))))))
def z78.enc (r : Bool) : V := (.bool r)
def z78.pack : List V → Option Pack
  | [(.agg [(.str a0), (.str a1), (.int .i64 a2), (.int .i64 a3), (.int .i64 a4), (.int .i64 a5), (.int .i64 a6), (.int .i64 a7), (.int .i64 a8), (.int .i64 a9)])] => some ⟨Bool, z78.F a0 a1 a2 a3 a4 a5 a6 a7 a8 a9, z78.enc⟩
  | _ => none
def z79.F (a0 : Int) : Option (Bool) :=
  (bif (decide (a0 ≥ (1 : Int))) then (some (decide (a0 ≤ (9999 : Int)))) else (some false))
def z79.enc (r : Bool) : V := (.bool r)
def z79.pack : List V → Option Pack
  | [(.int .i64 a0)] => some ⟨Bool, z79.F a0, z79.enc⟩
  | _ => none
def z80.F (a0 : Int) : Option (Bool) :=
  ((z79.F a0).bind fun r1 => (bif r1 then (bif (decide ((Int.tmod a0 (4 : Int)) = (0 : Int))) then (bif (!decide ((Int.tmod a0 (100 : Int)) = (0 : Int))) then (some true) else (some (decide ((Int.tmod a0 (400 : Int)) = (0 : Int))))) else (some (decide ((Int.tmod a0 (400 : Int)) = (0 : Int))))) else (some false)))
def z80.enc (r : Bool) : V := (.bool r)
def z80.pack : List V → Option Pack
  | [(.int .i64 a0)] => some ⟨Bool, z80.F a0, z80.enc⟩
  | _ => none
def z81.j10 (a1 : Int) : Option (Int) :=
  (if (0 : Int) ≤ (wr .i64 (a1 - (1 : Int))) ∧ (wr .i64 (a1 - (1 : Int))) < (12 : Int) then (V.asInt .i64 (([(.int .i64 (31 : Int)), (.int .i64 (28 : Int)), (.int .i64 (31 : Int)), (.int .i64 (30 : Int)), (.int .i64 (31 : Int)), (.int .i64 (30 : Int)), (.int .i64 (31 : Int)), (.int .i64 (31 : Int)), (.int .i64 (30 : Int)), (.int .i64 (31 : Int)), (.int .i64 (30 : Int)), (.int .i64 (31 : Int))] : List V).getD ((wr .i64 (a1 - (1 : Int)))).toNat .undef) fun c11 => (some c11)) else none)
def z81.F (a0 : Int) (a1 : Int) : Option (Int) :=
  ((z79.F a0).bind fun r1 => (bif (!r1) then (some (0 : Int)) else (bif (decide (a1 < (1 : Int))) then (some (0 : Int)) else (bif (decide (a1 > (12 : Int))) then (some (0 : Int)) else (bif (decide (a1 = (2 : Int))) then ((z80.F a0).bind fun r9 => (bif r9 then (some (29 : Int)) else (z81.j10 a1))) else (z81.j10 a1))))))
def z81.enc (r : Int) : V := (.int .i64 r)
def z81.pack : List V → Option Pack
  | [(.int .i64 a0), (.int .i64 a1)] => some ⟨Int, z81.F a0 a1, z81.enc⟩
  | _ => none
def z82.F (a0 : Int) (a1 : Int) (a2 : Int) : Option (Int) :=
  (bif (decide (a2 < (1 : Int))) then (some (11 : Int)) else ((z81.F a0 a1).bind fun r1 => (bif (decide (a2 > r1)) then (some (11 : Int)) else (some (0 : Int)))))
def z82.enc (r : Int) : V := (.int .i64 r)
def z82.pack : List V → Option Pack
  | [(.agg [(.int .i64 a0), (.int .i64 a1), (.int .i64 a2)])] => some ⟨Int, z82.F a0 a1 a2, z82.enc⟩
  | _ => none
def z83.j3 (a0 : Int) (a1 : Int) (a3 : Int) (a2 : Int) : Option (Int × Int × Int × Int) :=
  ((z81.F (wr .i64 (Int.tdiv (wr .i64 ((wr .i64 ((wr .i64 ((wr .i64 ((12 : Int) * a0)) + a1)) - (1 : Int))) + a3)) (12 : Int))) (wr .i64 ((Int.tmod (wr .i64 ((wr .i64 ((wr .i64 ((wr .i64 ((12 : Int) * a0)) + a1)) - (1 : Int))) + a3)) (12 : Int)) + (1 : Int)))).bind fun r4 => (some ((wr .i64 (Int.tdiv (wr .i64 ((wr .i64 ((wr .i64 ((wr .i64 ((12 : Int) * a0)) + a1)) - (1 : Int))) + a3)) (12 : Int))), (wr .i64 ((Int.tmod (wr .i64 ((wr .i64 ((wr .i64 ((wr .i64 ((12 : Int) * a0)) + a1)) - (1 : Int))) + a3)) (12 : Int)) + (1 : Int))), (if r4 < a2 then r4 else a2), (0 : Int))))
def z83.j2 (a0 : Int) (a1 : Int) (a3 : Int) (a2 : Int) : Option (Int × Int × Int × Int) :=
  (bif (decide ((wr .i64 ((wr .i64 ((wr .i64 ((wr .i64 ((12 : Int) * a0)) + a1)) - (1 : Int))) + a3)) < (12 : Int))) then (some ((0 : Int), (0 : Int), (0 : Int), (11 : Int))) else (bif (decide ((wr .i64 (Int.tdiv (wr .i64 ((wr .i64 ((wr .i64 ((wr .i64 ((12 : Int) * a0)) + a1)) - (1 : Int))) + a3)) (12 : Int))) > (9999 : Int))) then (some ((0 : Int), (0 : Int), (0 : Int), (11 : Int))) else (z83.j3 a0 a1 a3 a2)))
def z83.F (a0 : Int) (a1 : Int) (a2 : Int) (a3 : Int) : Option (Int × Int × Int × Int) :=
  ((z82.F a0 a1 a2).bind fun r1 => (bif (!decide (r1 = (0 : Int))) then (some ((0 : Int), (0 : Int), (0 : Int), r1)) else (bif (decide (a3 < (-119988 : Int))) then (some ((0 : Int), (0 : Int), (0 : Int), (11 : Int))) else (bif (decide (a3 > (119988 : Int))) then (some ((0 : Int), (0 : Int), (0 : Int), (11 : Int))) else (z83.j2 a0 a1 a3 a2)))))
def z83.enc (r : Int × Int × Int × Int) : V := (.tup [(.agg [(.int .i64 r.1), (.int .i64 r.2.1), (.int .i64 r.2.2.1)]), (.int .i64 r.2.2.2)])
def z83.pack : List V → Option Pack
  | [(.agg [(.int .i64 a0), (.int .i64 a1), (.int .i64 a2)]), (.int .i64 a3)] => some ⟨Int × Int × Int × Int, z83.F a0 a1 a2 a3, z83.enc⟩
  | _ => none
def z84.F (a0 : List UInt8) (a1 : List UInt8) (a2 : Int) (a3 : Int) (a4 : Int) (a5 : Int) (a6 : Int) (a7 : Int) (a8 : Int) (a9 : Int) : Option (Int) :=
  ((z42.F a0).bind fun r1 => (bif (!decide (r1.2.2 = (0 : Int))) then (some r1.2.2) else ((z16.F r1.1 r1.2.1).bind fun r2 => (bif (decide (r2 = (0 : Int))) then (some (19 : Int)) else ((z69.F a1).bind fun r3 => (bif (!decide (r3.2.2.2 = (0 : Int))) then (some r3.2.2.2) else ((z78.F a0 a1 a2 a3 a4 a5 a6 a7 a8 a9).bind fun r4 => (bif r4 then (some (2 : Int)) else (bif (decide (a9 < (1 : Int))) then (some (6 : Int)) else (bif (decide (a9 > (1200 : Int))) then (some (6 : Int)) else ((z83.F a5 a6 a7 (wr .i64 (a8 * a9))).bind fun r8 => (some r8.2.2.2))))))))))))
def z84.enc (r : Int) : V := (.int .i64 r)
def z84.pack : List V → Option Pack
  | [(.agg [(.str a0), (.str a1), (.int .i64 a2), (.int .i64 a3), (.int .i64 a4), (.int .i64 a5), (.int .i64 a6), (.int .i64 a7), (.int .i64 a8), (.int .i64 a9)])] => some ⟨Int, z84.F a0 a1 a2 a3 a4 a5 a6 a7 a8 a9, z84.enc⟩
  | _ => none
def z85.l2P (s2001 : List UInt8) (end2002 : Int) {R : Type} (rec : (Int × Int) → Option R) (done : (Int × Int) → Option R) : (Int × Int) → Option R := fun x => match x with
  | (d2003, i2004) => (bif (decide (i2004 < end2002)) then (if (0 : Int) ≤ i2004 ∧ i2004 < (s2001.length : Int) then (rec ((wr .i64 ((wr .i64 ((wr .i64 ((10 : Int) * d2003)) + (wr .i64 ((s2001.getD (i2004).toNat 0).toNat : Int)))) - (48 : Int))), (wr .i64 (i2004 + (1 : Int))))) else none) else (done (d2003, i2004)))
def z85.l2 (s2001 : List UInt8) (end2002 : Int) (x : (Int × Int)) : Option ((Int × Int)) := lfp (fun rec x => z85.l2P s2001 end2002 rec some x) x
def z85.l0P (s1001 : List UInt8) {R : Type} (rec : (Int × (List Int)) → Option R) (done : (Int × (List Int)) → Option R) : (Int × (List Int)) → Option R := fun x => match x with
  | (end1002, s1004) => (bif (decide (end1002 > (0 : Int))) then ((z85.l2 s1001 end1002 ((0 : Int), (if (wr .i64 (end1002 - (4 : Int))) > (0 : Int) then (wr .i64 (end1002 - (4 : Int))) else (0 : Int)))).bind fun o1005 => (if ((s1004).length + ([o1005.1]).length) * 8 ≤ 140737488355328 then (rec ((wr .i64 (end1002 - (4 : Int))), (s1004 ++ [o1005.1]))) else none)) else (done (end1002, s1004)))
def z85.l0 (s1001 : List UInt8) (x : (Int × (List Int))) : Option ((Int × (List Int))) := lfp (fun rec x => z85.l0P s1001 rec some x) x
def z85.F (a0 : List UInt8) : Option ((List Int)) :=
  ((z85.l0 a0 ((a0.length : Int), [])).bind fun o1 => ((z12.F o1.2).bind fun r2 => (some r2)))
def z85.enc (r : (List Int)) : V := (.ints false .i64 r)
def z85.pack : List V → Option Pack
  | [(.str a0)] => some ⟨(List Int), z85.F a0, z85.enc⟩
  | _ => none
def z86.F (a0 : List UInt8) : Option ((List Int) × Bool) :=
  (if (0 : Int) ≤ (0 : Int) ∧ (0 : Int) < (a0.length : Int) then (bif (decide (((a0.getD 0 0).toNat : Int) = (45 : Int))) then (if (0 : Int) ≤ (1 : Int) ∧ (1 : Int) ≤ ((a0).length : Int) then ((z85.F (a0.drop 1)).bind fun r1 => ((z8.F r1 true).bind fun r2 => (some (r2.1, r2.2)))) else none) else ((z85.F a0).bind fun r3 => ((z8.F r3 false).bind fun r4 => (some (r4.1, r4.2))))) else none)
def z86.enc (r : (List Int) × Bool) : V := (.agg [(.ints false .i64 r.1), (.bool r.2)])
def z86.pack : List V → Option Pack
  | [(.str a0)] => some ⟨(List Int) × Bool, z86.F a0, z86.enc⟩
  | _ => none
def z87.l0b4P (s5001 : List UInt8) {R : Type} (rec : Int → Option R) (done : ((Int) ⊕ (Bool)) → Option R) : Int → Option R := fun i5003 => (bif (decide (i5003 < (s5001.length : Int))) then (if (0 : Int) ≤ i5003 ∧ i5003 < (s5001.length : Int) then (bif (decide (((s5001.getD (i5003).toNat 0).toNat : Int) < (48 : Int))) then (done (.inr false)) else (if (0 : Int) ≤ i5003 ∧ i5003 < (s5001.length : Int) then (bif (decide (((s5001.getD (i5003).toNat 0).toNat : Int) > (57 : Int))) then (done (.inr false)) else (rec (wr .i64 (i5003 + (1 : Int))))) else none)) else none) else (done (.inl i5003)))
def z87.l0b4 (s5001 : List UInt8) (x : Int) : Option (((Int) ⊕ (Bool))) := lfp (fun rec x => z87.l0b4P s5001 rec some x) x
def z87.F (a0 : List UInt8) : Option (Bool) :=
  (bif (decide ((a0.length : Int) = (0 : Int))) then (some false) else (bif (decide ((a0.length : Int) > (1 : Int))) then (if (0 : Int) ≤ (0 : Int) ∧ (0 : Int) < (a0.length : Int) then (bif (decide (((a0.getD 0 0).toNat : Int) = (48 : Int))) then (some false) else ((z87.l0b4 a0 (0 : Int)).bind fun o8 => match o8 with | .inl p9 => (some true) | .inr q10 => (some q10))) else none) else ((z87.l0b4 a0 (0 : Int)).bind fun o11 => match o11 with | .inl p12 => (some true) | .inr q13 => (some q13))))
def z87.enc (r : Bool) : V := (.bool r)
def z87.pack : List V → Option Pack
  | [(.str a0)] => some ⟨Bool, z87.F a0, z87.enc⟩
  | _ => none
def z88.j3 (j3 : List UInt8) (r1 : (List Int) × Bool) (a0 : List UInt8) : Option ((List Int) × Bool × Int) :=
  (bif (decide ((j3.length : Int) > (4096 : Int))) then (some (r1.1, r1.2, (7 : Int))) else ((z87.F j3).bind fun r4 => (bif (!r4) then (some (r1.1, r1.2, (5 : Int))) else (bif (decide (j3 = ([48] : List UInt8))) then (bif (decide ((a0.length : Int) > (1 : Int))) then (some (r1.1, r1.2, (5 : Int))) else ((z86.F a0).bind fun r8 => (some (r8.1, r8.2, (0 : Int))))) else ((z86.F a0).bind fun r9 => (some (r9.1, r9.2, (0 : Int))))))))
def z88.F (a0 : List UInt8) : Option ((List Int) × Bool × Int) :=
  ((z10.F (0 : Int)).bind fun r1 => (bif (decide ((a0.length : Int) > (0 : Int))) then (if (0 : Int) ≤ (0 : Int) ∧ (0 : Int) < (a0.length : Int) then (bif (decide (((a0.getD 0 0).toNat : Int) = (45 : Int))) then (if (0 : Int) ≤ (1 : Int) ∧ (1 : Int) ≤ ((a0).length : Int) then (z88.j3 (a0.drop 1) r1 a0) else none) else (z88.j3 a0 r1 a0)) else none) else (z88.j3 a0 r1 a0)))
def z88.enc (r : (List Int) × Bool × Int) : V := (.tup [(.agg [(.ints false .i64 r.1), (.bool r.2.1)]), (.int .i64 r.2.2)])
def z88.pack : List V → Option Pack
  | [(.str a0)] => some ⟨(List Int) × Bool × Int, z88.F a0, z88.enc⟩
  | _ => none
def z89.l0P (times1001 : Int) {R : Type} (rec : ((List UInt8) × Int) → Option R) (done : ((List UInt8) × Int) → Option R) : ((List UInt8) × Int) → Option R := fun x => match x with
  | (s1002, i1003) => (bif (decide (i1003 < times1001)) then (if s1002.length + ([48] : List UInt8).length ≤ 9223372036854775807 then (rec ((s1002 ++ ([48] : List UInt8)), (wr .i64 (i1003 + (1 : Int))))) else none) else (done (s1002, i1003)))
def z89.l0 (times1001 : Int) (x : ((List UInt8) × Int)) : Option (((List UInt8) × Int)) := lfp (fun rec x => z89.l0P times1001 rec some x) x
def z89.F (a0 : Int) : Option ((List Int)) :=
  ((z89.l0 a0 (([49] : List UInt8), (0 : Int))).bind fun o1 => ((z85.F o1.1).bind fun r2 => (some r2)))
def z89.enc (r : (List Int)) : V := (.ints false .i64 r)
def z89.pack : List V → Option Pack
  | [(.int .i64 a0)] => some ⟨(List Int), z89.F a0, z89.enc⟩
  | _ => none
def z90.F (a0 : List Int) (a1 : Bool) : Option ((List Int) × Bool) :=
  ((z8.F a0 (!a1)).bind fun r1 => (some (r1.1, r1.2)))
def z90.enc (r : (List Int) × Bool) : V := (.agg [(.ints false .i64 r.1), (.bool r.2)])
def z90.pack : List V → Option Pack
  | [(.agg [(.ints _ .i64 a0), (.bool a1)])] => some ⟨(List Int) × Bool, z90.F a0 a1, z90.enc⟩
  | _ => none
def z91.l0b6P (a7001 : List Int) (b7002 : List Int) {R : Type} (rec : (Int × Int × (List Int)) → Option R) (done : (Int × Int × (List Int)) → Option R) : (Int × Int × (List Int)) → Option R := fun x => match x with
  | (carry7003, i7004, s7006) => (bif (decide (i7004 < (((a7001).length : Nat) : Int))) then ((z11.F a7001 i7004).bind fun r7007 => ((z11.F b7002 i7004).bind fun r7008 => (if ((s7006).length + ([(Int.tmod (wr .i64 ((wr .i64 (r7007 + r7008)) + carry7003)) (10000 : Int))]).length) * 8 ≤ 140737488355328 then (rec ((wr .i64 (Int.tdiv (wr .i64 ((wr .i64 (r7007 + r7008)) + carry7003)) (10000 : Int))), (wr .i64 (i7004 + (1 : Int))), (s7006 ++ [(Int.tmod (wr .i64 ((wr .i64 (r7007 + r7008)) + carry7003)) (10000 : Int))]))) else none))) else (bif (decide (i7004 < (((b7002).length : Nat) : Int))) then ((z11.F a7001 i7004).bind fun r7009 => ((z11.F b7002 i7004).bind fun r7010 => (if ((s7006).length + ([(Int.tmod (wr .i64 ((wr .i64 (r7009 + r7010)) + carry7003)) (10000 : Int))]).length) * 8 ≤ 140737488355328 then (rec ((wr .i64 (Int.tdiv (wr .i64 ((wr .i64 (r7009 + r7010)) + carry7003)) (10000 : Int))), (wr .i64 (i7004 + (1 : Int))), (s7006 ++ [(Int.tmod (wr .i64 ((wr .i64 (r7009 + r7010)) + carry7003)) (10000 : Int))]))) else none))) else (bif (decide (carry7003 > (0 : Int))) then ((z11.F a7001 i7004).bind fun r7011 => ((z11.F b7002 i7004).bind fun r7012 => (if ((s7006).length + ([(Int.tmod (wr .i64 ((wr .i64 (r7011 + r7012)) + carry7003)) (10000 : Int))]).length) * 8 ≤ 140737488355328 then (rec ((wr .i64 (Int.tdiv (wr .i64 ((wr .i64 (r7011 + r7012)) + carry7003)) (10000 : Int))), (wr .i64 (i7004 + (1 : Int))), (s7006 ++ [(Int.tmod (wr .i64 ((wr .i64 (r7011 + r7012)) + carry7003)) (10000 : Int))]))) else none))) else (done (carry7003, i7004, s7006)))))
def z91.l0b6 (a7001 : List Int) (b7002 : List Int) (x : (Int × Int × (List Int))) : Option ((Int × Int × (List Int))) := lfp (fun rec x => z91.l0b6P a7001 b7002 rec some x) x
def z91.F (a0 : List Int) (a1 : List Int) : Option ((List Int)) :=
  ((z91.l0b6 a0 a1 ((0 : Int), (0 : Int), [])).bind fun o1 => ((z12.F o1.2.2).bind fun r2 => (some r2)))
def z91.enc (r : (List Int)) : V := (.ints false .i64 r)
def z91.pack : List V → Option Pack
  | [(.ints _ .i64 a0), (.ints _ .i64 a1)] => some ⟨(List Int), z91.F a0 a1, z91.enc⟩
  | _ => none
def z92.l0P (a1001 : List Int) (b1002 : List Int) {R : Type} (rec : Int → Option R) (done : ((Int) ⊕ (Int)) → Option R) : Int → Option R := fun i1004 => (bif (decide (i1004 ≥ (0 : Int))) then (if (0 : Int) ≤ i1004 ∧ i1004 < (a1001.length : Int) then (if (0 : Int) ≤ i1004 ∧ i1004 < (b1002.length : Int) then (bif (decide ((a1001.getD (i1004).toNat 0) < (b1002.getD (i1004).toNat 0))) then (done (.inr (-1 : Int))) else (if (0 : Int) ≤ i1004 ∧ i1004 < (a1001.length : Int) then (if (0 : Int) ≤ i1004 ∧ i1004 < (b1002.length : Int) then (bif (decide ((a1001.getD (i1004).toNat 0) > (b1002.getD (i1004).toNat 0))) then (done (.inr (1 : Int))) else (rec (wr .i64 (i1004 - (1 : Int))))) else none) else none)) else none) else none) else (done (.inl i1004)))
def z92.l0 (a1001 : List Int) (b1002 : List Int) (x : Int) : Option (((Int) ⊕ (Int))) := lfp (fun rec x => z92.l0P a1001 b1002 rec some x) x
def z92.F (a0 : List Int) (a1 : List Int) : Option (Int) :=
  (bif (!decide ((((a0).length : Nat) : Int) = (((a1).length : Nat) : Int))) then (bif (decide ((((a0).length : Nat) : Int) < (((a1).length : Nat) : Int))) then (some (-1 : Int)) else (some (1 : Int))) else ((z92.l0 a0 a1 (wr .i64 ((((a0).length : Nat) : Int) - (1 : Int)))).bind fun o1 => match o1 with | .inl p2 => (some (0 : Int)) | .inr q3 => (some q3)))
def z92.enc (r : Int) : V := (.int .i64 r)
def z92.pack : List V → Option Pack
  | [(.ints _ .i64 a0), (.ints _ .i64 a1)] => some ⟨Int, z92.F a0 a1, z92.enc⟩
  | _ => none
def z93.l0P (a1001 : List Int) (b1002 : List Int) {R : Type} (rec : (Int × Int × (List Int)) → Option R) (done : (Int × Int × (List Int)) → Option R) : (Int × Int × (List Int)) → Option R := fun x => match x with
  | (borrow1003, i1004, s1006) => (bif (decide (i1004 < (((a1001).length : Nat) : Int))) then ((z11.F b1002 i1004).bind fun r1007 => (if (0 : Int) ≤ i1004 ∧ i1004 < (a1001.length : Int) then (bif (decide ((wr .i64 ((wr .i64 ((a1001.getD (i1004).toNat 0) - r1007)) - borrow1003)) < (0 : Int))) then (if ((s1006).length + ([(wr .i64 ((wr .i64 ((wr .i64 ((a1001.getD (i1004).toNat 0) - r1007)) - borrow1003)) + (10000 : Int)))]).length) * 8 ≤ 140737488355328 then (rec ((1 : Int), (wr .i64 (i1004 + (1 : Int))), (s1006 ++ [(wr .i64 ((wr .i64 ((wr .i64 ((a1001.getD (i1004).toNat 0) - r1007)) - borrow1003)) + (10000 : Int)))]))) else none) else (if ((s1006).length + ([(wr .i64 ((wr .i64 ((a1001.getD (i1004).toNat 0) - r1007)) - borrow1003))]).length) * 8 ≤ 140737488355328 then (rec ((0 : Int), (wr .i64 (i1004 + (1 : Int))), (s1006 ++ [(wr .i64 ((wr .i64 ((a1001.getD (i1004).toNat 0) - r1007)) - borrow1003))]))) else none)) else none)) else (done (borrow1003, i1004, s1006)))
def z93.l0 (a1001 : List Int) (b1002 : List Int) (x : (Int × Int × (List Int))) : Option ((Int × Int × (List Int))) := lfp (fun rec x => z93.l0P a1001 b1002 rec some x) x
def z93.F (a0 : List Int) (a1 : List Int) : Option ((List Int)) :=
  ((z93.l0 a0 a1 ((0 : Int), (0 : Int), [])).bind fun o1 => ((z12.F o1.2.2).bind fun r2 => (some r2)))
def z93.enc (r : (List Int)) : V := (.ints false .i64 r)
def z93.pack : List V → Option Pack
  | [(.ints _ .i64 a0), (.ints _ .i64 a1)] => some ⟨(List Int), z93.F a0 a1, z93.enc⟩
  | _ => none
def z94.F (a0 : List Int) (a1 : Bool) (a2 : List Int) (a3 : Bool) : Option ((List Int) × Bool) :=
  (bif (decide (a1 = a3)) then ((z91.F a0 a2).bind fun r1 => ((z8.F r1 a1).bind fun r2 => (some (r2.1, r2.2)))) else ((z92.F a0 a2).bind fun r3 => (bif (decide (r3 ≥ (0 : Int))) then ((z93.F a0 a2).bind fun r4 => ((z8.F r4 a1).bind fun r5 => (some (r5.1, r5.2)))) else ((z93.F a2 a0).bind fun r6 => ((z8.F r6 a3).bind fun r7 => (some (r7.1, r7.2)))))))
def z94.enc (r : (List Int) × Bool) : V := (.agg [(.ints false .i64 r.1), (.bool r.2)])
def z94.pack : List V → Option Pack
  | [(.agg [(.ints _ .i64 a0), (.bool a1)]), (.agg [(.ints _ .i64 a2), (.bool a3)])] => some ⟨(List Int) × Bool, z94.F a0 a1 a2 a3, z94.enc⟩
  | _ => none
def z95.F (a0 : List Int) (a1 : Bool) (a2 : List Int) (a3 : Bool) : Option ((List Int) × Bool) :=
  ((z90.F a2 a3).bind fun r1 => ((z94.F a0 a1 r1.1 r1.2).bind fun r2 => (some (r2.1, r2.2))))
def z95.enc (r : (List Int) × Bool) : V := (.agg [(.ints false .i64 r.1), (.bool r.2)])
def z95.pack : List V → Option Pack
  | [(.agg [(.ints _ .i64 a0), (.bool a1)]), (.agg [(.ints _ .i64 a2), (.bool a3)])] => some ⟨(List Int) × Bool, z95.F a0 a1 a2 a3, z95.enc⟩
  | _ => none
def z96.F (a0 : List Int) (a1 : Bool) : Option (Int) :=
  (bif (decide ((((a0).length : Nat) : Int) = (0 : Int))) then (some (0 : Int)) else (bif a1 then (some (-1 : Int)) else (some (1 : Int))))
def z96.enc (r : Int) : V := (.int .i64 r)
def z96.pack : List V → Option Pack
  | [(.agg [(.ints _ .i64 a0), (.bool a1)])] => some ⟨Int, z96.F a0 a1, z96.enc⟩
  | _ => none
def z97.F (a0 : List Int) (a1 : Bool) (a2 : List Int) (a3 : Bool) : Option (Int) :=
  ((z95.F a0 a1 a2 a3).bind fun r1 => ((z96.F r1.1 r1.2).bind fun r2 => (some r2)))
def z97.enc (r : Int) : V := (.int .i64 r)
def z97.pack : List V → Option Pack
  | [(.agg [(.ints _ .i64 a0), (.bool a1)]), (.agg [(.ints _ .i64 a2), (.bool a3)])] => some ⟨Int, z97.F a0 a1 a2 a3, z97.enc⟩
  | _ => none
def z98.F (a0 : List UInt8) : Option ((List Int) × Bool × Int) :=
  ((z10.F (0 : Int)).bind fun r1 => ((z88.F a0).bind fun r2 => (bif (!decide (r2.2.2 = (0 : Int))) then (some (r1.1, r1.2, r2.2.2)) else ((z89.F (30 : Int)).bind fun r3 => ((z8.F r3 false).bind fun r4 => ((z97.F r2.1 r2.2.1 r4.1 r4.2).bind fun r5 => (bif r2.2.1 then (some (r1.1, r1.2, (19 : Int))) else (bif (decide (r5 > (0 : Int))) then (some (r1.1, r1.2, (19 : Int))) else (some (r2.1, r2.2.1, (0 : Int)))))))))))
def z98.enc (r : (List Int) × Bool × Int) : V := (.tup [(.agg [(.ints false .i64 r.1), (.bool r.2.1)]), (.int .i64 r.2.2)])
def z98.pack : List V → Option Pack
  | [(.str a0)] => some ⟨(List Int) × Bool × Int, z98.F a0, z98.enc⟩
  | _ => none
def z99.l2P (b2002 : List Int) (rest2003 : List Int) {R : Type} (rec : (Int × Int) → Option R) (done : (Int × Int) → Option R) : (Int × Int) → Option R := fun x => match x with
  | (low2005, high2006) => (bif (decide (low2005 < high2006)) then ((z9.F (wr .i64 (Int.tdiv (wr .i64 ((wr .i64 (low2005 + high2006)) + (1 : Int))) (2 : Int)))).bind fun r2010 => ((z13.F b2002 r2010).bind fun r2011 => ((z92.F r2011 rest2003).bind fun r2012 => (bif (decide (r2012 ≤ (0 : Int))) then (rec ((wr .i64 (Int.tdiv (wr .i64 ((wr .i64 (low2005 + high2006)) + (1 : Int))) (2 : Int))), high2006)) else (rec (low2005, (wr .i64 ((wr .i64 (Int.tdiv (wr .i64 ((wr .i64 (low2005 + high2006)) + (1 : Int))) (2 : Int))) - (1 : Int))))))))) else (done (low2005, high2006)))
def z99.l2 (b2002 : List Int) (rest2003 : List Int) (x : (Int × Int)) : Option ((Int × Int)) := lfp (fun rec x => z99.l2P b2002 rest2003 rec some x) x
def z99.l0aP (a3001 : List Int) (b3002 : List Int) {R : Type} (rec : ((List Int) × Int × (List Int)) → Option R) (done : ((List Int) × Int × (List Int)) → Option R) : ((List Int) × Int × (List Int)) → Option R := fun x => match x with
  | (rest3003, i3004, s3007) => (bif (decide (i3004 ≥ (0 : Int))) then (if (0 : Int) ≤ i3004 ∧ i3004 < (a3001.length : Int) then (if (([(a3001.getD (i3004).toNat 0)]).length + (rest3003).length) * 8 ≤ 140737488355328 then ((z12.F ([(a3001.getD (i3004).toNat 0)] ++ rest3003)).bind fun r3008 => ((z99.l2 b3002 r3008 ((0 : Int), (9999 : Int))).bind fun o3009 => (if (0 : Int) ≤ i3004 ∧ i3004 < (s3007.length : Int) then (if (i3004).toNat < s3007.length then ((z9.F o3009.1).bind fun r3010 => ((z13.F b3002 r3010).bind fun r3011 => ((z93.F r3008 r3011).bind fun r3012 => (rec (r3012, (wr .i64 (i3004 - (1 : Int))), (s3007.set (i3004).toNat o3009.1)))))) else none) else none))) else none) else none) else (done (rest3003, i3004, s3007)))
def z99.l0a (a3001 : List Int) (b3002 : List Int) (x : ((List Int) × Int × (List Int))) : Option (((List Int) × Int × (List Int))) := lfp (fun rec x => z99.l0aP a3001 b3002 rec some x) x
def z99.F (a0 : List Int) (a1 : List Int) : Option ((List Int) × (List Int)) :=
  (if 0 ≤ (((a0).length : Nat) : Int) ∧ (((a0).length : Nat) : Int) * 8 ≤ 140737488355328 then ((z99.l0a a0 a1 ([], (wr .i64 ((((a0).length : Nat) : Int) - (1 : Int))), (List.replicate ((((a0).length : Nat) : Int)).toNat (0 : Int)))).bind fun o1 => ((z12.F o1.2.2).bind fun r2 => (some (r2, o1.1)))) else none)
def z99.enc (r : (List Int) × (List Int)) : V := (.tup [(.ints false .i64 r.1), (.ints false .i64 r.2)])
def z99.pack : List V → Option Pack
  | [(.ints _ .i64 a0), (.ints _ .i64 a1)] => some ⟨(List Int) × (List Int), z99.F a0 a1, z99.enc⟩
  | _ => none
def z100.l0P  {R : Type} (rec : ((List Int) × (List Int)) → Option R) (done : ((List Int) × (List Int)) → Option R) : ((List Int) × (List Int)) → Option R := fun x => match x with
  | (a1001, b1002) => (bif (decide ((((b1002).length : Nat) : Int) > (0 : Int))) then ((z99.F a1001 b1002).bind fun r1004 => (rec (b1002, r1004.2))) else (done (a1001, b1002)))
def z100.l0  (x : ((List Int) × (List Int))) : Option (((List Int) × (List Int))) := lfp (fun rec x => z100.l0P  rec some x) x
def z100.F (a0 : List Int) (a1 : List Int) : Option ((List Int)) :=
  ((z100.l0 (a0, a1)).bind fun o1 => (some o1.1))
def z100.enc (r : (List Int)) : V := (.ints false .i64 r)
def z100.pack : List V → Option Pack
  | [(.ints _ .i64 a0), (.ints _ .i64 a1)] => some ⟨(List Int), z100.F a0 a1, z100.enc⟩
  | _ => none
def z101.F (a0 : List Int) (a1 : Bool) (a2 : List Int) : Option ((List Int) × Bool × (List Int)) :=
  ((z100.F a0 a2).bind fun r1 => ((z99.F a0 r1).bind fun r2 => ((z99.F a2 r1).bind fun r3 => ((z8.F r2.1 a1).bind fun r4 => (some (r4.1, r4.2, r3.1))))))
def z101.enc (r : (List Int) × Bool × (List Int)) : V := (.agg [(.ints false .i64 r.1), (.bool r.2.1), (.ints false .i64 r.2.2)])
def z101.pack : List V → Option Pack
  | [(.agg [(.ints _ .i64 a0), (.bool a1)]), (.ints _ .i64 a2)] => some ⟨(List Int) × Bool × (List Int), z101.F a0 a1 a2, z101.enc⟩
  | _ => none
def z102.F (a0 : List Int) (a1 : Bool) (a2 : List Int) (a3 : Bool) : Option ((List Int) × Bool × (List Int)) :=
  (bif a3 then ((z90.F a0 a1).bind fun r1 => ((z101.F r1.1 r1.2 a2).bind fun r5 => (some (r5.1, r5.2.1, r5.2.2)))) else ((z101.F a0 a1 a2).bind fun r6 => (some (r6.1, r6.2.1, r6.2.2))))
def z102.enc (r : (List Int) × Bool × (List Int)) : V := (.agg [(.ints false .i64 r.1), (.bool r.2.1), (.ints false .i64 r.2.2)])
def z102.pack : List V → Option Pack
  | [(.agg [(.ints _ .i64 a0), (.bool a1)]), (.agg [(.ints _ .i64 a2), (.bool a3)])] => some ⟨(List Int) × Bool × (List Int), z102.F a0 a1 a2 a3, z102.enc⟩
  | _ => none
def z103.F (a0 : Int) (a1 : Int) : Option ((List Int) × Bool × (List Int)) :=
  ((z10.F a0).bind fun r1 => ((z10.F a1).bind fun r2 => ((z102.F r1.1 r1.2 r2.1 r2.2).bind fun r3 => (some (r3.1, r3.2.1, r3.2.2)))))
def z103.enc (r : (List Int) × Bool × (List Int)) : V := (.agg [(.ints false .i64 r.1), (.bool r.2.1), (.ints false .i64 r.2.2)])
def z103.pack : List V → Option Pack
  | [(.int .i64 a0), (.int .i64 a1)] => some ⟨(List Int) × Bool × (List Int), z103.F a0 a1, z103.enc⟩
  | _ => none
def z104.j11016a {R : Type} (rec : (Int × (List UInt8) × Int × Int × Bool) → Option R) (done : ((Int × (List UInt8) × Int × Int × Bool) ⊕ (Int)) → Option R) (zero11008 : Bool) (i11004 : Int) (s11001 : List UInt8) (all11005 : List UInt8) (j11015 : Int) (j11016 : Int) : Option R :=
  (bif zero11008 then (if (0 : Int) ≤ i11004 ∧ i11004 < (s11001.length : Int) then (if (0 : Int) ≤ i11004 ∧ i11004 ≤ (wr .i64 (i11004 + (1 : Int))) ∧ (wr .i64 (i11004 + (1 : Int))) ≤ ((s11001).length : Int) then (if all11005.length + ((s11001.drop (i11004).toNat).take (((wr .i64 (i11004 + (1 : Int)))).toNat - (i11004).toNat)).length ≤ 9223372036854775807 then (rec ((wr .i64 (i11004 + (1 : Int))), (all11005 ++ ((s11001.drop (i11004).toNat).take (((wr .i64 (i11004 + (1 : Int)))).toNat - (i11004).toNat))), j11015, j11016, (decide (((s11001.getD (i11004).toNat 0).toNat : Int) = (48 : Int))))) else none) else none) else none) else (if (0 : Int) ≤ i11004 ∧ i11004 ≤ (wr .i64 (i11004 + (1 : Int))) ∧ (wr .i64 (i11004 + (1 : Int))) ≤ ((s11001).length : Int) then (if all11005.length + ((s11001.drop (i11004).toNat).take (((wr .i64 (i11004 + (1 : Int)))).toNat - (i11004).toNat)).length ≤ 9223372036854775807 then (rec ((wr .i64 (i11004 + (1 : Int))), (all11005 ++ ((s11001.drop (i11004).toNat).take (((wr .i64 (i11004 + (1 : Int)))).toNat - (i11004).toNat))), j11015, j11016, false)) else none) else none))
def z104.j11018a {R : Type} (rec : (Int × (List UInt8) × Int × Int × Bool) → Option R) (done : ((Int × (List UInt8) × Int × Int × Bool) ⊕ (Int)) → Option R) (zero11008 : Bool) (i11004 : Int) (s11001 : List UInt8) (all11005 : List UInt8) (j11017 : Int) (j11018 : Int) : Option R :=
  (bif zero11008 then (if (0 : Int) ≤ i11004 ∧ i11004 < (s11001.length : Int) then (if (0 : Int) ≤ i11004 ∧ i11004 ≤ (wr .i64 (i11004 + (1 : Int))) ∧ (wr .i64 (i11004 + (1 : Int))) ≤ ((s11001).length : Int) then (if all11005.length + ((s11001.drop (i11004).toNat).take (((wr .i64 (i11004 + (1 : Int)))).toNat - (i11004).toNat)).length ≤ 9223372036854775807 then (rec ((wr .i64 (i11004 + (1 : Int))), (all11005 ++ ((s11001.drop (i11004).toNat).take (((wr .i64 (i11004 + (1 : Int)))).toNat - (i11004).toNat))), j11017, j11018, (decide (((s11001.getD (i11004).toNat 0).toNat : Int) = (48 : Int))))) else none) else none) else none) else (if (0 : Int) ≤ i11004 ∧ i11004 ≤ (wr .i64 (i11004 + (1 : Int))) ∧ (wr .i64 (i11004 + (1 : Int))) ≤ ((s11001).length : Int) then (if all11005.length + ((s11001.drop (i11004).toNat).take (((wr .i64 (i11004 + (1 : Int)))).toNat - (i11004).toNat)).length ≤ 9223372036854775807 then (rec ((wr .i64 (i11004 + (1 : Int))), (all11005 ++ ((s11001.drop (i11004).toNat).take (((wr .i64 (i11004 + (1 : Int)))).toNat - (i11004).toNat))), j11017, j11018, false)) else none) else none))
def z104.l0b10P (s11001 : List UInt8) {R : Type} (rec : (Int × (List UInt8) × Int × Int × Bool) → Option R) (done : ((Int × (List UInt8) × Int × Int × Bool) ⊕ (Int)) → Option R) : (Int × (List UInt8) × Int × Int × Bool) → Option R := fun x => match x with
  | (i11004, all11005, ahead11006, behind11007, zero11008) => (bif (decide (i11004 < (s11001.length : Int))) then (if (0 : Int) ≤ i11004 ∧ i11004 < (s11001.length : Int) then (bif (decide (((s11001.getD (i11004).toNat 0).toNat : Int) = (46 : Int))) then (bif (decide (behind11007 < (0 : Int))) then (rec ((wr .i64 (i11004 + (1 : Int))), all11005, ahead11006, (0 : Int), zero11008)) else (if (0 : Int) ≤ i11004 ∧ i11004 < (s11001.length : Int) then (bif (decide (((s11001.getD (i11004).toNat 0).toNat : Int) < (48 : Int))) then (done (.inr (5 : Int))) else (if (0 : Int) ≤ i11004 ∧ i11004 < (s11001.length : Int) then (bif (decide (((s11001.getD (i11004).toNat 0).toNat : Int) > (57 : Int))) then (done (.inr (5 : Int))) else (bif (decide (behind11007 < (0 : Int))) then (z104.j11016a rec done zero11008 i11004 s11001 all11005 (wr .i64 (ahead11006 + (1 : Int))) behind11007) else (z104.j11016a rec done zero11008 i11004 s11001 all11005 ahead11006 (wr .i64 (behind11007 + (1 : Int)))))) else none)) else none)) else (if (0 : Int) ≤ i11004 ∧ i11004 < (s11001.length : Int) then (bif (decide (((s11001.getD (i11004).toNat 0).toNat : Int) < (48 : Int))) then (done (.inr (5 : Int))) else (if (0 : Int) ≤ i11004 ∧ i11004 < (s11001.length : Int) then (bif (decide (((s11001.getD (i11004).toNat 0).toNat : Int) > (57 : Int))) then (done (.inr (5 : Int))) else (bif (decide (behind11007 < (0 : Int))) then (z104.j11018a rec done zero11008 i11004 s11001 all11005 (wr .i64 (ahead11006 + (1 : Int))) behind11007) else (z104.j11018a rec done zero11008 i11004 s11001 all11005 ahead11006 (wr .i64 (behind11007 + (1 : Int)))))) else none)) else none)) else none) else (done (.inl (i11004, all11005, ahead11006, behind11007, zero11008))))
def z104.l0b10 (s11001 : List UInt8) (x : (Int × (List UInt8) × Int × Int × Bool)) : Option (((Int × (List UInt8) × Int × Int × Bool) ⊕ (Int))) := lfp (fun rec x => z104.l0b10P s11001 rec some x) x
def z104.j7 (p5 : Int × (List UInt8) × Int × Int × Bool) (j2 : Bool) : Option ((List Int) × Bool × Int × Int) :=
  (bif (decide (p5.2.2.2.1 > (64 : Int))) then (some ([], false, (0 : Int), (10 : Int))) else ((z85.F p5.2.1).bind fun r8 => ((z8.F r8 j2).bind fun r9 => (some (r9.1, r9.2, (if (0 : Int) > p5.2.2.2.1 then (0 : Int) else p5.2.2.2.1), (0 : Int))))))
def z104.j3 (a0 : List UInt8) (j3 : Int) (j2 : Bool) : Option ((List Int) × Bool × Int × Int) :=
  ((z104.l0b10 a0 (j3, ([] : List UInt8), (0 : Int), (-1 : Int), true)).bind fun o4 => match o4 with | .inl p5 => (bif (decide (p5.2.2.1 = (0 : Int))) then (some ([], false, (0 : Int), (5 : Int))) else (bif (decide (p5.2.2.2.1 = (0 : Int))) then (some ([], false, (0 : Int), (5 : Int))) else (bif (decide (p5.2.2.1 > (1 : Int))) then (if (0 : Int) ≤ (0 : Int) ∧ (0 : Int) < (p5.2.1.length : Int) then (bif (decide (((p5.2.1.getD 0 0).toNat : Int) = (48 : Int))) then (some ([], false, (0 : Int), (5 : Int))) else (bif j2 then (bif p5.2.2.2.2 then (some ([], false, (0 : Int), (5 : Int))) else (z104.j7 p5 j2)) else (z104.j7 p5 j2))) else none) else (bif j2 then (bif p5.2.2.2.2 then (some ([], false, (0 : Int), (5 : Int))) else (z104.j7 p5 j2)) else (z104.j7 p5 j2))))) | .inr q6 => (some ([], false, (0 : Int), q6)))
def z104.F (a0 : List UInt8) : Option ((List Int) × Bool × Int × Int) :=
  (bif (decide ((a0.length : Int) > (0 : Int))) then (if (0 : Int) ≤ (0 : Int) ∧ (0 : Int) < (a0.length : Int) then (bif (decide (((a0.getD 0 0).toNat : Int) = (45 : Int))) then (z104.j3 a0 (1 : Int) true) else (z104.j3 a0 (0 : Int) false)) else none) else (z104.j3 a0 (0 : Int) false))
def z104.enc (r : (List Int) × Bool × Int × Int) : V := (.tup [(.agg [(.ints false .i64 r.1), (.bool r.2.1), (.int .i64 r.2.2.1)]), (.int .i64 r.2.2.2)])
def z104.pack : List V → Option Pack
  | [(.str a0)] => some ⟨(List Int) × Bool × Int × Int, z104.F a0, z104.enc⟩
  | _ => none
def z105.F (a0 : List Int) (a1 : Bool) (a2 : Int) : Option ((List Int) × Bool × (List Int)) :=
  ((z89.F a2).bind fun r1 => ((z101.F a0 a1 r1).bind fun r2 => (some (r2.1, r2.2.1, r2.2.2))))
def z105.enc (r : (List Int) × Bool × (List Int)) : V := (.agg [(.ints false .i64 r.1), (.bool r.2.1), (.ints false .i64 r.2.2)])
def z105.pack : List V → Option Pack
  | [(.agg [(.ints _ .i64 a0), (.bool a1), (.int .i64 a2)])] => some ⟨(List Int) × Bool × (List Int), z105.F a0 a1 a2, z105.enc⟩
  | _ => none
def z106.F (a0 : List Int) (a1 : Bool) (a2 : List Int) (a3 : List Int) (a4 : Bool) (a5 : List Int) : Option ((List Int) × Bool) :=
  ((z8.F a5 false).bind fun r1 => ((z14.F a0 a1 r1.1 r1.2).bind fun r2 => (some (r2.1, r2.2))))
def z106.enc (r : (List Int) × Bool) : V := (.agg [(.ints false .i64 r.1), (.bool r.2)])
def z106.pack : List V → Option Pack
  | [(.agg [(.ints _ .i64 a0), (.bool a1), (.ints _ .i64 a2)]), (.agg [(.ints _ .i64 a3), (.bool a4), (.ints _ .i64 a5)])] => some ⟨(List Int) × Bool, z106.F a0 a1 a2 a3 a4 a5, z106.enc⟩
  | _ => none
def z107.F (a0 : List Int) (a1 : Bool) (a2 : List Int) (a3 : List Int) (a4 : Bool) (a5 : List Int) : Option (Int) :=
  ((z106.F a0 a1 a2 a3 a4 a5).bind fun r1 => ((z106.F a3 a4 a5 a0 a1 a2).bind fun r2 => ((z97.F r1.1 r1.2 r2.1 r2.2).bind fun r3 => (some r3))))
def z107.enc (r : Int) : V := (.int .i64 r)
def z107.pack : List V → Option Pack
  | [(.agg [(.ints _ .i64 a0), (.bool a1), (.ints _ .i64 a2)]), (.agg [(.ints _ .i64 a3), (.bool a4), (.ints _ .i64 a5)])] => some ⟨Int, z107.F a0 a1 a2 a3 a4 a5, z107.enc⟩
  | _ => none
def z108.F (a0 : List Int) (a1 : Bool) (a2 : List Int) (a3 : List Int) (a4 : Bool) (a5 : List Int) : Option ((List Int) × Bool × (List Int)) :=
  ((z106.F a0 a1 a2 a3 a4 a5).bind fun r1 => ((z8.F a2 false).bind fun r2 => ((z14.F a3 a4 r2.1 r2.2).bind fun r3 => ((z102.F r1.1 r1.2 r3.1 r3.2).bind fun r4 => (some (r4.1, r4.2.1, r4.2.2))))))
def z108.enc (r : (List Int) × Bool × (List Int)) : V := (.agg [(.ints false .i64 r.1), (.bool r.2.1), (.ints false .i64 r.2.2)])
def z108.pack : List V → Option Pack
  | [(.agg [(.ints _ .i64 a0), (.bool a1), (.ints _ .i64 a2)]), (.agg [(.ints _ .i64 a3), (.bool a4), (.ints _ .i64 a5)])] => some ⟨(List Int) × Bool × (List Int), z108.F a0 a1 a2 a3 a4 a5, z108.enc⟩
  | _ => none
def z109.j6 (r3 : (List Int) × Bool × (List Int)) : Option ((List Int) × Bool × (List Int) × Int) :=
  ((z103.F (100 : Int) (1 : Int)).bind fun r7 => ((z108.F r3.1 r3.2.1 r3.2.2 r7.1 r7.2.1 r7.2.2).bind fun r8 => (some (r8.1, r8.2.1, r8.2.2, (0 : Int)))))
def z109.F (a0 : List UInt8) : Option ((List Int) × Bool × (List Int) × Int) :=
  ((z103.F (0 : Int) (1 : Int)).bind fun r1 => (bif (decide ((a0.length : Int) > (4096 : Int))) then (some (r1.1, r1.2.1, r1.2.2, (7 : Int))) else ((z104.F a0).bind fun r2 => (bif (!decide (r2.2.2.2 = (0 : Int))) then (some (r1.1, r1.2.1, r1.2.2, r2.2.2.2)) else ((z105.F r2.1 r2.2.1 r2.2.2.1).bind fun r3 => ((z103.F (1000 : Int) (1 : Int)).bind fun r4 => ((z107.F r3.1 r3.2.1 r3.2.2 r4.1 r4.2.1 r4.2.2).bind fun r5 => (bif r2.2.1 then (some (r1.1, r1.2.1, r1.2.2, (18 : Int))) else (bif (decide (r5 > (0 : Int))) then (some (r1.1, r1.2.1, r1.2.2, (18 : Int))) else (bif (decide (r2.2.2.1 > (12 : Int))) then (some (r1.1, r1.2.1, r1.2.2, (18 : Int))) else (z109.j6 r3)))))))))))
def z109.enc (r : (List Int) × Bool × (List Int) × Int) : V := (.tup [(.agg [(.ints false .i64 r.1), (.bool r.2.1), (.ints false .i64 r.2.2.1)]), (.int .i64 r.2.2.2)])
def z109.pack : List V → Option Pack
  | [(.str a0)] => some ⟨(List Int) × Bool × (List Int) × Int, z109.F a0, z109.enc⟩
  | _ => none
def z110.l0b4P (length5002 : Int) {R : Type} (rec : (Int × Int × (List Int)) → Option R) (done : (Int × Int × (List Int)) → Option R) : (Int × Int × (List Int)) → Option R := fun x => match x with
  | (n5001, i5004, s5005) => (bif (decide (n5001 > (0 : Int))) then (if (0 : Int) ≤ (wr .i64 (i5004 - (1 : Int))) ∧ (wr .i64 (i5004 - (1 : Int))) < (20 : Int) then (if ((wr .i64 (i5004 - (1 : Int)))).toNat < s5005.length then (rec ((wr .u64 (Int.tdiv n5001 (10 : Int))), (wr .i64 (i5004 - (1 : Int))), (s5005.set ((wr .i64 (i5004 - (1 : Int)))).toNat (wr .u8 (wr .u64 ((48 : Int) + (Int.tmod n5001 (10 : Int)))))))) else none) else none) else (bif (decide ((wr .i64 ((20 : Int) - i5004)) < length5002)) then (if (0 : Int) ≤ (wr .i64 (i5004 - (1 : Int))) ∧ (wr .i64 (i5004 - (1 : Int))) < (20 : Int) then (if ((wr .i64 (i5004 - (1 : Int)))).toNat < s5005.length then (rec ((wr .u64 (Int.tdiv n5001 (10 : Int))), (wr .i64 (i5004 - (1 : Int))), (s5005.set ((wr .i64 (i5004 - (1 : Int)))).toNat (wr .u8 (wr .u64 ((48 : Int) + (Int.tmod n5001 (10 : Int)))))))) else none) else none) else (done (n5001, i5004, s5005))))
def z110.l0b4 (length5002 : Int) (x : (Int × Int × (List Int))) : Option ((Int × Int × (List Int))) := lfp (fun rec x => z110.l0b4P length5002 rec some x) x
def z110.F (a0 : Int) (a1 : Int) : Option ((List UInt8)) :=
  ((z110.l0b4 a1 (a0, (20 : Int), (List.replicate 20 (0 : Int)))).bind fun o1 => (if (o1.2.2).length = 20 then (if (0 : Int) ≤ o1.2.1 ∧ o1.2.1 ≤ (20 : Int) then (some (((o1.2.2.drop (o1.2.1).toNat).take (20 - (o1.2.1).toNat)).map fun n => UInt8.ofNat n.toNat)) else none) else none))
def z110.enc (r : (List UInt8)) : V := (.str r)
def z110.pack : List V → Option Pack
  | [(.int .u64 a0), (.int .i64 a1)] => some ⟨(List UInt8), z110.F a0 a1, z110.enc⟩
  | _ => none
def z111.l2P (t2003 : List Int) (t2004 : Int) {R : Type} (rec : (Int × Int) → Option R) (done : (Int × Int) → Option R) : (Int × Int) → Option R := fun x => match x with
  | (low2002, t2005) => (bif (decide (t2005 < t2004)) then (if (0 : Int) ≤ t2005 ∧ t2005 < (t2003.length : Int) then (rec ((t2003.getD (t2005).toNat 0), (wr .i64 (t2005 + (1 : Int))))) else none) else (done (low2002, t2005)))
def z111.l2 (t2003 : List Int) (t2004 : Int) (x : (Int × Int)) : Option ((Int × Int)) := lfp (fun rec x => z111.l2P t2003 t2004 rec some x) x
def z111.j1010a {R : Type} (rec : ((List Int) × (List (List UInt8))) → Option R) (done : ((List Int) × (List (List UInt8))) → Option R) (o1008 : Int × Int) (j1010 : Int) (s1003 : List (List UInt8)) (r1006 : (List Int) × (List Int) × Int) : Option R :=
  ((z110.F o1008.1 j1010).bind fun r1011 => (if ((s1003).length + ([r1011]).length) * 16 ≤ 140737488355328 then (rec (r1006.1, (s1003 ++ [r1011]))) else none))
def z111.l0P  {R : Type} (rec : ((List Int) × (List (List UInt8))) → Option R) (done : ((List Int) × (List (List UInt8))) → Option R) : ((List Int) × (List (List UInt8))) → Option R := fun x => match x with
  | (s1002, s1003) => ((z15.F s1002).bind fun r1004 => (bif (!r1004) then ((z34.F [(1000000000000000000 : Int)]).bind fun r1005 => ((z61.F s1002 r1005).bind fun r1006 => ((z56.F r1006.2.1).bind fun r1007 => ((z111.l2 r1007 (((r1007).length : Nat) : Int) ((0 : Int), (0 : Int))).bind fun o1008 => ((z15.F r1006.1).bind fun r1009 => (bif r1009 then (z111.j1010a rec done o1008 (1 : Int) s1003 r1006) else (z111.j1010a rec done o1008 (18 : Int) s1003 r1006))))))) else (done (s1002, s1003))))
def z111.l0  (x : ((List Int) × (List (List UInt8)))) : Option (((List Int) × (List (List UInt8)))) := lfp (fun rec x => z111.l0P  rec some x) x
def z111.l4P (s3003 : List (List UInt8)) {R : Type} (rec : (Int × (List Int)) → Option R) (done : (Int × (List Int)) → Option R) : (Int × (List Int)) → Option R := fun x => match x with
  | (i3002, s3004) => (bif (decide (i3002 ≥ (0 : Int))) then (if (0 : Int) ≤ i3002 ∧ i3002 < (s3003.length : Int) then (if (i3002).toNat < s3003.length then (if ((s3004).length + (((s3003.getD (i3002).toNat []).map fun c => (c.toNat : Int))).length) * 1 ≤ 140737488355328 then (rec ((wr .i64 (i3002 - (1 : Int))), (s3004 ++ ((s3003.getD (i3002).toNat []).map fun c => (c.toNat : Int))))) else none) else none) else none) else (done (i3002, s3004)))
def z111.l4 (s3003 : List (List UInt8)) (x : (Int × (List Int))) : Option ((Int × (List Int))) := lfp (fun rec x => z111.l4P s3003 rec some x) x
def z111.F (a0 : List Int) : Option ((List UInt8)) :=
  ((z15.F a0).bind fun r1 => (bif r1 then (some ([48] : List UInt8)) else ((z111.l0 (a0, [])).bind fun o2 => (bif (decide ((wr .i64 ((((o2.2).length : Nat) : Int) - (1 : Int))) ≥ (0 : Int))) then (if (0 : Int) ≤ (wr .i64 ((((o2.2).length : Nat) : Int) - (1 : Int))) ∧ (wr .i64 ((((o2.2).length : Nat) : Int) - (1 : Int))) < (o2.2.length : Int) then (if ((wr .i64 ((((o2.2).length : Nat) : Int) - (1 : Int)))).toNat < o2.2.length then (if (([] : List Int).length + (((o2.2.getD ((wr .i64 ((((o2.2).length : Nat) : Int) - (1 : Int)))).toNat []).map fun c => (c.toNat : Int))).length) * 1 ≤ 140737488355328 then ((z111.l4 o2.2 ((wr .i64 ((wr .i64 ((((o2.2).length : Nat) : Int) - (1 : Int))) - (1 : Int))), ([] ++ ((o2.2.getD ((wr .i64 ((((o2.2).length : Nat) : Int) - (1 : Int)))).toNat []).map fun c => (c.toNat : Int))))).bind fun o3 => (if 0 < (o3.2).length then (if (((o3.2).length : Nat) : Int) = (o3.2.length : Int) ∧ 0 < o3.2.length ∧ o3.2.all isByte = true then (some (o3.2.map fun n => UInt8.ofNat n.toNat)) else none) else none)) else none) else none) else none) else none))))
def z111.enc (r : (List UInt8)) : V := (.str r)
def z111.pack : List V → Option Pack
  | [(.agg [(.ints _ .u64 a0)])] => some ⟨(List UInt8), z111.F a0, z111.enc⟩
  | _ => none
def z112.F (a0 : List Int) (a1 : Bool) : Option ((List UInt8)) :=
  (bif a1 then ((z111.F a0).bind fun r1 => (if ([45] : List UInt8).length + r1.length ≤ 9223372036854775807 then (some (([45] : List UInt8) ++ r1)) else none)) else ((z111.F a0).bind fun r2 => (some r2)))
def z112.enc (r : (List UInt8)) : V := (.str r)
def z112.pack : List V → Option Pack
  | [(.agg [(.ints _ .u64 a0), (.bool a1)])] => some ⟨(List UInt8), z112.F a0 a1, z112.enc⟩
  | _ => none
def z113.F (a0 : List Int) (a1 : Bool) (a2 : List Int) : Option ((List UInt8)) :=
  ((z15.F a2).bind fun r1 => (bif r1 then ((z112.F a0 a1).bind fun r2 => (some r2)) else ((z112.F a0 a1).bind fun r3 => (if r3.length + ([47] : List UInt8).length ≤ 9223372036854775807 then ((z66.F a0 a1 a2).bind fun r4 => ((z111.F r4).bind fun r5 => (if (r3 ++ ([47] : List UInt8)).length + r5.length ≤ 9223372036854775807 then (some ((r3 ++ ([47] : List UInt8)) ++ r5)) else none))) else none))))
def z113.enc (r : (List UInt8)) : V := (.str r)
def z113.pack : List V → Option Pack
  | [(.agg [(.ints _ .u64 a0), (.bool a1), (.ints _ .u64 a2)])] => some ⟨(List UInt8), z113.F a0 a1 a2, z113.enc⟩
  | _ => none
def z114.l0P (s1001 : List (List UInt8)) (v1002 : List UInt8) (t1004 : Int) {R : Type} (rec : Int → Option R) (done : ((Int) ⊕ (Int)) → Option R) : Int → Option R := fun t1005 => (bif (decide (t1005 < t1004)) then (if (0 : Int) ≤ t1005 ∧ t1005 < (s1001.length : Int) then (bif (decide (v1002 = (s1001.getD (t1005).toNat []))) then (done (.inr t1005)) else (rec (wr .i64 (t1005 + (1 : Int))))) else none) else (done (.inl t1005)))
def z114.l0 (s1001 : List (List UInt8)) (v1002 : List UInt8) (t1004 : Int) (x : Int) : Option (((Int) ⊕ (Int))) := lfp (fun rec x => z114.l0P s1001 v1002 t1004 rec some x) x
def z114.F (a0 : List (List UInt8)) (a1 : List UInt8) : Option (Int) :=
  ((z114.l0 a0 a1 (((a0).length : Nat) : Int) (0 : Int)).bind fun o1 => match o1 with | .inl p2 => (some (-1 : Int)) | .inr q3 => (some q3))
def z114.enc (r : Int) : V := (.int .i64 r)
def z114.pack : List V → Option Pack
  | [(.strs _ a0), (.str a1)] => some ⟨Int, z114.F a0 a1, z114.enc⟩
  | _ => none
def z115.F (a0 : List UInt8) : Option (Int × Bool) :=
  (z70.F.bind fun r1 => ((z114.F r1 a0).bind fun r2 => (some ((if (0 : Int) > r2 then (0 : Int) else r2), (decide (r2 ≥ (0 : Int)))))))
def z115.enc (r : Int × Bool) : V := (.tup [(.int .i64 r.1), (.bool r.2)])
def z115.pack : List V → Option Pack
  | [(.str a0)] => some ⟨Int × Bool, z115.F a0, z115.enc⟩
  | _ => none
def z116.F  : Option (Bool) :=
  ((z69.F ([52, 46, 50, 53] : List UInt8)).bind fun r1 => ((z69.F ([49, 48, 48, 48, 46, 49] : List UInt8)).bind fun r2 => ((z42.F ([45, 49] : List UInt8)).bind fun r3 => ((z115.F ([108, 105, 110, 101, 97, 114] : List UInt8)).bind fun r4 => (bif (decide (r1.2.2.2 = (0 : Int))) then ((z113.F r1.1 r1.2.1 r1.2.2.1).bind fun r5 => (bif (decide (r5 = ([49, 55, 47, 52, 48, 48] : List UInt8))) then (bif (decide (r2.2.2.2 = (18 : Int))) then (bif (decide (r3.2.2 = (19 : Int))) then (bif (decide (r4.1 = (1 : Int))) then (bif r4.2 then ((z84.F ([49, 48, 48] : List UInt8) ([53] : List UInt8) (0 : Int) (0 : Int) (0 : Int) (2024 : Int) (1 : Int) (1 : Int) (1 : Int) (12 : Int)).bind fun r6 => (bif (decide (r6 = (0 : Int))) then ((z84.F ([] : List UInt8) ([] : List UInt8) (0 : Int) (0 : Int) (0 : Int) (0 : Int) (0 : Int) (0 : Int) (0 : Int) (0 : Int)).bind fun r7 => (some (decide (r7 = (5 : Int))))) else (some false))) else (some false)) else (some false)) else (some false)) else (some false)) else (some false))) else (some false))))))
def z116.enc (r : Bool) : V := (.bool r)
def z116.pack : List V → Option Pack
  | [] => some ⟨Bool, z116.F , z116.enc⟩
  | _ => none
def z117.j2 (a2 : List Int) (r1 : (List UInt8)) : Option ((List UInt8)) :=
  ((z6.F a2).bind fun r3 => (if r1.length + ([47] : List UInt8).length ≤ 9223372036854775807 then (if (r1 ++ ([47] : List UInt8)).length + r3.length ≤ 9223372036854775807 then (some ((r1 ++ ([47] : List UInt8)) ++ r3)) else none) else none))
def z117.F (a0 : List Int) (a1 : Bool) (a2 : List Int) : Option ((List UInt8)) :=
  ((z7.F a0 a1).bind fun r1 => (bif (decide ((((a2).length : Nat) : Int) = (1 : Int))) then (if (0 : Int) ≤ (0 : Int) ∧ (0 : Int) < (a2.length : Int) then (bif (decide ((a2.getD 0 0) = (1 : Int))) then (some r1) else (z117.j2 a2 r1)) else none) else (z117.j2 a2 r1)))
def z117.enc (r : (List UInt8)) : V := (.str r)
def z117.pack : List V → Option Pack
  | [(.agg [(.ints _ .i64 a0), (.bool a1), (.ints _ .i64 a2)])] => some ⟨(List UInt8), z117.F a0 a1 a2, z117.enc⟩
  | _ => none
def z118.F (a0 : List UInt8) : Option (Bool) :=
  (if (0 : Int) ≤ (if (200 : Int) < (a0.length : Int) then (200 : Int) else (a0.length : Int)) ∧ (if (200 : Int) < (a0.length : Int) then (200 : Int) else (a0.length : Int)) ≤ ((a0).length : Int) then ((z42.F (a0.take ((if (200 : Int) < (a0.length : Int) then (200 : Int) else (a0.length : Int))).toNat)).bind fun r1 => ((z98.F (a0.take ((if (200 : Int) < (a0.length : Int) then (200 : Int) else (a0.length : Int))).toNat)).bind fun r2 => ((z69.F (a0.take ((if (200 : Int) < (a0.length : Int) then (200 : Int) else (a0.length : Int))).toNat)).bind fun r3 => ((z109.F (a0.take ((if (200 : Int) < (a0.length : Int) then (200 : Int) else (a0.length : Int))).toNat)).bind fun r4 => (z116.F.bind fun r5 => (bif r5 then (bif (decide (r1.2.2 = r2.2.2)) then ((z112.F r1.1 r1.2.1).bind fun r6 => ((z7.F r2.1 r2.2.1).bind fun r7 => (bif (decide (r6 = r7)) then (bif (decide (r3.2.2.2 = r4.2.2.2)) then ((z113.F r3.1 r3.2.1 r3.2.2.1).bind fun r8 => ((z117.F r4.1 r4.2.1 r4.2.2.1).bind fun r9 => (some (decide (r8 = r9))))) else (some false)) else (some false)))) else (some false)) else (some false))))))) else none)
def z118.enc (r : Bool) : V := (.bool r)
def z118.pack : List V → Option Pack
  | [(.str a0)] => some ⟨Bool, z118.F a0, z118.enc⟩
  | _ => none
end
end Go.Proofs.YtgjncgiekniniaaGreatDoor.A
end
section
set_option linter.unusedVariables false
set_option linter.unusedSimpArgs false
set_option maxRecDepth 100000
namespace Go.Proofs.YtgjncgiekniniaaGreatDoor.A
open Go
noncomputable section
def z18.C : Ctx where
  T := tab
def z18.dec : V → Option (Int)
  | (.int .u64 x0) => some x0
  | _ => none
theorem z18.link (a0 : List Int) (a1 : Int) : z18.C.evTop 184 (ifun Tryz.f184) [(.agg [(.ints false .u64 a0)]), (.int .i64 a1)] z18.dec = z18.F a0 a1 := by kernel_rfl
def z20.l0sh : Env × Store := (.undef :: .undef :: (.ptr 0 0) :: (.ptr 1 0) :: (.ptr 2 0) :: (.sref 3 0) :: (.int .u64 (0 : Int)) :: un 11 ((.int .i64 (0 : Int)) :: (.int .i64 (0 : Int)) :: un 19 []), [(.cells 37 [(.ints false .u64 [])]), (.cells 37 [(.ints false .u64 [])]), (.cells 37 [(.ints false .u64 [])]), (.arr 0 false 79 (.ints false .u64 []))])
def z20.l0out0 (carry1001 : Int) (t1002 : Int) (t1003 : Int) (s1004 : List Int) (s1005 : List Int) (s1006 : List Int) (s1007 : List Int) (o : Int × Int × (List Int)) : X × Env × Store := ((.exit 0), fillSt z20.l0sh [.i o.1, .i t1002, .i o.2.1, .li s1004, .li s1005, .li s1006, .li o.2.2])
def z20.l0pack : List Leaf → Option LPack
  | [.i carry1001, .i t1002, .i t1003, .li s1004, .li s1005, .li s1006, .li s1007] => some (.one _ (z20.l0 t1002 s1004 s1005 (carry1001, t1003, s1007)) (z20.l0out0 carry1001 t1002 t1003 s1004 s1005 s1006 s1007))
  | _ => none
def z20.C : Ctx where
  T := tab
  draws := fun f i => match f, i with | 99, 6 => ([(24, [(5, 0)], 0), (25, [(7, 0)], 0), (26, [(2, 0)], 0), (27, [(7, 0)], 0), (28, [(25, 3), (26, 4)], 12), (29, [(3, 0)], 0), (30, [(7, 0)], 0), (31, [(28, 6), (29, 7)], 124), (32, [(6, 16)], 0), (33, [(27, 5), (30, 8), (31, 9)], 508), (23, [(32, 10)], 1020), (34, [(22, 11)], 2044), (35, [(22, 11)], 2044), (36, [(23, 1), (24, 2)], 4095), (0, [(35, 14), (33, 12)], 12287), (7, [(34, 13)], 32767)], 68715282496) | _, _ => ([], 0)
  call := fun g args => match g with | 184 => z18.pack args | 183 => z0.pack args | 185 => z19.pack args | _ => none
  keep := fun f i => match f, i with | 99, 0 => ([2, 3, 4, 5, 6, 18, 19], [0, 1, 2, 3], []) | _, _ => ([], [], [])
  keepE := fun f i => match f, i with | 99, 0 => ([2, 3, 4, 5, 6, 18, 19], [0, 1, 2, 3], []) | _, _ => ([], [], [])
  keepR := fun f i => match f, i with | 99, 0 => ([4], [0, 1, 2, 3], [4]) | _, _ => ([], [], [])
  L := fun f i b st => match f, i, b with | 99, 0, 0 => (matchSt z20.l0sh st).bind z20.l0pack | _, _, _ => none
def z20.dec : V → Option ((List Int))
  | (.agg [(.ints _ .u64 x0)]) => some x0
  | _ => none
theorem z20.l0_link (R : Type) (k : Env × Store → Option R) (d : X × Env × Store → Option R) (carry1001 : Int) (t1002 : Int) (t1003 : Int) (s1004 : List Int) (s1005 : List Int) (s1006 : List Int) (s1007 : List Int) :
    z20.C.loopP 99 0 (loopAt 0 (ifun Tryz.f99).body) 4 k d (fillSt z20.l0sh [.i carry1001, .i t1002, .i t1003, .li s1004, .li s1005, .li s1006, .li s1007]) =
    z20.l0P t1002 s1004 s1005 (fun x' => k (fillSt z20.l0sh [.i x'.1, .i t1002, .i x'.2.1, .li s1004, .li s1005, .li s1006, .li x'.2.2])) (fun o => d (z20.l0out0 carry1001 t1002 t1003 s1004 s1005 s1006 s1007 o)) (carry1001, t1003, s1007) := by kernel_rfl
theorem z20.link (a0 : List Int) (a1 : List Int) : z20.C.evTop 99 (ifun Tryz.f99) [(.agg [(.ints false .u64 a0)]), (.agg [(.ints false .u64 a1)])] z20.dec = z20.F a0 a1 := by kernel_rfl
def z21.C : Ctx where
  T := tab
def z21.dec : V → Option (Bool)
  | (.bool x0) => some x0
  | _ => none
theorem z21.link (a0 : Int) : z21.C.evTop 212 (ifun Tryz.f212) [(.int .i64 a0)] z21.dec = z21.F a0 := by kernel_rfl
def z22.C : Ctx where
  T := tab
  call := fun g args => match g with | 212 => z21.pack args | _ => none
def z22.dec : V → Option (Int)
  | (.int .i64 x0) => some x0
  | _ => none
theorem z22.link (a0 : Int) (a1 : Int) : z22.C.evTop 146 (ifun Tryz.f146) [(.int .i64 a0), (.int .i64 a1)] z22.dec = z22.F a0 a1 := by kernel_rfl
def z25.l0sh : Env × Store := (.undef :: .undef :: (.ptr 0 0) :: (.ptr 1 0) :: (.int .i64 (0 : Int)) :: .undef :: (.int .i64 (0 : Int)) :: un 33 [], [(.cells 37 [(.ints false .u64 [])]), (.cells 37 [(.ints false .u64 [])])])
def z25.l0so1 : Env × Store := (un 4 ((.int .i64 (0 : Int)) :: un 35 []), [(.cells 37 [(.ints false .u64 [])]), (.cells 37 [(.ints false .u64 [])])])
def z25.l0out0 (t1001 : Int) (i1002 : Int) (s1003 : List Int) (s1004 : List Int) (o : Int) : X × Env × Store := ((.exit 0), fillSt z25.l0sh [.i t1001, .i o, .li s1003, .li s1004])
def z25.l0out1 (t1001 : Int) (i1002 : Int) (s1003 : List Int) (s1004 : List Int) (o : Int) : X × Env × Store := (.ret, fillSt z25.l0so1 [.i o, .li s1003, .li s1004])
def z25.l0pack : List Leaf → Option LPack
  | [.i t1001, .i i1002, .li s1003, .li s1004] => some (.two _ _ (z25.l0 s1003 s1004 i1002) (z25.l0out0 t1001 i1002 s1003 s1004) (z25.l0out1 t1001 i1002 s1003 s1004))
  | _ => none
def z25.C : Ctx where
  T := tab
  draws := fun f i => match f, i with | 186, 7 => ([(27, [(2, 0)], 0), (28, [(26, 1)], 1), (29, [(6, 0)], 0), (30, [(27, 2), (28, 3)], 7), (31, [(29, 4)], 15), (32, [(3, 0)], 0), (33, [(31, 6)], 32), (34, [(6, 0)], 0), (35, [(32, 7), (33, 8)], 224), (36, [(34, 9)], 480), (37, [(30, 5), (35, 10)], 1023), (8, [(36, 11)], 2047)], 137371844736) | _, _ => ([], 0)
  call := fun g args => match g with | 146 => z22.pack args | 245 => z24.pack args | _ => none
  keep := fun f i => match f, i with | 186, 0 => ([2, 3, 4, 6], [0, 1], []) | _, _ => ([], [], [])
  keepE := fun f i => match f, i with | 186, 0 => ([2, 3, 4, 6], [0, 1], []) | _, _ => ([], [], [])
  keepR := fun f i => match f, i with | 186, 0 => ([4], [0, 1], [4]) | _, _ => ([], [], [])
  L := fun f i b st => match f, i, b with | 186, 0, 0 => (matchSt z25.l0sh st).bind z25.l0pack | _, _, _ => none
def z25.dec : V → Option (Int)
  | (.int .i64 x0) => some x0
  | _ => none
theorem z25.l0_link (R : Type) (k : Env × Store → Option R) (d : X × Env × Store → Option R) (t1001 : Int) (i1002 : Int) (s1003 : List Int) (s1004 : List Int) :
    z25.C.loopP 186 0 (loopAt 0 (ifun Tryz.f186).body) 2 k d (fillSt z25.l0sh [.i t1001, .i i1002, .li s1003, .li s1004]) =
    z25.l0P s1003 s1004 (fun x' => k (fillSt z25.l0sh [.i t1001, .i x', .li s1003, .li s1004])) (fun o => match o with | .inl o => d (z25.l0out0 t1001 i1002 s1003 s1004 o) | .inr o => d (z25.l0out1 t1001 i1002 s1003 s1004 o)) i1002 := by kernel_rfl
theorem z25.link (a0 : List Int) (a1 : List Int) : z25.C.evTop 186 (ifun Tryz.f186) [(.agg [(.ints false .u64 a0)]), (.agg [(.ints false .u64 a1)])] z25.dec = z25.F a0 a1 := by kernel_rfl
def z28.C : Ctx where
  T := tab
  call := fun g args => match g with | 91 => z17.pack args | _ => none
def z28.dec : V → Option ((List Int) × Bool)
  | (.agg [(.ints _ .u64 x0), (.bool x1)]) => some (x0, x1)
  | _ => none
theorem z28.link (a0 : List Int) (a1 : Bool) : z28.C.evTop 110 (ifun Tryz.f110) [(.agg [(.ints false .u64 a0), (.bool a1)])] z28.dec = z28.F a0 a1 := by kernel_rfl
def z31.C : Ctx where
  T := tab
def z31.dec : V → Option (Bool)
  | (.bool x0) => some x0
  | _ => none
theorem z31.link (a0 : List UInt8) (a1 : List UInt8) : z31.C.evTop 260 (ifun Tryz.f260) [(.str a0), (.str a1)] z31.dec = z31.F a0 a1 := by kernel_rfl
def z42.C : Ctx where
  T := tab
  draws := fun f i => match f, i with | 36, 4 => ([(18, [(4, 0)], 0), (19, [(17, 1)], 1), (20, [(18, 2)], 3), (21, [(19, 3)], 7), (22, [(4, 0), (20, 4)], 15), (23, [(20, 4)], 15), (24, [(21, 5), (22, 6), (20, 4)], 63), (25, [(23, 7), (20, 4)], 127), (26, [(20, 4), (24, 8)], 255), (17, [(25, 9)], 511)], 67043328) | _, _ => ([], 0)
  call := fun g args => match g with | 76 => z38.pack args | 28 => z16.pack args | 114 => z41.pack args | 74 => z30.pack args | _ => none
def z42.dec : V → Option ((List Int) × Bool × Int)
  | (.tup [(.agg [(.ints _ .u64 x0), (.bool x1)]), (.int .i64 x2)]) => some (x0, x1, x2)
  | _ => none
theorem z42.link (a0 : List UInt8) : z42.C.evTop 36 (ifun Tryz.f36) [(.str a0)] z42.dec = z42.F a0 := by kernel_rfl
def z49.C : Ctx where
  T := tab
def z49.dec : V → Option ((List Int) × Bool)
  | (.agg [(.ints _ .u64 x0), (.bool x1)]) => some (x0, x1)
  | _ => none
theorem z49.link (a0 : List Int) (a1 : Bool) (a2 : Int) : z49.C.evTop 120 (ifun Tryz.f120) [(.agg [(.ints false .u64 a0), (.bool a1), (.int .i64 a2)])] z49.dec = z49.F a0 a1 a2 := by kernel_rfl
def z50.C : Ctx where
  T := tab
  draws := fun f i => match f, i with | 156, 1 => ([(6, [(2, 0)], 0), (7, [(5, 1)], 1), (8, [(3, 0)], 0), (9, [(7, 3)], 4), (10, [(6, 2), (8, 4)], 15), (11, [(2, 0)], 0), (12, [(10, 6)], 32), (13, [(3, 0)], 0), (14, [(12, 8)], 128), (15, [(11, 7), (13, 9)], 480), (16, [(9, 5), (14, 10)], 1023), (0, [(4, 0), (15, 11)], 2047)], 65504) | _, _ => ([], 0)
  call := fun g args => match g with | 164 => z36.pack args | 91 => z17.pack args | _ => none
def z50.dec : V → Option ((List Int) × Bool)
  | (.agg [(.ints _ .u64 x0), (.bool x1)]) => some (x0, x1)
  | _ => none
theorem z50.link (a0 : List Int) (a1 : Bool) (a2 : List Int) (a3 : Bool) : z50.C.evTop 156 (ifun Tryz.f156) [(.agg [(.ints false .u64 a0), (.bool a1)]), (.agg [(.ints false .u64 a2), (.bool a3)])] z50.dec = z50.F a0 a1 a2 a3 := by kernel_rfl
def z52.C : Ctx where
  T := tab
  draws := fun f i => match f, i with | 203, 1 => ([(6, [(2, 0)], 0), (7, [(5, 1)], 1), (8, [(1, 0)], 0), (9, [(2, 0)], 0), (10, [(8, 4)], 8), (11, [(7, 3), (9, 5)], 28), (12, [(10, 6)], 60), (13, [(6, 2), (11, 7)], 127), (0, [(4, 0), (12, 8)], 255)], 8160) | _, _ => ([], 0)
  call := fun g args => match g with | 204 => z51.pack args | 156 => z50.pack args | _ => none
def z52.dec : V → Option ((List Int) × Bool)
  | (.agg [(.ints _ .u64 x0), (.bool x1)]) => some (x0, x1)
  | _ => none
theorem z52.link (a0 : List Int) (a1 : Bool) (a2 : Int) (a3 : Int) : z52.C.evTop 203 (ifun Tryz.f203) [(.agg [(.ints false .u64 a0), (.bool a1), (.int .i64 a2)]), (.int .i64 a3)] z52.dec = z52.F a0 a1 a2 a3 := by kernel_rfl
def z55.C : Ctx where
  T := tab
def z55.dec : V → Option ((List Int))
  | (.agg [(.ints _ .u64 x0)]) => some x0
  | _ => none
theorem z55.link (a0 : List Int) (a1 : Bool) : z55.C.evTop 92 (ifun Tryz.f92) [(.agg [(.ints false .u64 a0), (.bool a1)])] z55.dec = z55.F a0 a1 := by kernel_rfl
def z59.l0b8sh : Env × Store := (.undef :: .undef :: (.int .u64 (0 : Int)) :: un 3 ((.int .u64 (0 : Int)) :: (.int .u64 (0 : Int)) :: (.int .u64 (0 : Int)) :: (.int .u64 (0 : Int)) :: (.int .u64 (0 : Int)) :: (.int .u64 (0 : Int)) :: .undef :: (.int .u64 (0 : Int)) :: (.int .u64 (0 : Int)) :: (.int .u64 (0 : Int)) :: (.int .u64 (0 : Int)) :: un 118 []), [])
def z59.l0b8out0 (y9001 : Int) (quo9002 : Int) (rem9003 : Int) (s9004 : Int) (yn9005 : Int) (yn9006 : Int) (un9007 : Int) (un9008 : Int) (un9009 : Int) (q9010 : Int) (rhat9011 : Int) (o : Int × Int) : X × Env × Store := ((.exit 0), fillSt z59.l0b8sh [.i y9001, .i quo9002, .i rem9003, .i s9004, .i yn9005, .i yn9006, .i un9007, .i un9008, .i un9009, .i o.1, .i o.2])
def z59.l0b8pack : List Leaf → Option LPack
  | [.i y9001, .i quo9002, .i rem9003, .i s9004, .i yn9005, .i yn9006, .i un9007, .i un9008, .i un9009, .i q9010, .i rhat9011] => some (.one _ (z59.l0b8 yn9005 yn9006 un9008 (q9010, rhat9011)) (z59.l0b8out0 y9001 quo9002 rem9003 s9004 yn9005 yn9006 un9007 un9008 un9009 q9010 rhat9011))
  | _ => none
def z59.l2b8sh : Env × Store := (.undef :: .undef :: (.int .u64 (0 : Int)) :: un 3 ((.int .u64 (0 : Int)) :: (.int .u64 (0 : Int)) :: (.int .u64 (0 : Int)) :: (.int .u64 (0 : Int)) :: (.int .u64 (0 : Int)) :: un 3 ((.int .u64 (0 : Int)) :: (.int .u64 (0 : Int)) :: (.int .u64 (0 : Int)) :: (.int .u64 (0 : Int)) :: (.int .u64 (0 : Int)) :: un 116 [])), [])
def z59.l2b8out0 (y18001 : Int) (quo18002 : Int) (rem18003 : Int) (s18004 : Int) (yn18005 : Int) (yn18006 : Int) (un18007 : Int) (q18008 : Int) (rhat18009 : Int) (un18010 : Int) (q18011 : Int) (o : Int × Int) : X × Env × Store := ((.exit 2), fillSt z59.l2b8sh [.i y18001, .i quo18002, .i rem18003, .i s18004, .i yn18005, .i yn18006, .i un18007, .i q18008, .i o.1, .i un18010, .i o.2])
def z59.l2b8pack : List Leaf → Option LPack
  | [.i y18001, .i quo18002, .i rem18003, .i s18004, .i yn18005, .i yn18006, .i un18007, .i q18008, .i rhat18009, .i un18010, .i q18011] => some (.one _ (z59.l2b8 yn18005 yn18006 un18007 (rhat18009, q18011)) (z59.l2b8out0 y18001 quo18002 rem18003 s18004 yn18005 yn18006 un18007 q18008 rhat18009 un18010 q18011))
  | _ => none
def z59.C : Ctx where
  T := tab
  draws := fun f i => match f, i with | 261, 6 => ([(29, [(1, 0)], 0), (30, [(2, 0)], 0), (31, [(28, 1), (29, 2)], 3), (32, [(1, 0)], 0), (33, [(2, 0)], 0), (34, [(31, 4), (32, 5)], 24), (7, [(30, 3)], 7), (8, [(33, 6)], 127)], 16911433920) | _, _ => ([], 0)
  call := fun g args => match g with | 262 => z58.pack args | _ => none
  keep := fun f i => match f, i with | 261, 0 => ([2, 6, 7, 8, 9, 10, 11, 13, 14, 15, 16, 105, 106, 107, 108, 109, 110, 111, 112], [], []) | 261, 2 => ([2, 6, 7, 8, 9, 10, 14, 15, 16, 17, 18], [], []) | _, _ => ([], [], [])
  keepE := fun f i => match f, i with | 261, 0 => ([2, 6, 7, 8, 9, 10, 11, 13, 14, 15, 16, 105, 106, 107, 108, 109, 110, 111, 112], [], []) | 261, 2 => ([2, 6, 7, 8, 9, 10, 14, 15, 16, 17, 18], [], []) | _, _ => ([], [], [])
  keepR := fun f i => match f, i with | 261, 0 => ([6, 7], [], [6, 7]) | 261, 2 => ([6, 7], [], [6, 7]) | _, _ => ([], [], [])
  L := fun f i b st => match f, i, b with | 261, 0, 0 => (matchSt z59.l0b8sh st).bind z59.l0b8pack | 261, 2, 0 => (matchSt z59.l2b8sh st).bind z59.l2b8pack | _, _, _ => none
def z59.dec : V → Option (Int × Int)
  | (.tup [(.int .u64 x0), (.int .u64 x1)]) => some (x0, x1)
  | _ => none
theorem z59.l0b8_link (R : Type) (k : Env × Store → Option R) (d : X × Env × Store → Option R) (y9001 : Int) (quo9002 : Int) (rem9003 : Int) (s9004 : Int) (yn9005 : Int) (yn9006 : Int) (un9007 : Int) (un9008 : Int) (un9009 : Int) (q9010 : Int) (rhat9011 : Int) :
    z59.C.loopP 261 0 (loopAt 0 (ifun Tryz.f261).body) 0 k d (fillSt z59.l0b8sh [.i y9001, .i quo9002, .i rem9003, .i s9004, .i yn9005, .i yn9006, .i un9007, .i un9008, .i un9009, .i q9010, .i rhat9011]) =
    z59.l0b8P yn9005 yn9006 un9008 (fun x' => k (fillSt z59.l0b8sh [.i y9001, .i quo9002, .i rem9003, .i s9004, .i yn9005, .i yn9006, .i un9007, .i un9008, .i un9009, .i x'.1, .i x'.2])) (fun o => d (z59.l0b8out0 y9001 quo9002 rem9003 s9004 yn9005 yn9006 un9007 un9008 un9009 q9010 rhat9011 o)) (q9010, rhat9011) := by kernel_rfl
theorem z59.l2b8_link (R : Type) (k : Env × Store → Option R) (d : X × Env × Store → Option R) (y18001 : Int) (quo18002 : Int) (rem18003 : Int) (s18004 : Int) (yn18005 : Int) (yn18006 : Int) (un18007 : Int) (q18008 : Int) (rhat18009 : Int) (un18010 : Int) (q18011 : Int) :
    z59.C.loopP 261 2 (loopAt 2 (ifun Tryz.f261).body) 0 k d (fillSt z59.l2b8sh [.i y18001, .i quo18002, .i rem18003, .i s18004, .i yn18005, .i yn18006, .i un18007, .i q18008, .i rhat18009, .i un18010, .i q18011]) =
    z59.l2b8P yn18005 yn18006 un18007 (fun x' => k (fillSt z59.l2b8sh [.i y18001, .i quo18002, .i rem18003, .i s18004, .i yn18005, .i yn18006, .i un18007, .i q18008, .i x'.1, .i un18010, .i x'.2])) (fun o => d (z59.l2b8out0 y18001 quo18002 rem18003 s18004 yn18005 yn18006 un18007 q18008 rhat18009 un18010 q18011 o)) (rhat18009, q18011) := by kernel_rfl
theorem z59.link (a0 : Int) (a1 : Int) (a2 : Int) : z59.C.evTop 261 (ifun Tryz.f261) [(.int .u64 a0), (.int .u64 a1), (.int .u64 a2)] z59.dec = z59.F a0 a1 a2 := by kernel_rfl
def z60.l0sh : Env × Store := ((.ints false .u64 []) :: (.int .u64 (0 : Int)) :: .undef :: .undef :: (.sref 0 0) :: (.int .u64 (0 : Int)) :: (.sref 1 0) :: (.int .u64 (0 : Int)) :: (.int .i64 (0 : Int)) :: un 25 [], [(.arr 0 true 79 (.ints false .u64 [])), (.arr 0 false 79 (.ints false .u64 []))])
def z60.l0out0 (l1001 : List Int) (d1002 : Int) (t1003 : Int) (rest1004 : Int) (i1005 : Int) (s1006 : List Int) (s1007 : List Int) (o : Int × Int × (List Int)) : X × Env × Store := ((.exit 0), fillSt z60.l0sh [.li l1001, .i d1002, .i t1003, .i o.1, .i o.2.1, .li s1006, .li o.2.2])
def z60.l0pack : List Leaf → Option LPack
  | [.li l1001, .i d1002, .i t1003, .i rest1004, .i i1005, .li s1006, .li s1007] => some (.one _ (z60.l0 l1001 d1002 (rest1004, i1005, s1007)) (z60.l0out0 l1001 d1002 t1003 rest1004 i1005 s1006 s1007))
  | _ => none
def z60.C : Ctx where
  T := tab
  call := fun g args => match g with | 261 => z59.pack args | _ => none
  keep := fun f i => match f, i with | 224, 0 => ([0, 1, 4, 5, 6, 7, 8], [0, 1], []) | _, _ => ([], [], [])
  keepE := fun f i => match f, i with | 224, 0 => ([0, 1, 4, 5, 6, 7, 8], [0, 1], []) | _, _ => ([], [], [])
  keepR := fun f i => match f, i with | 224, 0 => ([4, 5], [0, 1], [4, 5]) | _, _ => ([], [], [])
  L := fun f i b st => match f, i, b with | 224, 0, 0 => (matchSt z60.l0sh st).bind z60.l0pack | _, _, _ => none
def z60.dec : V → Option ((List Int) × Int)
  | (.tup [(.ints _ .u64 x0), (.int .u64 x1)]) => some (x0, x1)
  | _ => none
theorem z60.l0_link (R : Type) (k : Env × Store → Option R) (d : X × Env × Store → Option R) (l1001 : List Int) (d1002 : Int) (t1003 : Int) (rest1004 : Int) (i1005 : Int) (s1006 : List Int) (s1007 : List Int) :
    z60.C.loopP 224 0 (loopAt 0 (ifun Tryz.f224).body) 2 k d (fillSt z60.l0sh [.li l1001, .i d1002, .i t1003, .i rest1004, .i i1005, .li s1006, .li s1007]) =
    z60.l0P l1001 d1002 (fun x' => k (fillSt z60.l0sh [.li l1001, .i d1002, .i t1003, .i x'.1, .i x'.2.1, .li s1006, .li x'.2.2])) (fun o => d (z60.l0out0 l1001 d1002 t1003 rest1004 i1005 s1006 s1007 o)) (rest1004, i1005, s1007) := by kernel_rfl
theorem z60.link (a0 : List Int) (a1 : Int) : z60.C.evTop 224 (ifun Tryz.f224) [(.ints false .u64 a0), (.int .u64 a1)] z60.dec = z60.F a0 a1 := by kernel_rfl
def z63.C : Ctx where
  T := tab
  draws := fun f i => match f, i with | 163, 1 => ([(15, [(2, 0)], 0), (16, [(14, 1)], 1), (17, [(3, 0)], 0), (18, [(15, 2), (16, 3)], 7), (6, [], 0), (0, [(5, 5), (17, 4)], 31)], 245792) | 163, 2 => ([(20, [(2, 0)], 0), (21, [(19, 1)], 1), (22, [(5, 0)], 0), (23, [(20, 2), (21, 3)], 7), (19, [(22, 4)], 15), (24, [(18, 5)], 31), (25, [(18, 5)], 31), (26, [(18, 5)], 31), (7, [], 0), (8, [], 0), (0, [(6, 9), (23, 6)], 831), (0, [(7, 10), (24, 7)], 1919), (9, [(25, 8)], 4095)], 66847168) | 163, 4 => ([(35, [(9, 0)], 0), (36, [], 0), (37, [(35, 2)], 2), (38, [(34, 1), (36, 3)], 7), (34, [(37, 4)], 15), (39, [(33, 5)], 31), (40, [(33, 5)], 31), (13, [], 0), (0, [(12, 8), (38, 6)], 191), (14, [(39, 7)], 511)], 1090921705472) | 163, 5 => ([(41, [(6, 0)], 0), (42, [(2, 0)], 0), (43, [(41, 2)], 2), (44, [(42, 3)], 6), (45, [(40, 1), (43, 4)], 15), (46, [(12, 0)], 0), (47, [(44, 5), (45, 6)], 63), (0, [(4, 0), (46, 7)], 127)], 139637976727552) | _, _ => ([], 0)
  call := fun g args => match g with | 92 => z55.pack args | 226 => z62.pack args | 162 => z61.pack args | 158 => z34.pack args | 100 => z26.pack args | 28 => z16.pack args | 91 => z17.pack args | _ => none
def z63.dec : V → Option ((List Int) × Bool × (List Int))
  | (.agg [(.ints _ .u64 x0), (.bool x1), (.ints _ .u64 x2)]) => some (x0, x1, x2)
  | _ => none
theorem z63.link (a0 : List Int) (a1 : Bool) (a2 : List Int) : z63.C.evTop 163 (ifun Tryz.f163) [(.agg [(.ints false .u64 a0), (.bool a1)]), (.agg [(.ints false .u64 a2)])] z63.dec = z63.F a0 a1 a2 := by kernel_rfl
def z67.C : Ctx where
  T := tab
  call := fun g args => match g with | 130 => z66.pack args | 91 => z17.pack args | _ => none
def z67.dec : V → Option ((List Int) × Bool)
  | (.agg [(.ints _ .u64 x0), (.bool x1)]) => some (x0, x1)
  | _ => none
theorem z67.link (a0 : List Int) (a1 : Bool) (a2 : List Int) : z67.C.evTop 157 (ifun Tryz.f157) [(.agg [(.ints false .u64 a0), (.bool a1), (.ints false .u64 a2)])] z67.dec = z67.F a0 a1 a2 := by kernel_rfl
def z72.C : Ctx where
  T := tab
def z72.dec : V → Option (Bool)
  | (.bool x0) => some x0
  | _ => none
theorem z72.link (a0 : Int) : z72.C.evTop 214 (ifun Tryz.f214) [(.int .i64 a0)] z72.dec = z72.F a0 := by kernel_rfl
def z74.C : Ctx where
  T := tab
  call := fun g args => match g with | 214 => z72.pack args | 215 => z73.pack args | _ => none
def z74.dec : V → Option ((List UInt8))
  | (.str x0) => some x0
  | _ => none
theorem z74.link (a0 : Int) : z74.C.evTop 149 (ifun Tryz.f149) [(.int .i64 a0)] z74.dec = z74.F a0 := by kernel_rfl
def z76.C : Ctx where
  T := tab
def z76.dec : V → Option ((List (List UInt8)))
  | (.strs _ x0) => some x0
  | _ => none
theorem z76.link  : z76.C.evTop 257 (ifun Tryz.f257) [] z76.dec = z76.F  := by kernel_rfl
def z90.C : Ctx where
  T := tab
  call := fun g args => match g with | 113 => z8.pack args | _ => none
def z90.dec : V → Option ((List Int) × Bool)
  | (.agg [(.ints _ .i64 x0), (.bool x1)]) => some (x0, x1)
  | _ => none
theorem z90.link (a0 : List Int) (a1 : Bool) : z90.C.evTop 35 (ifun Tryz.f35) [(.agg [(.ints false .i64 a0), (.bool a1)])] z90.dec = z90.F a0 a1 := by kernel_rfl
def z94.C : Ctx where
  T := tab
  call := fun g args => match g with | 170 => z91.pack args | 113 => z8.pack args | 171 => z92.pack args | 172 => z93.pack args | _ => none
def z94.dec : V → Option ((List Int) × Bool)
  | (.agg [(.ints _ .i64 x0), (.bool x1)]) => some (x0, x1)
  | _ => none
theorem z94.link (a0 : List Int) (a1 : Bool) (a2 : List Int) (a3 : Bool) : z94.C.evTop 85 (ifun Tryz.f85) [(.agg [(.ints false .i64 a0), (.bool a1)]), (.agg [(.ints false .i64 a2), (.bool a3)])] z94.dec = z94.F a0 a1 a2 a3 := by kernel_rfl
def z95.C : Ctx where
  T := tab
  call := fun g args => match g with | 35 => z90.pack args | 85 => z94.pack args | _ => none
def z95.dec : V → Option ((List Int) × Bool)
  | (.agg [(.ints _ .i64 x0), (.bool x1)]) => some (x0, x1)
  | _ => none
theorem z95.link (a0 : List Int) (a1 : Bool) (a2 : List Int) (a3 : Bool) : z95.C.evTop 63 (ifun Tryz.f63) [(.agg [(.ints false .i64 a0), (.bool a1)]), (.agg [(.ints false .i64 a2), (.bool a3)])] z95.dec = z95.F a0 a1 a2 a3 := by kernel_rfl
def z104.l0b10sh : Env × Store := ((.str ([] : List UInt8)) :: .undef :: (.ptr 0 0) :: (.int .i64 (0 : Int)) :: (.ptr 1 0) :: (.bool false) :: (.int .i64 (0 : Int)) :: (.str ([] : List UInt8)) :: (.int .i64 (0 : Int)) :: (.int .i64 (0 : Int)) :: (.bool false) :: un 90 [], [(.cells 213 [(.ints false .i64 []), (.bool false), (.int .i64 (0 : Int))]), (.cells 213 [(.ints false .i64 []), (.bool false), (.int .i64 (0 : Int))])])
def z104.l0b10so1 : Env × Store := (.undef :: .undef :: (.ptr 0 0) :: (.int .i64 (0 : Int)) :: un 97 [], [(.cells 213 [(.ints false .i64 []), (.bool false), (.int .i64 (0 : Int))]), (.cells 213 [(.ints false .i64 []), (.bool false), (.int .i64 (0 : Int))])])
def z104.l0b10out0 (s11001 : List UInt8) (t11002 : Int) (below11003 : Bool) (i11004 : Int) (all11005 : List UInt8) (ahead11006 : Int) (behind11007 : Int) (zero11008 : Bool) (s11009 : List Int) (s11010 : Bool) (s11011 : Int) (s11012 : List Int) (s11013 : Bool) (s11014 : Int) (o : Int × (List UInt8) × Int × Int × Bool) : X × Env × Store := ((.exit 0), fillSt z104.l0b10sh [.s s11001, .i t11002, .b below11003, .i o.1, .s o.2.1, .i o.2.2.1, .i o.2.2.2.1, .b o.2.2.2.2, .li s11009, .b s11010, .i s11011, .li s11012, .b s11013, .i s11014])
def z104.l0b10out1 (s11001 : List UInt8) (t11002 : Int) (below11003 : Bool) (i11004 : Int) (all11005 : List UInt8) (ahead11006 : Int) (behind11007 : Int) (zero11008 : Bool) (s11009 : List Int) (s11010 : Bool) (s11011 : Int) (s11012 : List Int) (s11013 : Bool) (s11014 : Int) (o : Int) : X × Env × Store := (.ret, fillSt z104.l0b10so1 [.i o, .li s11012, .b s11013, .i s11014, .li s11012, .b s11013, .i s11014])
def z104.l0b10pack : List Leaf → Option LPack
  | [.s s11001, .i t11002, .b below11003, .i i11004, .s all11005, .i ahead11006, .i behind11007, .b zero11008, .li s11009, .b s11010, .i s11011, .li s11012, .b s11013, .i s11014] => some (.two _ _ (z104.l0b10 s11001 (i11004, all11005, ahead11006, behind11007, zero11008)) (z104.l0b10out0 s11001 t11002 below11003 i11004 all11005 ahead11006 behind11007 zero11008 s11009 s11010 s11011 s11012 s11013 s11014) (z104.l0b10out1 s11001 t11002 below11003 i11004 all11005 ahead11006 behind11007 zero11008 s11009 s11010 s11011 s11012 s11013 s11014))
  | _ => none
def z104.C : Ctx where
  T := tab
  call := fun g args => match g with | 192 => z85.pack args | 113 => z8.pack args | _ => none
  keep := fun f i => match f, i with | 126, 0 => ([0, 2, 3, 4, 5, 6, 7, 8, 9, 10, 70, 71, 74, 75, 76, 77, 78, 79, 80, 83, 84, 85, 86], [0, 1], []) | _, _ => ([], [], [])
  keepE := fun f i => match f, i with | 126, 0 => ([0, 2, 3, 4, 5, 6, 7, 8, 9, 10, 70, 71, 74, 75, 76, 77, 78, 79, 80, 83, 84, 85, 86], [0, 1], []) | _, _ => ([], [], [])
  keepR := fun f i => match f, i with | 126, 0 => ([2, 3], [0, 1], [2, 3]) | _, _ => ([], [], [])
  L := fun f i b st => match f, i, b with | 126, 0, 0 => (matchSt z104.l0b10sh st).bind z104.l0b10pack | _, _, _ => none
def z104.dec : V → Option ((List Int) × Bool × Int × Int)
  | (.tup [(.agg [(.ints _ .i64 x0), (.bool x1), (.int .i64 x2)]), (.int .i64 x3)]) => some (x0, x1, x2, x3)
  | _ => none
theorem z104.l0b10_link (R : Type) (k : Env × Store → Option R) (d : X × Env × Store → Option R) (s11001 : List UInt8) (t11002 : Int) (below11003 : Bool) (i11004 : Int) (all11005 : List UInt8) (ahead11006 : Int) (behind11007 : Int) (zero11008 : Bool) (s11009 : List Int) (s11010 : Bool) (s11011 : Int) (s11012 : List Int) (s11013 : Bool) (s11014 : Int) :
    z104.C.loopP 126 0 (loopAt 0 (ifun Tryz.f126).body) 2 k d (fillSt z104.l0b10sh [.s s11001, .i t11002, .b below11003, .i i11004, .s all11005, .i ahead11006, .i behind11007, .b zero11008, .li s11009, .b s11010, .i s11011, .li s11012, .b s11013, .i s11014]) =
    z104.l0b10P s11001 (fun x' => k (fillSt z104.l0b10sh [.s s11001, .i t11002, .b below11003, .i x'.1, .s x'.2.1, .i x'.2.2.1, .i x'.2.2.2.1, .b x'.2.2.2.2, .li s11009, .b s11010, .i s11011, .li s11012, .b s11013, .i s11014])) (fun o => match o with | .inl o => d (z104.l0b10out0 s11001 t11002 below11003 i11004 all11005 ahead11006 behind11007 zero11008 s11009 s11010 s11011 s11012 s11013 s11014 o) | .inr o => d (z104.l0b10out1 s11001 t11002 below11003 i11004 all11005 ahead11006 behind11007 zero11008 s11009 s11010 s11011 s11012 s11013 s11014 o)) (i11004, all11005, ahead11006, behind11007, zero11008) := by kernel_rfl
theorem z104.link (a0 : List UInt8) : z104.C.evTop 126 (ifun Tryz.f126) [(.str a0)] z104.dec = z104.F a0 := by kernel_rfl
def z107.C : Ctx where
  T := tab
  call := fun g args => match g with | 207 => z106.pack args | 117 => z97.pack args | _ => none
def z107.dec : V → Option (Int)
  | (.int .i64 x0) => some x0
  | _ => none
theorem z107.link (a0 : List Int) (a1 : Bool) (a2 : List Int) (a3 : List Int) (a4 : Bool) (a5 : List Int) : z107.C.evTop 128 (ifun Tryz.f128) [(.agg [(.ints false .i64 a0), (.bool a1), (.ints false .i64 a2)]), (.agg [(.ints false .i64 a3), (.bool a4), (.ints false .i64 a5)])] z107.dec = z107.F a0 a1 a2 a3 a4 a5 := by kernel_rfl
def z110.l0b4sh : Env × Store := ((.int .u64 (0 : Int)) :: (.int .i64 (0 : Int)) :: .undef :: .undef :: (.str ([] : List UInt8)) :: (.ptr 0 0) :: (.int .i64 (0 : Int)) :: un 21 [], [(.arr 0 false 321 (.ints false .u8 []))])
def z110.l0b4out0 (n5001 : Int) (length5002 : Int) (t5003 : List UInt8) (i5004 : Int) (s5005 : List Int) (o : Int × Int × (List Int)) : X × Env × Store := ((.exit 0), fillSt z110.l0b4sh [.i o.1, .i length5002, .s t5003, .i o.2.1, .li o.2.2])
def z110.l0b4pack : List Leaf → Option LPack
  | [.i n5001, .i length5002, .s t5003, .i i5004, .li s5005] => some (.one _ (z110.l0b4 length5002 (n5001, i5004, s5005)) (z110.l0b4out0 n5001 length5002 t5003 i5004 s5005))
  | _ => none
def z110.C : Ctx where
  T := tab
  keep := fun f i => match f, i with | 189, 0 => ([0, 1, 4, 5, 6], [0], []) | _, _ => ([], [], [])
  keepE := fun f i => match f, i with | 189, 0 => ([0, 1, 4, 5, 6], [0], []) | _, _ => ([], [], [])
  keepR := fun f i => match f, i with | 189, 0 => ([4], [0], [4]) | _, _ => ([], [], [])
  L := fun f i b st => match f, i, b with | 189, 0, 0 => (matchSt z110.l0b4sh st).bind z110.l0b4pack | _, _, _ => none
def z110.dec : V → Option ((List UInt8))
  | (.str x0) => some x0
  | _ => none
theorem z110.l0b4_link (R : Type) (k : Env × Store → Option R) (d : X × Env × Store → Option R) (n5001 : Int) (length5002 : Int) (t5003 : List UInt8) (i5004 : Int) (s5005 : List Int) :
    z110.C.loopP 189 0 (loopAt 0 (ifun Tryz.f189).body) 1 k d (fillSt z110.l0b4sh [.i n5001, .i length5002, .s t5003, .i i5004, .li s5005]) =
    z110.l0b4P length5002 (fun x' => k (fillSt z110.l0b4sh [.i x'.1, .i length5002, .s t5003, .i x'.2.1, .li x'.2.2])) (fun o => d (z110.l0b4out0 n5001 length5002 t5003 i5004 s5005 o)) (n5001, i5004, s5005) := by kernel_rfl
theorem z110.link (a0 : Int) (a1 : Int) : z110.C.evTop 189 (ifun Tryz.f189) [(.int .u64 a0), (.int .i64 a1)] z110.dec = z110.F a0 a1 := by kernel_rfl
def z114.l0sh : Env × Store := ((.strs false []) :: (.str ([] : List UInt8)) :: .undef :: .undef :: (.int .i64 (0 : Int)) :: .undef :: .undef :: (.int .i64 (0 : Int)) :: (.int .i64 (0 : Int)) :: un 10 [], [])
def z114.l0so1 : Env × Store := (un 4 ((.int .i64 (0 : Int)) :: un 14 []), [])
def z114.l0out0 (s1001 : List (List UInt8)) (v1002 : List UInt8) (t1003 : Int) (t1004 : Int) (t1005 : Int) (o : Int) : X × Env × Store := ((.exit 0), fillSt z114.l0sh [.ls s1001, .s v1002, .i t1003, .i t1004, .i o])
def z114.l0out1 (s1001 : List (List UInt8)) (v1002 : List UInt8) (t1003 : Int) (t1004 : Int) (t1005 : Int) (o : Int) : X × Env × Store := (.ret, fillSt z114.l0so1 [.i o])
def z114.l0pack : List Leaf → Option LPack
  | [.ls s1001, .s v1002, .i t1003, .i t1004, .i t1005] => some (.two _ _ (z114.l0 s1001 v1002 t1004 t1005) (z114.l0out0 s1001 v1002 t1003 t1004 t1005) (z114.l0out1 s1001 v1002 t1003 t1004 t1005))
  | _ => none
def z114.C : Ctx where
  T := tab
  keep := fun f i => match f, i with | 136, 0 => ([0, 1, 4, 7, 8], [], []) | _, _ => ([], [], [])
  keepE := fun f i => match f, i with | 136, 0 => ([0, 1, 4, 7, 8], [], []) | _, _ => ([], [], [])
  keepR := fun f i => match f, i with | 136, 0 => ([4], [], [4]) | _, _ => ([], [], [])
  L := fun f i b st => match f, i, b with | 136, 0, 0 => (matchSt z114.l0sh st).bind z114.l0pack | _, _, _ => none
def z114.dec : V → Option (Int)
  | (.int .i64 x0) => some x0
  | _ => none
theorem z114.l0_link (R : Type) (k : Env × Store → Option R) (d : X × Env × Store → Option R) (s1001 : List (List UInt8)) (v1002 : List UInt8) (t1003 : Int) (t1004 : Int) (t1005 : Int) :
    z114.C.loopP 136 0 (loopAt 0 (ifun Tryz.f136).body) 0 k d (fillSt z114.l0sh [.ls s1001, .s v1002, .i t1003, .i t1004, .i t1005]) =
    z114.l0P s1001 v1002 t1004 (fun x' => k (fillSt z114.l0sh [.ls s1001, .s v1002, .i t1003, .i t1004, .i x'])) (fun o => match o with | .inl o => d (z114.l0out0 s1001 v1002 t1003 t1004 t1005 o) | .inr o => d (z114.l0out1 s1001 v1002 t1003 t1004 t1005 o)) t1005 := by kernel_rfl
theorem z114.link (a0 : List (List UInt8)) (a1 : List UInt8) : z114.C.evTop 136 (ifun Tryz.f136) [(.strs false a0), (.str a1)] z114.dec = z114.F a0 a1 := by kernel_rfl
def z116.C : Ctx where
  T := tab
  call := fun g args => match g with | 38 => z69.pack args | 36 => z42.pack args | 46 => z115.pack args | 41 => z113.pack args | 44 => z84.pack args | _ => none
def z116.dec : V → Option (Bool)
  | (.bool x0) => some x0
  | _ => none
theorem z116.link  : z116.C.evTop 40 (ifun Tryz.f40) [] z116.dec = z116.F  := by kernel_rfl
end
end Go.Proofs.YtgjncgiekniniaaGreatDoor.A
end
section
set_option linter.unusedVariables false
set_option linter.unusedSimpArgs false
set_option maxRecDepth 100000
namespace Go.Proofs.YtgjncgiekniniaaGreatDoor.A
open Go
noncomputable section
def z7.C : Ctx where
  T := tab
  call := fun g args => match g with | 102 => z6.pack args | _ => none
def z7.dec : V → Option ((List UInt8))
  | (.str x0) => some x0
  | _ => none
theorem z7.link (a0 : List Int) (a1 : Bool) : z7.C.evTop 26 (ifun Tryz.f26) [(.agg [(.ints false .i64 a0), (.bool a1)])] z7.dec = z7.F a0 a1 := by kernel_rfl
def z13.l2aash : Env × Store := ((.ints false .i64 []) :: (.ints false .i64 []) :: .undef :: .undef :: (.sref 0 0) :: (.sref 1 0) :: (.int .i64 (0 : Int)) :: (.int .i64 (0 : Int)) :: (.int .i64 (0 : Int)) :: un 54 [], [(.arr 0 true 3 (.ints false .i64 [])), (.arr 0 false 3 (.ints false .i64 []))])
def z13.l2aaout0 (a4001 : List Int) (b4002 : List Int) (i4003 : Int) (carry4004 : Int) (k4005 : Int) (s4006 : List Int) (s4007 : List Int) (o : Int × Int × (List Int)) : X × Env × Store := ((.exit 2), fillSt z13.l2aash [.li a4001, .li b4002, .i i4003, .i o.1, .i o.2.1, .li s4006, .li o.2.2])
def z13.l2aapack : List Leaf → Option LPack
  | [.li a4001, .li b4002, .i i4003, .i carry4004, .i k4005, .li s4006, .li s4007] => some (.one _ (z13.l2aa a4001 b4002 i4003 (carry4004, k4005, s4007)) (z13.l2aaout0 a4001 b4002 i4003 carry4004 k4005 s4006 s4007))
  | _ => none
def z13.l0sh : Env × Store := ((.ints false .i64 []) :: (.ints false .i64 []) :: .undef :: .undef :: (.sref 0 0) :: (.sref 1 0) :: (.int .i64 (0 : Int)) :: un 56 [], [(.arr 0 true 3 (.ints false .i64 [])), (.arr 0 false 3 (.ints false .i64 []))])
def z13.l0out0 (a1001 : List Int) (b1002 : List Int) (i1003 : Int) (s1004 : List Int) (s1005 : List Int) (o : Int × (List Int)) : X × Env × Store := ((.exit 0), fillSt z13.l0sh [.li a1001, .li b1002, .i o.1, .li s1004, .li o.2])
def z13.l0pack : List Leaf → Option LPack
  | [.li a1001, .li b1002, .i i1003, .li s1004, .li s1005] => some (.one _ (z13.l0 a1001 b1002 (i1003, s1005)) (z13.l0out0 a1001 b1002 i1003 s1004 s1005))
  | _ => none
def z13.C : Ctx where
  T := tab
  draws := fun f i => match f, i with | 208, 10 => ([(38, [(5, 0)], 0), (39, [(6, 0)], 0), (40, [(8, 0)], 0), (41, [(38, 2), (39, 3)], 6), (42, [(37, 1), (40, 4)], 15), (43, [(41, 5)], 31), (44, [(0, 0)], 0), (45, [(6, 0)], 0), (46, [(43, 7), (44, 8)], 192), (47, [(45, 9)], 448), (48, [(9, 0)], 0), (49, [(46, 10), (47, 11)], 1984), (50, [(42, 6), (48, 12)], 4095), (51, [(7, 0)], 0), (52, [(49, 13), (50, 14)], 16383), (11, [(51, 15)], 32767)], 4503462188418048) | _, _ => ([], 0)
  call := fun g args => match g with | 234 => z11.pack args | 235 => z12.pack args | _ => none
  keep := fun f i => match f, i with | 208, 2 => ([0, 1, 4, 5, 6, 7, 8], [0, 1], []) | 208, 0 => ([0, 1, 4, 5, 6, 29, 30], [0, 1], []) | _, _ => ([], [], [])
  keepE := fun f i => match f, i with | 208, 2 => ([0, 1, 4, 5, 6, 7, 8], [0, 1], []) | 208, 0 => ([0, 1, 4, 5, 6, 29, 30], [0, 1], []) | _, _ => ([], [], [])
  keepR := fun f i => match f, i with | 208, 2 => ([4], [0, 1], [4]) | 208, 0 => ([4], [0, 1], [4]) | _, _ => ([], [], [])
  L := fun f i b st => match f, i, b with | 208, 2, 0 => (matchSt z13.l2aash st).bind z13.l2aapack | 208, 0, 0 => (matchSt z13.l0sh st).bind z13.l0pack | _, _, _ => none
def z13.dec : V → Option ((List Int))
  | (.ints _ .i64 x0) => some x0
  | _ => none
theorem z13.l2aa_link (R : Type) (k : Env × Store → Option R) (d : X × Env × Store → Option R) (a4001 : List Int) (b4002 : List Int) (i4003 : Int) (carry4004 : Int) (k4005 : Int) (s4006 : List Int) (s4007 : List Int) :
    z13.C.loopP 208 2 (loopAt 2 (ifun Tryz.f208).body) 2 k d (fillSt z13.l2aash [.li a4001, .li b4002, .i i4003, .i carry4004, .i k4005, .li s4006, .li s4007]) =
    z13.l2aaP a4001 b4002 i4003 (fun x' => k (fillSt z13.l2aash [.li a4001, .li b4002, .i i4003, .i x'.1, .i x'.2.1, .li s4006, .li x'.2.2])) (fun o => d (z13.l2aaout0 a4001 b4002 i4003 carry4004 k4005 s4006 s4007 o)) (carry4004, k4005, s4007) := by kernel_rfl
theorem z13.l0_link (R : Type) (k : Env × Store → Option R) (d : X × Env × Store → Option R) (a1001 : List Int) (b1002 : List Int) (i1003 : Int) (s1004 : List Int) (s1005 : List Int) :
    z13.C.loopP 208 0 (loopAt 0 (ifun Tryz.f208).body) 2 k d (fillSt z13.l0sh [.li a1001, .li b1002, .i i1003, .li s1004, .li s1005]) =
    z13.l0P a1001 b1002 (fun x' => k (fillSt z13.l0sh [.li a1001, .li b1002, .i x'.1, .li s1004, .li x'.2])) (fun o => d (z13.l0out0 a1001 b1002 i1003 s1004 s1005 o)) (i1003, s1005) := by kernel_rfl
theorem z13.link (a0 : List Int) (a1 : List Int) : z13.C.evTop 208 (ifun Tryz.f208) [(.ints false .i64 a0), (.ints false .i64 a1)] z13.dec = z13.F a0 a1 := by kernel_rfl
def z16.C : Ctx where
  T := tab
  call := fun g args => match g with | 104 => z15.pack args | _ => none
def z16.dec : V → Option (Int)
  | (.int .i64 x0) => some x0
  | _ => none
theorem z16.link (a0 : List Int) (a1 : Bool) : z16.C.evTop 28 (ifun Tryz.f28) [(.agg [(.ints false .u64 a0), (.bool a1)])] z16.dec = z16.F a0 a1 := by kernel_rfl
def z17.C : Ctx where
  T := tab
  draws := fun f i => match f, i with | 91, 1 => ([(6, [(2, 0)], 0), (7, [(1, 0)], 0), (8, [(6, 2)], 2), (9, [(2, 0), (7, 3)], 6), (10, [(8, 4), (7, 3)], 14), (11, [(9, 5), (7, 3)], 30), (12, [(7, 3), (10, 6)], 62), (13, [(5, 1), (11, 7)], 127), (0, [(4, 0), (12, 8)], 255)], 8160) | _, _ => ([], 0)
  call := fun g args => match g with | 104 => z15.pack args | _ => none
def z17.dec : V → Option ((List Int) × Bool)
  | (.agg [(.ints _ .u64 x0), (.bool x1)]) => some (x0, x1)
  | _ => none
theorem z17.link (a0 : List Int) (a1 : Bool) : z17.C.evTop 91 (ifun Tryz.f91) [(.agg [(.ints false .u64 a0)]), (.bool a1)] z17.dec = z17.F a0 a1 := by kernel_rfl
def z19.l0b6sh : Env × Store := ((.ints false .u64 []) :: .undef :: (.ptr 0 0) :: (.int .i64 (0 : Int)) :: un 19 [], [(.cells 37 [(.ints false .u64 [])])])
def z19.l0b6out0 (l7001 : List Int) (n7002 : Int) (s7003 : List Int) (o : Int) : X × Env × Store := ((.exit 0), fillSt z19.l0b6sh [.li l7001, .i o, .li s7003])
def z19.l0b6pack : List Leaf → Option LPack
  | [.li l7001, .i n7002, .li s7003] => some (.one _ (z19.l0b6 l7001 n7002) (z19.l0b6out0 l7001 n7002 s7003))
  | _ => none
def z19.C : Ctx where
  T := tab
  keep := fun f i => match f, i with | 185, 0 => ([0, 2, 3], [0], []) | _, _ => ([], [], [])
  keepE := fun f i => match f, i with | 185, 0 => ([0, 2, 3], [0], []) | _, _ => ([], [], [])
  keepR := fun f i => match f, i with | 185, 0 => ([2], [0], [2]) | _, _ => ([], [], [])
  L := fun f i b st => match f, i, b with | 185, 0, 0 => (matchSt z19.l0b6sh st).bind z19.l0b6pack | _, _, _ => none
def z19.dec : V → Option ((List Int))
  | (.agg [(.ints _ .u64 x0)]) => some x0
  | _ => none
theorem z19.l0b6_link (R : Type) (k : Env × Store → Option R) (d : X × Env × Store → Option R) (l7001 : List Int) (n7002 : Int) (s7003 : List Int) :
    z19.C.loopP 185 0 (loopAt 0 (ifun Tryz.f185).body) 1 k d (fillSt z19.l0b6sh [.li l7001, .i n7002, .li s7003]) =
    z19.l0b6P l7001 (fun x' => k (fillSt z19.l0b6sh [.li l7001, .i x', .li s7003])) (fun o => d (z19.l0b6out0 l7001 n7002 s7003 o)) n7002 := by kernel_rfl
theorem z19.link (a0 : List Int) : z19.C.evTop 185 (ifun Tryz.f185) [(.ints false .u64 a0)] z19.dec = z19.F a0 := by kernel_rfl
def z24.C : Ctx where
  T := tab
  call := fun g args => match g with | 273 => z23.pack args | _ => none
def z24.dec : V → Option (Int)
  | (.int .i64 x0) => some x0
  | _ => none
theorem z24.link (a0 : Int) (a1 : Int) : z24.C.evTop 245 (ifun Tryz.f245) [(.int .u64 a0), (.int .u64 a1)] z24.dec = z24.F a0 a1 := by kernel_rfl
def z29.C : Ctx where
  T := tab
  draws := fun f i => match f, i with | 90, 1 => ([(6, [(2, 0)], 0), (7, [(3, 0)], 0), (8, [(6, 2)], 2), (9, [(5, 1), (7, 3)], 7), (0, [(4, 0), (8, 4)], 15)], 480) | _, _ => ([], 0)
  call := fun g args => match g with | 110 => z28.pack args | 24 => z27.pack args | _ => none
def z29.dec : V → Option ((List Int) × Bool)
  | (.agg [(.ints _ .u64 x0), (.bool x1)]) => some (x0, x1)
  | _ => none
theorem z29.link (a0 : List Int) (a1 : Bool) (a2 : List Int) (a3 : Bool) : z29.C.evTop 90 (ifun Tryz.f90) [(.agg [(.ints false .u64 a0), (.bool a1)]), (.agg [(.ints false .u64 a2), (.bool a3)])] z29.dec = z29.F a0 a1 a2 a3 := by kernel_rfl
def z35.C : Ctx where
  T := tab
def z35.dec : V → Option (Int × Int)
  | (.tup [(.int .u64 x0), (.int .u64 x1)]) => some (x0, x1)
  | _ => none
theorem z35.link (a0 : Int) (a1 : Int) : z35.C.evTop 268 (ifun Tryz.f268) [(.int .u64 a0), (.int .u64 a1)] z35.dec = z35.F a0 a1 := by kernel_rfl
def z36.l0ash : Env × Store := (.undef :: (.int .u64 (0 : Int)) :: (.sview 3 0 0 0) :: (.ptr 4 0) :: .undef :: .undef :: (.int .u64 (0 : Int)) :: un 6 ((.ints false .u64 []) :: (.int .i64 (0 : Int)) :: (.int .i64 (0 : Int)) :: un 44 []), [(.cells 37 [(.ints false .u64 [])]), .dead, (.cells 37 [(.ints false .u64 [])]), (.arr 0 false 79 (.ints false .u64 [])), (.cells 37 [(.ints false .u64 [])])])
def z36.l0aout0 (x2001 : Int) (l2002 : Nat) (l2003 : Nat) (carry2004 : Int) (t2005 : List Int) (t2006 : Int) (t2007 : Int) (s2008 : List Int) (s2009 : List Int) (s2010 : List Int) (s2011 : List Int) (o : Int × Int × (List Int)) : X × Env × Store := ((.exit 0), fillSt z36.l0ash [.i x2001, .n l2002, .n l2003, .i o.1, .li t2005, .i t2006, .i o.2.1, .li s2008, .li s2009, .li o.2.2, .li s2011])
def z36.l0apack : List Leaf → Option LPack
  | [.i x2001, .n l2002, .n l2003, .i carry2004, .li t2005, .i t2006, .i t2007, .li s2008, .li s2009, .li s2010, .li s2011] => some (.one _ (z36.l0a x2001 l2002 l2003 t2005 t2006 (carry2004, t2007, s2010)) (z36.l0aout0 x2001 l2002 l2003 carry2004 t2005 t2006 t2007 s2008 s2009 s2010 s2011))
  | _ => none
def z36.l0sh : Env × Store := (.undef :: .undef :: (.ptr 0 0) :: .undef :: (.ptr 2 0) :: (.sref 3 0) :: un 12 ((.ints false .u64 []) :: (.int .i64 (0 : Int)) :: (.int .i64 (0 : Int)) :: un 13 []), [(.cells 37 [(.ints false .u64 [])]), .dead, (.cells 37 [(.ints false .u64 [])]), (.arr 0 false 79 (.ints false .u64 []))])
def z36.l0out0 (t1001 : List Int) (t1002 : Int) (t1003 : Int) (s1004 : List Int) (s1005 : List Int) (s1006 : List Int) (o : Int × (List Int)) : X × Env × Store := ((.exit 0), fillSt z36.l0sh [.li t1001, .i t1002, .i o.1, .li s1004, .li s1005, .li o.2])
def z36.l0pack : List Leaf → Option LPack
  | [.li t1001, .i t1002, .i t1003, .li s1004, .li s1005, .li s1006] => some (.one _ (z36.l0 t1001 t1002 s1004 (t1003, s1006)) (z36.l0out0 t1001 t1002 t1003 s1004 s1005 s1006))
  | _ => none
def z36.C : Ctx where
  T := tab
  draws := fun f i => match f, i with | 164, 5 => ([(26, [(2, 0)], 0), (27, [(7, 0)], 0), (28, [(5, 0)], 0), (29, [(6, 0)], 0), (30, [(27, 3), (28, 4)], 12), (31, [(25, 1), (26, 2), (29, 5)], 31)], 2113929216) | _, _ => ([], 0)
  call := fun g args => match g with | 268 => z35.pack args | 183 => z0.pack args | 185 => z19.pack args | _ => none
  inl := fun g => match g with | 227 => some (ifun Tryz.f227) | _ => none
  keep := fun f i => match f, i with | 227, 0 => ([1, 2, 3, 6, 13, 14, 15], List.range 64, []) | 164, 0 => ([2, 4, 5, 18, 19, 20], [0, 2, 3], []) | _, _ => ([], [], [])
  keepE := fun f i => match f, i with | 227, 0 => ([1, 2, 3, 6, 13, 14, 15], List.range 64, []) | 164, 0 => ([2, 4, 5, 18, 19, 20], [0, 2, 3], []) | _, _ => ([], [], [])
  keepR := fun f i => match f, i with | 227, 0 => ([], List.range 64, []) | 164, 0 => ([4], [0, 2, 3], [4]) | _, _ => ([], [], [])
  L := fun f i b st => match f, i, b with | 227, 0, 4 => (matchSt z36.l0ash st).bind z36.l0apack | 164, 0, 0 => (matchSt z36.l0sh st).bind z36.l0pack | _, _, _ => none
def z36.dec : V → Option ((List Int))
  | (.agg [(.ints _ .u64 x0)]) => some x0
  | _ => none
theorem z36.l0a_link (R : Type) (k : Env × Store → Option R) (d : X × Env × Store → Option R) (x2001 : Int) (l2002 : Nat) (l2003 : Nat) (carry2004 : Int) (t2005 : List Int) (t2006 : Int) (t2007 : Int) (s2008 : List Int) (s2009 : List Int) (s2010 : List Int) (s2011 : List Int) :
    z36.C.loopPI (z36.C.inlK 0) 227 0 4 (loopAt 0 (ifun Tryz.f227).body) 5 k d (fillSt z36.l0ash [.i x2001, .n l2002, .n l2003, .i carry2004, .li t2005, .i t2006, .i t2007, .li s2008, .li s2009, .li s2010, .li s2011]) =
    z36.l0aP x2001 l2002 l2003 t2005 t2006 (fun x' => k (fillSt z36.l0ash [.i x2001, .n l2002, .n l2003, .i x'.1, .li t2005, .i t2006, .i x'.2.1, .li s2008, .li s2009, .li x'.2.2, .li s2011])) (fun o => d (z36.l0aout0 x2001 l2002 l2003 carry2004 t2005 t2006 t2007 s2008 s2009 s2010 s2011 o)) (carry2004, t2007, s2010) := by kernel_rfl
theorem z36.l0_link (R : Type) (k : Env × Store → Option R) (d : X × Env × Store → Option R) (t1001 : List Int) (t1002 : Int) (t1003 : Int) (s1004 : List Int) (s1005 : List Int) (s1006 : List Int) :
    z36.C.loopP 164 0 (loopAt 0 (ifun Tryz.f164).body) 4 k d (fillSt z36.l0sh [.li t1001, .i t1002, .i t1003, .li s1004, .li s1005, .li s1006]) =
    z36.l0P t1001 t1002 s1004 (fun x' => k (fillSt z36.l0sh [.li t1001, .i t1002, .i x'.1, .li s1004, .li s1005, .li x'.2])) (fun o => d (z36.l0out0 t1001 t1002 t1003 s1004 s1005 s1006 o)) (t1003, s1006) := by kernel_rfl
theorem z36.link (a0 : List Int) (a1 : List Int) : z36.C.evTop 164 (ifun Tryz.f164) [(.agg [(.ints false .u64 a0)]), (.agg [(.ints false .u64 a1)])] z36.dec = z36.F a0 a1 := by kernel_rfl
def z38.C : Ctx where
  T := tab
  call := fun g args => match g with | 160 => z33.pack args | 161 => z37.pack args | 104 => z15.pack args | 91 => z17.pack args | _ => none
def z38.dec : V → Option ((List Int) × Bool × Int)
  | (.tup [(.agg [(.ints _ .u64 x0), (.bool x1)]), (.int .i64 x2)]) => some (x0, x1, x2)
  | _ => none
theorem z38.link (a0 : List UInt8) : z38.C.evTop 76 (ifun Tryz.f76) [(.str a0)] z38.dec = z38.F a0 := by kernel_rfl
def z48.C : Ctx where
  T := tab
  call := fun g args => match g with | 202 => z47.pack args | _ => none
def z48.dec : V → Option ((List Int) × Bool × Int × Int)
  | (.tup [(.agg [(.ints _ .u64 x0), (.bool x1), (.int .i64 x2)]), (.int .i64 x3)]) => some (x0, x1, x2, x3)
  | _ => none
theorem z48.link (a0 : List Int) (a1 : Bool) (a2 : Int) : z48.C.evTop 119 (ifun Tryz.f119) [(.agg [(.ints false .u64 a0), (.bool a1)]), (.int .i64 a2)] z48.dec = z48.F a0 a1 a2 := by kernel_rfl
def z53.C : Ctx where
  T := tab
  draws := fun f i => match f, i with | 121, 2 => ([(12, [(2, 0)], 0), (13, [(5, 0)], 0), (14, [(11, 1), (12, 2)], 3), (15, [(3, 0)], 0), (16, [(5, 0)], 0), (17, [(14, 4), (15, 5)], 31), (18, [(13, 3), (16, 6)], 63), (5, [(17, 7)], 127)], 260112) | _, _ => ([], 0)
  call := fun g args => match g with | 203 => z52.pack args | 74 => z30.pack args | _ => none
def z53.dec : V → Option (Int)
  | (.int .i64 x0) => some x0
  | _ => none
theorem z53.link (a0 : List Int) (a1 : Bool) (a2 : Int) (a3 : List Int) (a4 : Bool) (a5 : Int) : z53.C.evTop 121 (ifun Tryz.f121) [(.agg [(.ints false .u64 a0), (.bool a1), (.int .i64 a2)]), (.agg [(.ints false .u64 a3), (.bool a4), (.int .i64 a5)])] z53.dec = z53.F a0 a1 a2 a3 a4 a5 := by kernel_rfl
def z54.C : Ctx where
  T := tab
def z54.dec : V → Option (Int)
  | (.int .i64 x0) => some x0
  | _ => none
theorem z54.link (a0 : List Int) (a1 : Bool) (a2 : Int) : z54.C.evTop 122 (ifun Tryz.f122) [(.agg [(.ints false .u64 a0), (.bool a1), (.int .i64 a2)])] z54.dec = z54.F a0 a1 a2 := by kernel_rfl
def z58.C : Ctx where
  T := tab
  call := fun g args => match g with | 280 => z57.pack args | _ => none
def z58.dec : V → Option (Int)
  | (.int .i64 x0) => some x0
  | _ => none
theorem z58.link (a0 : Int) : z58.C.evTop 262 (ifun Tryz.f262) [(.int .u64 a0)] z58.dec = z58.F a0 := by kernel_rfl
def z65.C : Ctx where
  T := tab
  draws := fun f i => match f, i with | 123, 1 => ([(7, [(1, 0)], 0), (8, [(6, 1)], 1), (9, [(1, 0)], 0), (10, [(8, 3)], 4), (11, [(9, 4)], 12), (12, [(7, 2), (10, 5)], 31), (6, [(11, 6)], 63), (13, [(5, 7)], 127), (14, [(5, 7)], 127), (4, [], 0), (0, [(3, 10), (12, 8)], 767), (5, [(13, 9)], 2047)], 16376) | _, _ => ([], 0)
  call := fun g args => match g with | 204 => z51.pack args | 176 => z64.pack args | _ => none
def z65.dec : V → Option ((List Int) × Bool × (List Int))
  | (.agg [(.ints _ .u64 x0), (.bool x1), (.ints _ .u64 x2)]) => some (x0, x1, x2)
  | _ => none
theorem z65.link (a0 : List Int) (a1 : Bool) (a2 : Int) : z65.C.evTop 123 (ifun Tryz.f123) [(.agg [(.ints false .u64 a0), (.bool a1), (.int .i64 a2)])] z65.dec = z65.F a0 a1 a2 := by kernel_rfl
def z70.C : Ctx where
  T := tab
def z70.dec : V → Option ((List (List UInt8)))
  | (.strs _ x0) => some x0
  | _ => none
theorem z70.link  : z70.C.evTop 137 (ifun Tryz.f137) [] z70.dec = z70.F  := by kernel_rfl
def z75.C : Ctx where
  T := tab
def z75.dec : V → Option (Bool)
  | (.bool x0) => some x0
  | _ => none
theorem z75.link (a0 : Int) : z75.C.evTop 228 (ifun Tryz.f228) [(.int .i64 a0)] z75.dec = z75.F a0 := by kernel_rfl
def z78.C : Ctx where
  T := tab
  call := fun g args => match g with | 47 => z71.pack args | 209 => z77.pack args | 149 => z74.pack args | _ => none
def z78.dec : V → Option (Bool)
  | (.bool x0) => some x0
  | _ => none
theorem z78.link (a0 : List UInt8) (a1 : List UInt8) (a2 : Int) (a3 : Int) (a4 : Int) (a5 : Int) (a6 : Int) (a7 : Int) (a8 : Int) (a9 : Int) : z78.C.evTop 133 (ifun Tryz.f133) [(.agg [(.str a0), (.str a1), (.int .i64 a2), (.int .i64 a3), (.int .i64 a4), (.int .i64 a5), (.int .i64 a6), (.int .i64 a7), (.int .i64 a8), (.int .i64 a9)])] z78.dec = z78.F a0 a1 a2 a3 a4 a5 a6 a7 a8 a9 := by kernel_rfl
def z79.C : Ctx where
  T := tab
def z79.dec : V → Option (Bool)
  | (.bool x0) => some x0
  | _ => none
theorem z79.link (a0 : Int) : z79.C.evTop 258 (ifun Tryz.f258) [(.int .i64 a0)] z79.dec = z79.F a0 := by kernel_rfl
def z83.C : Ctx where
  T := tab
  draws := fun f i => match f, i with | 134, 10 => ([(48, [(8, 0)], 0), (49, [(47, 1)], 1), (50, [(8, 0)], 0), (51, [(49, 3)], 4), (52, [(8, 0)], 0), (53, [(51, 5)], 16), (54, [(50, 4), (52, 6)], 60), (55, [(48, 2), (53, 7)], 127), (56, [(8, 0)], 255), (0, [(55, 9), (54, 8)], 511)], 71916856549572608) | _, _ => ([], 0)
  call := fun g args => match g with | 142 => z82.pack args | 210 => z81.pack args | _ => none
def z83.dec : V → Option (Int × Int × Int × Int)
  | (.tup [(.agg [(.int .i64 x0), (.int .i64 x1), (.int .i64 x2)]), (.int .i64 x3)]) => some (x0, x1, x2, x3)
  | _ => none
theorem z83.link (a0 : Int) (a1 : Int) (a2 : Int) (a3 : Int) : z83.C.evTop 134 (ifun Tryz.f134) [(.agg [(.int .i64 a0), (.int .i64 a1), (.int .i64 a2)]), (.int .i64 a3)] z83.dec = z83.F a0 a1 a2 a3 := by kernel_rfl
def z87.l0b4sh : Env × Store := ((.str ([] : List UInt8)) :: .undef :: (.bool false) :: (.int .i64 (0 : Int)) :: un 29 [], [])
def z87.l0b4so1 : Env × Store := (.undef :: .undef :: (.bool false) :: un 30 [], [])
def z87.l0b4out0 (s5001 : List UInt8) (t5002 : Bool) (i5003 : Int) (o : Int) : X × Env × Store := ((.exit 0), fillSt z87.l0b4sh [.s s5001, .b t5002, .i o])
def z87.l0b4out1 (s5001 : List UInt8) (t5002 : Bool) (i5003 : Int) (o : Bool) : X × Env × Store := (.ret, fillSt z87.l0b4so1 [.b o])
def z87.l0b4pack : List Leaf → Option LPack
  | [.s s5001, .b t5002, .i i5003] => some (.two _ _ (z87.l0b4 s5001 i5003) (z87.l0b4out0 s5001 t5002 i5003) (z87.l0b4out1 s5001 t5002 i5003))
  | _ => none
def z87.C : Ctx where
  T := tab
  keep := fun f i => match f, i with | 196, 0 => ([0, 2, 3], [], []) | _, _ => ([], [], [])
  keepE := fun f i => match f, i with | 196, 0 => ([0, 2, 3], [], []) | _, _ => ([], [], [])
  keepR := fun f i => match f, i with | 196, 0 => ([2], [], [2]) | _, _ => ([], [], [])
  L := fun f i b st => match f, i, b with | 196, 0, 0 => (matchSt z87.l0b4sh st).bind z87.l0b4pack | _, _, _ => none
def z87.dec : V → Option (Bool)
  | (.bool x0) => some x0
  | _ => none
theorem z87.l0b4_link (R : Type) (k : Env × Store → Option R) (d : X × Env × Store → Option R) (s5001 : List UInt8) (t5002 : Bool) (i5003 : Int) :
    z87.C.loopP 196 0 (loopAt 0 (ifun Tryz.f196).body) 0 k d (fillSt z87.l0b4sh [.s s5001, .b t5002, .i i5003]) =
    z87.l0b4P s5001 (fun x' => k (fillSt z87.l0b4sh [.s s5001, .b t5002, .i x'])) (fun o => match o with | .inl o => d (z87.l0b4out0 s5001 t5002 i5003 o) | .inr o => d (z87.l0b4out1 s5001 t5002 i5003 o)) i5003 := by kernel_rfl
theorem z87.link (a0 : List UInt8) : z87.C.evTop 196 (ifun Tryz.f196) [(.str a0)] z87.dec = z87.F a0 := by kernel_rfl
def z89.l0sh : Env × Store := ((.int .i64 (0 : Int)) :: .undef :: (.sref 0 0) :: (.str ([] : List UInt8)) :: (.int .i64 (0 : Int)) :: un 9 [], [(.arr 0 true 3 (.ints false .i64 []))])
def z89.l0out0 (times1001 : Int) (s1002 : List UInt8) (i1003 : Int) (s1004 : List Int) (o : (List UInt8) × Int) : X × Env × Store := ((.exit 0), fillSt z89.l0sh [.i times1001, .s o.1, .i o.2, .li s1004])
def z89.l0pack : List Leaf → Option LPack
  | [.i times1001, .s s1002, .i i1003, .li s1004] => some (.one _ (z89.l0 times1001 (s1002, i1003)) (z89.l0out0 times1001 s1002 i1003 s1004))
  | _ => none
def z89.C : Ctx where
  T := tab
  call := fun g args => match g with | 192 => z85.pack args | _ => none
  keep := fun f i => match f, i with | 116, 0 => ([0, 2, 3, 4], [0], []) | _, _ => ([], [], [])
  keepE := fun f i => match f, i with | 116, 0 => ([0, 2, 3, 4], [0], []) | _, _ => ([], [], [])
  keepR := fun f i => match f, i with | 116, 0 => ([2], [0], [2]) | _, _ => ([], [], [])
  L := fun f i b st => match f, i, b with | 116, 0, 0 => (matchSt z89.l0sh st).bind z89.l0pack | _, _, _ => none
def z89.dec : V → Option ((List Int))
  | (.ints _ .i64 x0) => some x0
  | _ => none
theorem z89.l0_link (R : Type) (k : Env × Store → Option R) (d : X × Env × Store → Option R) (times1001 : Int) (s1002 : List UInt8) (i1003 : Int) (s1004 : List Int) :
    z89.C.loopP 116 0 (loopAt 0 (ifun Tryz.f116).body) 1 k d (fillSt z89.l0sh [.i times1001, .s s1002, .i i1003, .li s1004]) =
    z89.l0P times1001 (fun x' => k (fillSt z89.l0sh [.i times1001, .s x'.1, .i x'.2, .li s1004])) (fun o => d (z89.l0out0 times1001 s1002 i1003 s1004 o)) (s1002, i1003) := by kernel_rfl
theorem z89.link (a0 : Int) : z89.C.evTop 116 (ifun Tryz.f116) [(.int .i64 a0)] z89.dec = z89.F a0 := by kernel_rfl
def z93.l0sh : Env × Store := ((.ints false .i64 []) :: (.ints false .i64 []) :: .undef :: .undef :: (.sref 0 0) :: (.sref 1 0) :: (.int .i64 (0 : Int)) :: (.int .i64 (0 : Int)) :: un 29 [], [(.arr 0 true 3 (.ints false .i64 [])), (.arr 0 true 3 (.ints false .i64 []))])
def z93.l0out0 (a1001 : List Int) (b1002 : List Int) (borrow1003 : Int) (i1004 : Int) (s1005 : List Int) (s1006 : List Int) (o : Int × Int × (List Int)) : X × Env × Store := ((.exit 0), fillSt z93.l0sh [.li a1001, .li b1002, .i o.1, .i o.2.1, .li s1005, .li o.2.2])
def z93.l0pack : List Leaf → Option LPack
  | [.li a1001, .li b1002, .i borrow1003, .i i1004, .li s1005, .li s1006] => some (.one _ (z93.l0 a1001 b1002 (borrow1003, i1004, s1006)) (z93.l0out0 a1001 b1002 borrow1003 i1004 s1005 s1006))
  | _ => none
def z93.C : Ctx where
  T := tab
  call := fun g args => match g with | 234 => z11.pack args | 235 => z12.pack args | _ => none
  keep := fun f i => match f, i with | 172, 0 => ([0, 1, 4, 5, 6, 7], [0, 1], []) | _, _ => ([], [], [])
  keepE := fun f i => match f, i with | 172, 0 => ([0, 1, 4, 5, 6, 7], [0, 1], []) | _, _ => ([], [], [])
  keepR := fun f i => match f, i with | 172, 0 => ([4], [0, 1], [4]) | _, _ => ([], [], [])
  L := fun f i b st => match f, i, b with | 172, 0, 0 => (matchSt z93.l0sh st).bind z93.l0pack | _, _, _ => none
def z93.dec : V → Option ((List Int))
  | (.ints _ .i64 x0) => some x0
  | _ => none
theorem z93.l0_link (R : Type) (k : Env × Store → Option R) (d : X × Env × Store → Option R) (a1001 : List Int) (b1002 : List Int) (borrow1003 : Int) (i1004 : Int) (s1005 : List Int) (s1006 : List Int) :
    z93.C.loopP 172 0 (loopAt 0 (ifun Tryz.f172).body) 2 k d (fillSt z93.l0sh [.li a1001, .li b1002, .i borrow1003, .i i1004, .li s1005, .li s1006]) =
    z93.l0P a1001 b1002 (fun x' => k (fillSt z93.l0sh [.li a1001, .li b1002, .i x'.1, .i x'.2.1, .li s1005, .li x'.2.2])) (fun o => d (z93.l0out0 a1001 b1002 borrow1003 i1004 s1005 s1006 o)) (borrow1003, i1004, s1006) := by kernel_rfl
theorem z93.link (a0 : List Int) (a1 : List Int) : z93.C.evTop 172 (ifun Tryz.f172) [(.ints false .i64 a0), (.ints false .i64 a1)] z93.dec = z93.F a0 a1 := by kernel_rfl
def z96.C : Ctx where
  T := tab
def z96.dec : V → Option (Int)
  | (.int .i64 x0) => some x0
  | _ => none
theorem z96.link (a0 : List Int) (a1 : Bool) : z96.C.evTop 197 (ifun Tryz.f197) [(.agg [(.ints false .i64 a0), (.bool a1)])] z96.dec = z96.F a0 a1 := by kernel_rfl
def z97.C : Ctx where
  T := tab
  call := fun g args => match g with | 63 => z95.pack args | 197 => z96.pack args | _ => none
def z97.dec : V → Option (Int)
  | (.int .i64 x0) => some x0
  | _ => none
theorem z97.link (a0 : List Int) (a1 : Bool) (a2 : List Int) (a3 : Bool) : z97.C.evTop 117 (ifun Tryz.f117) [(.agg [(.ints false .i64 a0), (.bool a1)]), (.agg [(.ints false .i64 a2), (.bool a3)])] z97.dec = z97.F a0 a1 a2 a3 := by kernel_rfl
def z98.C : Ctx where
  T := tab
  call := fun g args => match g with | 60 => z10.pack args | 115 => z88.pack args | 116 => z89.pack args | 113 => z8.pack args | 117 => z97.pack args | _ => none
def z98.dec : V → Option ((List Int) × Bool × Int)
  | (.tup [(.agg [(.ints _ .i64 x0), (.bool x1)]), (.int .i64 x2)]) => some (x0, x1, x2)
  | _ => none
theorem z98.link (a0 : List UInt8) : z98.C.evTop 37 (ifun Tryz.f37) [(.str a0)] z98.dec = z98.F a0 := by kernel_rfl
def z105.C : Ctx where
  T := tab
  call := fun g args => match g with | 116 => z89.pack args | 206 => z101.pack args | _ => none
def z105.dec : V → Option ((List Int) × Bool × (List Int))
  | (.agg [(.ints _ .i64 x0), (.bool x1), (.ints _ .i64 x2)]) => some (x0, x1, x2)
  | _ => none
theorem z105.link (a0 : List Int) (a1 : Bool) (a2 : Int) : z105.C.evTop 127 (ifun Tryz.f127) [(.agg [(.ints false .i64 a0), (.bool a1), (.int .i64 a2)])] z105.dec = z105.F a0 a1 a2 := by kernel_rfl
def z115.C : Ctx where
  T := tab
  call := fun g args => match g with | 137 => z70.pack args | 136 => z114.pack args | _ => none
def z115.dec : V → Option (Int × Bool)
  | (.tup [(.int .i64 x0), (.bool x1)]) => some (x0, x1)
  | _ => none
theorem z115.link (a0 : List UInt8) : z115.C.evTop 46 (ifun Tryz.f46) [(.str a0)] z115.dec = z115.F a0 := by kernel_rfl
def z118.C : Ctx where
  T := tab
  draws := fun f i => match f, i with | 5, 6 => ([(37, [], 0), (38, [(36, 1)], 1), (39, [(4, 0), (37, 2)], 3), (40, [(6, 0), (37, 2)], 3), (41, [(38, 3), (39, 4), (37, 2)], 15), (42, [(37, 2), (40, 5)], 31), (43, [(41, 6)], 63), (44, [(3, 0), (42, 7)], 127), (45, [(43, 8), (42, 7)], 255), (46, [(5, 0), (42, 7)], 127), (47, [(45, 10), (42, 7)], 1023), (48, [(44, 9), (46, 11), (42, 7)], 2047), (49, [(42, 7), (47, 12)], 4095), (50, [(48, 13)], 8191), (51, [(8, 0), (49, 14)], 16383), (52, [(10, 0), (49, 14)], 16383), (53, [(50, 15), (51, 16), (49, 14)], 65535), (54, [(49, 14), (52, 17)], 131071), (55, [(53, 18)], 262143), (56, [(7, 0), (54, 19)], 524287), (57, [(55, 20), (54, 19)], 1048575), (58, [(9, 0), (54, 19)], 524287), (59, [(57, 22), (54, 19)], 4194303), (60, [(56, 21), (58, 23), (54, 19)], 8388607), (61, [(54, 19), (59, 24)], 16777215), (3, [(60, 25)], 33554431)], 2305842940494217220) | _, _ => ([], 0)
  call := fun g args => match g with | 36 => z42.pack args | 37 => z98.pack args | 38 => z69.pack args | 39 => z109.pack args | 40 => z116.pack args | 25 => z112.pack args | 26 => z7.pack args | 41 => z113.pack args | 42 => z117.pack args | _ => none
def z118.dec : V → Option (Bool)
  | (.bool x0) => some x0
  | _ => none
theorem z118.link (a0 : List UInt8) : z118.C.evTop 5 (ifun Tryz.f5) [(.str a0)] z118.dec = z118.F a0 := by kernel_rfl
end
end Go.Proofs.YtgjncgiekniniaaGreatDoor.A
end
section
set_option linter.unusedVariables false
set_option linter.unusedSimpArgs false
set_option maxRecDepth 100000
namespace Go.Proofs.YtgjncgiekniniaaGreatDoor.A
open Go
noncomputable section
def z8.C : Ctx where
  T := tab
def z8.dec : V → Option ((List Int) × Bool)
  | (.agg [(.ints _ .i64 x0), (.bool x1)]) => some (x0, x1)
  | _ => none
theorem z8.link (a0 : List Int) (a1 : Bool) : z8.C.evTop 113 (ifun Tryz.f113) [(.ints false .i64 a0), (.bool a1)] z8.dec = z8.F a0 a1 := by kernel_rfl
def z11.C : Ctx where
  T := tab
def z11.dec : V → Option (Int)
  | (.int .i64 x0) => some x0
  | _ => none
theorem z11.link (a0 : List Int) (a1 : Int) : z11.C.evTop 234 (ifun Tryz.f234) [(.ints false .i64 a0), (.int .i64 a1)] z11.dec = z11.F a0 a1 := by kernel_rfl
def z12.l0b6sh : Env × Store := ((.ints false .i64 []) :: .undef :: (.sref 0 0) :: (.int .i64 (0 : Int)) :: un 17 [], [(.arr 0 true 3 (.ints false .i64 []))])
def z12.l0b6out0 (a7001 : List Int) (n7002 : Int) (s7003 : List Int) (o : Int) : X × Env × Store := ((.exit 0), fillSt z12.l0b6sh [.li a7001, .i o, .li s7003])
def z12.l0b6pack : List Leaf → Option LPack
  | [.li a7001, .i n7002, .li s7003] => some (.one _ (z12.l0b6 a7001 n7002) (z12.l0b6out0 a7001 n7002 s7003))
  | _ => none
def z12.C : Ctx where
  T := tab
  keep := fun f i => match f, i with | 235, 0 => ([0, 2, 3], [0], []) | _, _ => ([], [], [])
  keepE := fun f i => match f, i with | 235, 0 => ([0, 2, 3], [0], []) | _, _ => ([], [], [])
  keepR := fun f i => match f, i with | 235, 0 => ([2], [0], [2]) | _, _ => ([], [], [])
  L := fun f i b st => match f, i, b with | 235, 0, 0 => (matchSt z12.l0b6sh st).bind z12.l0b6pack | _, _, _ => none
def z12.dec : V → Option ((List Int))
  | (.ints _ .i64 x0) => some x0
  | _ => none
theorem z12.l0b6_link (R : Type) (k : Env × Store → Option R) (d : X × Env × Store → Option R) (a7001 : List Int) (n7002 : Int) (s7003 : List Int) :
    z12.C.loopP 235 0 (loopAt 0 (ifun Tryz.f235).body) 1 k d (fillSt z12.l0b6sh [.li a7001, .i n7002, .li s7003]) =
    z12.l0b6P a7001 (fun x' => k (fillSt z12.l0b6sh [.li a7001, .i x', .li s7003])) (fun o => d (z12.l0b6out0 a7001 n7002 s7003 o)) n7002 := by kernel_rfl
theorem z12.link (a0 : List Int) : z12.C.evTop 235 (ifun Tryz.f235) [(.ints false .i64 a0)] z12.dec = z12.F a0 := by kernel_rfl
def z15.C : Ctx where
  T := tab
def z15.dec : V → Option (Bool)
  | (.bool x0) => some x0
  | _ => none
theorem z15.link (a0 : List Int) : z15.C.evTop 104 (ifun Tryz.f104) [(.agg [(.ints false .u64 a0)])] z15.dec = z15.F a0 := by kernel_rfl
def z23.C : Ctx where
  T := tab
def z23.dec : V → Option (Bool)
  | (.bool x0) => some x0
  | _ => none
theorem z23.link (a0 : Int) : z23.C.evTop 273 (ifun Tryz.f273) [(.int .u64 a0)] z23.dec = z23.F a0 := by kernel_rfl
def z32.C : Ctx where
  T := tab
  call := fun g args => match g with | 260 => z31.pack args | _ => none
def z32.dec : V → Option ((List UInt8) × Bool)
  | (.tup [(.str x0), (.bool x1)]) => some (x0, x1)
  | _ => none
theorem z32.link (a0 : List UInt8) (a1 : List UInt8) : z32.C.evTop 223 (ifun Tryz.f223) [(.str a0), (.str a1)] z32.dec = z32.F a0 a1 := by kernel_rfl
def z33.C : Ctx where
  T := tab
  call := fun g args => match g with | 223 => z32.pack args | _ => none
def z33.dec : V → Option ((List UInt8) × Bool)
  | (.tup [(.str x0), (.bool x1)]) => some (x0, x1)
  | _ => none
theorem z33.link (a0 : List UInt8) (a1 : List UInt8) : z33.C.evTop 160 (ifun Tryz.f160) [(.str a0), (.str a1)] z33.dec = z33.F a0 a1 := by kernel_rfl
def z41.C : Ctx where
  T := tab
  call := fun g args => match g with | 195 => z40.pack args | 91 => z17.pack args | _ => none
def z41.dec : V → Option ((List Int) × Bool)
  | (.agg [(.ints _ .u64 x0), (.bool x1)]) => some (x0, x1)
  | _ => none
theorem z41.link  : z41.C.evTop 114 (ifun Tryz.f114) [] z41.dec = z41.F  := by kernel_rfl
def z45.C : Ctx where
  T := tab
  call := fun g args => match g with | 200 => z3.pack args | _ => none
def z45.dec : V → Option (Bool)
  | (.bool x0) => some x0
  | _ => none
theorem z45.link (a0 : List UInt8) : z45.C.evTop 199 (ifun Tryz.f199) [(.str a0)] z45.dec = z45.F a0 := by kernel_rfl
def z47.C : Ctx where
  T := tab
def z47.dec : V → Option (Bool)
  | (.bool x0) => some x0
  | _ => none
theorem z47.link (a0 : Int) : z47.C.evTop 202 (ifun Tryz.f202) [(.int .i64 a0)] z47.dec = z47.F a0 := by kernel_rfl
def z51.C : Ctx where
  T := tab
  call := fun g args => match g with | 195 => z40.pack args | 91 => z17.pack args | _ => none
def z51.dec : V → Option ((List Int) × Bool)
  | (.agg [(.ints _ .u64 x0), (.bool x1)]) => some (x0, x1)
  | _ => none
theorem z51.link (a0 : Int) : z51.C.evTop 204 (ifun Tryz.f204) [(.int .i64 a0)] z51.dec = z51.F a0 := by kernel_rfl
def z56.C : Ctx where
  T := tab
  prim := fun g => match g with | 222 => some (cloneP (.ints true .u64 []) 79 8) | _ => none
def z56.dec : V → Option ((List Int))
  | (.ints _ .u64 x0) => some x0
  | _ => none
theorem z56.link (a0 : List Int) : z56.C.evTop 188 (ifun Tryz.f188) [(.agg [(.ints false .u64 a0)])] z56.dec = z56.F a0 := by kernel_rfl
def z64.C : Ctx where
  T := tab
  draws := fun f i => match f, i with | 176, 6 => ([(16, [(2, 0)], 0), (17, [(3, 0)], 0), (18, [(16, 2)], 2), (19, [(15, 1), (17, 3)], 7), (0, [(4, 0), (18, 4)], 15), (6, [], 31)], 491552) | _, _ => ([], 0)
  call := fun g args => match g with | 28 => z16.pack args | 110 => z28.pack args | 92 => z55.pack args | 163 => z63.pack args | _ => none
def z64.dec : V → Option ((List Int) × Bool × (List Int) × Int)
  | (.tup [(.agg [(.ints _ .u64 x0), (.bool x1), (.ints _ .u64 x2)]), (.int .i64 x3)]) => some (x0, x1, x2, x3)
  | _ => none
theorem z64.link (a0 : List Int) (a1 : Bool) (a2 : List Int) (a3 : Bool) : z64.C.evTop 176 (ifun Tryz.f176) [(.agg [(.ints false .u64 a0), (.bool a1)]), (.agg [(.ints false .u64 a2), (.bool a3)])] z64.dec = z64.F a0 a1 a2 a3 := by kernel_rfl
def z68.C : Ctx where
  T := tab
  draws := fun f i => match f, i with | 124, 1 => ([(7, [(2, 0)], 0), (8, [(6, 1)], 1), (9, [(3, 0)], 0), (10, [(8, 3)], 4), (11, [(7, 2), (9, 4)], 15), (12, [(2, 0)], 0), (13, [(11, 6)], 63), (14, [(3, 0)], 0), (15, [(13, 8)], 128), (16, [(12, 7), (14, 9)], 511), (17, [(10, 5), (15, 10)], 1023), (18, [(16, 11)], 2047), (19, [(16, 11)], 2047), (0, [(4, 0), (17, 12)], 8191), (6, [(18, 13)], 16383)], 524256) | _, _ => ([], 0)
  call := fun g args => match g with | 157 => z67.pack args | 156 => z50.pack args | 176 => z64.pack args | _ => none
def z68.dec : V → Option ((List Int) × Bool × (List Int) × Int)
  | (.tup [(.agg [(.ints _ .u64 x0), (.bool x1), (.ints _ .u64 x2)]), (.int .i64 x3)]) => some (x0, x1, x2, x3)
  | _ => none
theorem z68.link (a0 : List Int) (a1 : Bool) (a2 : List Int) (a3 : List Int) (a4 : Bool) (a5 : List Int) : z68.C.evTop 124 (ifun Tryz.f124) [(.agg [(.ints false .u64 a0), (.bool a1), (.ints false .u64 a2)]), (.agg [(.ints false .u64 a3), (.bool a4), (.ints false .u64 a5)])] z68.dec = z68.F a0 a1 a2 a3 a4 a5 := by kernel_rfl
def z77.C : Ctx where
  T := tab
  call := fun g args => match g with | 228 => z75.pack args | 257 => z76.pack args | _ => none
def z77.dec : V → Option ((List UInt8))
  | (.str x0) => some x0
  | _ => none
theorem z77.link (a0 : Int) : z77.C.evTop 209 (ifun Tryz.f209) [(.int .i64 a0)] z77.dec = z77.F a0 := by kernel_rfl
def z82.C : Ctx where
  T := tab
  draws := fun f i => match f, i with | 142, 1 => ([(4, [(1, 0)], 0), (5, [(3, 1)], 1), (6, [(4, 2)], 3), (7, [(5, 3)], 7), (8, [(1, 0), (6, 4)], 15), (9, [(7, 5), (6, 4)], 31), (10, [(1, 0), (6, 4)], 15), (11, [(9, 7), (6, 4)], 79), (12, [(1, 0), (6, 4)], 15), (13, [(11, 9), (6, 4)], 271), (14, [(10, 8), (12, 10), (6, 4)], 975), (15, [(8, 6), (13, 11), (6, 4)], 2047), (16, [(6, 4), (14, 12)], 4095)], 65528) | _, _ => ([], 0)
  call := fun g args => match g with | 210 => z81.pack args | _ => none
def z82.dec : V → Option (Int)
  | (.int .i64 x0) => some x0
  | _ => none
theorem z82.link (a0 : Int) (a1 : Int) (a2 : Int) : z82.C.evTop 142 (ifun Tryz.f142) [(.agg [(.int .i64 a0), (.int .i64 a1), (.int .i64 a2)])] z82.dec = z82.F a0 a1 a2 := by kernel_rfl
def z84.C : Ctx where
  T := tab
  call := fun g args => match g with | 36 => z42.pack args | 28 => z16.pack args | 38 => z69.pack args | 133 => z78.pack args | 134 => z83.pack args | _ => none
def z84.dec : V → Option (Int)
  | (.int .i64 x0) => some x0
  | _ => none
theorem z84.link (a0 : List UInt8) (a1 : List UInt8) (a2 : Int) (a3 : Int) (a4 : Int) (a5 : Int) (a6 : Int) (a7 : Int) (a8 : Int) (a9 : Int) : z84.C.evTop 44 (ifun Tryz.f44) [(.agg [(.str a0), (.str a1), (.int .i64 a2), (.int .i64 a3), (.int .i64 a4), (.int .i64 a5), (.int .i64 a6), (.int .i64 a7), (.int .i64 a8), (.int .i64 a9)])] z84.dec = z84.F a0 a1 a2 a3 a4 a5 a6 a7 a8 a9 := by kernel_rfl
def z85.l2sh : Env × Store := ((.str ([] : List UInt8)) :: .undef :: (.sref 0 0) :: (.sref 1 0) :: (.int .i64 (0 : Int)) :: (.int .i64 (0 : Int)) :: (.int .i64 (0 : Int)) :: un 28 [], [(.arr 0 true 3 (.ints false .i64 [])), (.arr 0 true 3 (.ints false .i64 []))])
def z85.l2out0 (s2001 : List UInt8) (end2002 : Int) (d2003 : Int) (i2004 : Int) (s2005 : List Int) (s2006 : List Int) (o : Int × Int) : X × Env × Store := ((.exit 2), fillSt z85.l2sh [.s s2001, .i end2002, .i o.1, .i o.2, .li s2005, .li s2006])
def z85.l2pack : List Leaf → Option LPack
  | [.s s2001, .i end2002, .i d2003, .i i2004, .li s2005, .li s2006] => some (.one _ (z85.l2 s2001 end2002 (d2003, i2004)) (z85.l2out0 s2001 end2002 d2003 i2004 s2005 s2006))
  | _ => none
def z85.l0sh : Env × Store := ((.str ([] : List UInt8)) :: .undef :: (.sref 0 0) :: (.sref 1 0) :: (.int .i64 (0 : Int)) :: un 30 [], [(.arr 0 true 3 (.ints false .i64 [])), (.arr 0 true 3 (.ints false .i64 []))])
def z85.l0out0 (s1001 : List UInt8) (end1002 : Int) (s1003 : List Int) (s1004 : List Int) (o : Int × (List Int)) : X × Env × Store := ((.exit 0), fillSt z85.l0sh [.s s1001, .i o.1, .li s1003, .li o.2])
def z85.l0pack : List Leaf → Option LPack
  | [.s s1001, .i end1002, .li s1003, .li s1004] => some (.one _ (z85.l0 s1001 (end1002, s1004)) (z85.l0out0 s1001 end1002 s1003 s1004))
  | _ => none
def z85.C : Ctx where
  T := tab
  call := fun g args => match g with | 235 => z12.pack args | _ => none
  keep := fun f i => match f, i with | 192, 2 => ([0, 2, 3, 4, 5, 6], [0, 1], []) | 192, 0 => ([0, 2, 3, 4], [0, 1], []) | _, _ => ([], [], [])
  keepE := fun f i => match f, i with | 192, 2 => ([0, 2, 3, 4, 5, 6], [0, 1], []) | 192, 0 => ([0, 2, 3, 4], [0, 1], []) | _, _ => ([], [], [])
  keepR := fun f i => match f, i with | 192, 2 => ([2], [0, 1], [2]) | 192, 0 => ([2], [0, 1], [2]) | _, _ => ([], [], [])
  L := fun f i b st => match f, i, b with | 192, 2, 0 => (matchSt z85.l2sh st).bind z85.l2pack | 192, 0, 0 => (matchSt z85.l0sh st).bind z85.l0pack | _, _, _ => none
def z85.dec : V → Option ((List Int))
  | (.ints _ .i64 x0) => some x0
  | _ => none
theorem z85.l2_link (R : Type) (k : Env × Store → Option R) (d : X × Env × Store → Option R) (s2001 : List UInt8) (end2002 : Int) (d2003 : Int) (i2004 : Int) (s2005 : List Int) (s2006 : List Int) :
    z85.C.loopP 192 2 (loopAt 2 (ifun Tryz.f192).body) 2 k d (fillSt z85.l2sh [.s s2001, .i end2002, .i d2003, .i i2004, .li s2005, .li s2006]) =
    z85.l2P s2001 end2002 (fun x' => k (fillSt z85.l2sh [.s s2001, .i end2002, .i x'.1, .i x'.2, .li s2005, .li s2006])) (fun o => d (z85.l2out0 s2001 end2002 d2003 i2004 s2005 s2006 o)) (d2003, i2004) := by kernel_rfl
theorem z85.l0_link (R : Type) (k : Env × Store → Option R) (d : X × Env × Store → Option R) (s1001 : List UInt8) (end1002 : Int) (s1003 : List Int) (s1004 : List Int) :
    z85.C.loopP 192 0 (loopAt 0 (ifun Tryz.f192).body) 2 k d (fillSt z85.l0sh [.s s1001, .i end1002, .li s1003, .li s1004]) =
    z85.l0P s1001 (fun x' => k (fillSt z85.l0sh [.s s1001, .i x'.1, .li s1003, .li x'.2])) (fun o => d (z85.l0out0 s1001 end1002 s1003 s1004 o)) (end1002, s1004) := by kernel_rfl
theorem z85.link (a0 : List UInt8) : z85.C.evTop 192 (ifun Tryz.f192) [(.str a0)] z85.dec = z85.F a0 := by kernel_rfl
def z86.C : Ctx where
  T := tab
  call := fun g args => match g with | 192 => z85.pack args | 113 => z8.pack args | _ => none
def z86.dec : V → Option ((List Int) × Bool)
  | (.agg [(.ints _ .i64 x0), (.bool x1)]) => some (x0, x1)
  | _ => none
theorem z86.link (a0 : List UInt8) : z86.C.evTop 103 (ifun Tryz.f103) [(.str a0)] z86.dec = z86.F a0 := by kernel_rfl
def z88.C : Ctx where
  T := tab
  call := fun g args => match g with | 60 => z10.pack args | 196 => z87.pack args | 103 => z86.pack args | _ => none
def z88.dec : V → Option ((List Int) × Bool × Int)
  | (.tup [(.agg [(.ints _ .i64 x0), (.bool x1)]), (.int .i64 x2)]) => some (x0, x1, x2)
  | _ => none
theorem z88.link (a0 : List UInt8) : z88.C.evTop 115 (ifun Tryz.f115) [(.str a0)] z88.dec = z88.F a0 := by kernel_rfl
def z92.l0sh : Env × Store := ((.ints false .i64 []) :: (.ints false .i64 []) :: .undef :: .undef :: (.int .i64 (0 : Int)) :: (.int .i64 (0 : Int)) :: un 35 [], [])
def z92.l0so1 : Env × Store := (un 4 ((.int .i64 (0 : Int)) :: un 36 []), [])
def z92.l0out0 (a1001 : List Int) (b1002 : List Int) (t1003 : Int) (i1004 : Int) (o : Int) : X × Env × Store := ((.exit 0), fillSt z92.l0sh [.li a1001, .li b1002, .i t1003, .i o])
def z92.l0out1 (a1001 : List Int) (b1002 : List Int) (t1003 : Int) (i1004 : Int) (o : Int) : X × Env × Store := (.ret, fillSt z92.l0so1 [.i o])
def z92.l0pack : List Leaf → Option LPack
  | [.li a1001, .li b1002, .i t1003, .i i1004] => some (.two _ _ (z92.l0 a1001 b1002 i1004) (z92.l0out0 a1001 b1002 t1003 i1004) (z92.l0out1 a1001 b1002 t1003 i1004))
  | _ => none
def z92.C : Ctx where
  T := tab
  draws := fun f i => match f, i with | 171, 8 => ([(24, [(0, 0)], 0), (25, [(5, 0)], 0), (26, [(23, 1), (24, 2)], 3), (27, [(25, 3)], 7), (28, [(1, 0)], 0), (29, [(5, 0)], 0), (30, [(27, 5), (28, 6)], 48), (31, [(29, 7)], 112), (32, [(26, 4), (30, 8)], 255)], 4286578688) | 171, 10 => ([(33, [(0, 0)], 0), (34, [(5, 0)], 0), (35, [(32, 1), (33, 2)], 3), (36, [(34, 3)], 7), (37, [(1, 0)], 0), (38, [(5, 0)], 0), (39, [(36, 5), (37, 6)], 48), (40, [(38, 7)], 112), (41, [(35, 4), (39, 8)], 255)], 2194728288256) | _, _ => ([], 0)
  keep := fun f i => match f, i with | 171, 0 => ([0, 1, 4, 5], [], []) | _, _ => ([], [], [])
  keepE := fun f i => match f, i with | 171, 0 => ([0, 1, 4, 5], [], []) | _, _ => ([], [], [])
  keepR := fun f i => match f, i with | 171, 0 => ([4], [], [4]) | _, _ => ([], [], [])
  L := fun f i b st => match f, i, b with | 171, 0, 0 => (matchSt z92.l0sh st).bind z92.l0pack | _, _, _ => none
def z92.dec : V → Option (Int)
  | (.int .i64 x0) => some x0
  | _ => none
theorem z92.l0_link (R : Type) (k : Env × Store → Option R) (d : X × Env × Store → Option R) (a1001 : List Int) (b1002 : List Int) (t1003 : Int) (i1004 : Int) :
    z92.C.loopP 171 0 (loopAt 0 (ifun Tryz.f171).body) 0 k d (fillSt z92.l0sh [.li a1001, .li b1002, .i t1003, .i i1004]) =
    z92.l0P a1001 b1002 (fun x' => k (fillSt z92.l0sh [.li a1001, .li b1002, .i t1003, .i x'])) (fun o => match o with | .inl o => d (z92.l0out0 a1001 b1002 t1003 i1004 o) | .inr o => d (z92.l0out1 a1001 b1002 t1003 i1004 o)) i1004 := by kernel_rfl
theorem z92.link (a0 : List Int) (a1 : List Int) : z92.C.evTop 171 (ifun Tryz.f171) [(.ints false .i64 a0), (.ints false .i64 a1)] z92.dec = z92.F a0 a1 := by kernel_rfl
def z99.l2sh : Env × Store := ((.ints false .i64 []) :: (.ints false .i64 []) :: .undef :: .undef :: (.sref 0 0) :: (.sref 1 0) :: (.sref 2 0) :: (.ints false .i64 []) :: (.int .i64 (0 : Int)) :: .undef :: (.int .i64 (0 : Int)) :: (.int .i64 (0 : Int)) :: un 61 [], [(.arr 0 true 3 (.ints false .i64 [])), (.arr 0 true 3 (.ints false .i64 [])), (.arr 0 false 3 (.ints false .i64 [])), .dead])
def z99.l2out0 (a2001 : List Int) (b2002 : List Int) (rest2003 : List Int) (i2004 : Int) (low2005 : Int) (high2006 : Int) (s2007 : List Int) (s2008 : List Int) (s2009 : List Int) (o : Int × Int) : X × Env × Store := ((.exit 2), fillSt z99.l2sh [.li a2001, .li b2002, .li rest2003, .i i2004, .i o.1, .i o.2, .li s2007, .li s2008, .li s2009])
def z99.l2pack : List Leaf → Option LPack
  | [.li a2001, .li b2002, .li rest2003, .i i2004, .i low2005, .i high2006, .li s2007, .li s2008, .li s2009] => some (.one _ (z99.l2 b2002 rest2003 (low2005, high2006)) (z99.l2out0 a2001 b2002 rest2003 i2004 low2005 high2006 s2007 s2008 s2009))
  | _ => none
def z99.l0ash : Env × Store := ((.ints false .i64 []) :: (.ints false .i64 []) :: .undef :: .undef :: (.sref 0 0) :: (.sref 1 0) :: (.sref 2 0) :: (.ints false .i64 []) :: (.int .i64 (0 : Int)) :: un 64 [], [(.arr 0 true 3 (.ints false .i64 [])), (.arr 0 true 3 (.ints false .i64 [])), (.arr 0 false 3 (.ints false .i64 [])), .dead])
def z99.l0aout0 (a3001 : List Int) (b3002 : List Int) (rest3003 : List Int) (i3004 : Int) (s3005 : List Int) (s3006 : List Int) (s3007 : List Int) (o : (List Int) × Int × (List Int)) : X × Env × Store := ((.exit 0), fillSt z99.l0ash [.li a3001, .li b3002, .li o.1, .i o.2.1, .li s3005, .li s3006, .li o.2.2])
def z99.l0apack : List Leaf → Option LPack
  | [.li a3001, .li b3002, .li rest3003, .i i3004, .li s3005, .li s3006, .li s3007] => some (.one _ (z99.l0a a3001 b3002 (rest3003, i3004, s3007)) (z99.l0aout0 a3001 b3002 rest3003 i3004 s3005 s3006 s3007))
  | _ => none
def z99.C : Ctx where
  T := tab
  call := fun g args => match g with | 235 => z12.pack args | 152 => z9.pack args | 208 => z13.pack args | 171 => z92.pack args | 172 => z93.pack args | _ => none
  keep := fun f i => match f, i with | 221, 2 => ([0, 1, 4, 5, 6, 7, 8, 10, 11], [0, 1, 2], []) | 221, 0 => ([0, 1, 4, 5, 6, 7, 8], [0, 1, 2], [7]) | _, _ => ([], [], [])
  keepE := fun f i => match f, i with | 221, 2 => ([0, 1, 4, 5, 6, 7, 8, 10, 11], [0, 1, 2], []) | 221, 0 => ([0, 1, 4, 5, 6, 7, 8], [0, 1, 2], [7]) | _, _ => ([], [], [])
  keepR := fun f i => match f, i with | 221, 2 => ([4, 5], [0, 1, 2], [4, 5]) | 221, 0 => ([4, 5], [0, 1, 2], [4, 5]) | _, _ => ([], [], [])
  L := fun f i b st => match f, i, b with | 221, 2, 0 => (matchSt z99.l2sh st).bind z99.l2pack | 221, 0, 0 => (matchSt z99.l0ash st).bind z99.l0apack | _, _, _ => none
def z99.dec : V → Option ((List Int) × (List Int))
  | (.tup [(.ints _ .i64 x0), (.ints _ .i64 x1)]) => some (x0, x1)
  | _ => none
theorem z99.l2_link (R : Type) (k : Env × Store → Option R) (d : X × Env × Store → Option R) (a2001 : List Int) (b2002 : List Int) (rest2003 : List Int) (i2004 : Int) (low2005 : Int) (high2006 : Int) (s2007 : List Int) (s2008 : List Int) (s2009 : List Int) :
    z99.C.loopP 221 2 (loopAt 2 (ifun Tryz.f221).body) 4 k d (fillSt z99.l2sh [.li a2001, .li b2002, .li rest2003, .i i2004, .i low2005, .i high2006, .li s2007, .li s2008, .li s2009]) =
    z99.l2P b2002 rest2003 (fun x' => k (fillSt z99.l2sh [.li a2001, .li b2002, .li rest2003, .i i2004, .i x'.1, .i x'.2, .li s2007, .li s2008, .li s2009])) (fun o => d (z99.l2out0 a2001 b2002 rest2003 i2004 low2005 high2006 s2007 s2008 s2009 o)) (low2005, high2006) := by kernel_rfl
theorem z99.l0a_link (R : Type) (k : Env × Store → Option R) (d : X × Env × Store → Option R) (a3001 : List Int) (b3002 : List Int) (rest3003 : List Int) (i3004 : Int) (s3005 : List Int) (s3006 : List Int) (s3007 : List Int) :
    z99.C.loopP 221 0 (loopAt 0 (ifun Tryz.f221).body) 4 k d (fillSt z99.l0ash [.li a3001, .li b3002, .li rest3003, .i i3004, .li s3005, .li s3006, .li s3007]) =
    z99.l0aP a3001 b3002 (fun x' => k (fillSt z99.l0ash [.li a3001, .li b3002, .li x'.1, .i x'.2.1, .li s3005, .li s3006, .li x'.2.2])) (fun o => d (z99.l0aout0 a3001 b3002 rest3003 i3004 s3005 s3006 s3007 o)) (rest3003, i3004, s3007) := by kernel_rfl
theorem z99.link (a0 : List Int) (a1 : List Int) : z99.C.evTop 221 (ifun Tryz.f221) [(.ints false .i64 a0), (.ints false .i64 a1)] z99.dec = z99.F a0 a1 := by kernel_rfl
def z100.l0sh : Env × Store := ((.ints false .i64 []) :: (.ints false .i64 []) :: .undef :: .undef :: (.sref 0 0) :: un 14 [], [(.arr 0 true 3 (.ints false .i64 []))])
def z100.l0out0 (a1001 : List Int) (b1002 : List Int) (s1003 : List Int) (o : (List Int) × (List Int)) : X × Env × Store := ((.exit 0), fillSt z100.l0sh [.li o.1, .li o.2, .li s1003])
def z100.l0pack : List Leaf → Option LPack
  | [.li a1001, .li b1002, .li s1003] => some (.one _ (z100.l0 (a1001, b1002)) (z100.l0out0 a1001 b1002 s1003))
  | _ => none
def z100.C : Ctx where
  T := tab
  call := fun g args => match g with | 221 => z99.pack args | _ => none
  keep := fun f i => match f, i with | 256, 0 => ([0, 1, 4], [0], []) | _, _ => ([], [], [])
  keepE := fun f i => match f, i with | 256, 0 => ([0, 1, 4], [0], []) | _, _ => ([], [], [])
  keepR := fun f i => match f, i with | 256, 0 => ([4], [0], [4]) | _, _ => ([], [], [])
  L := fun f i b st => match f, i, b with | 256, 0, 0 => (matchSt z100.l0sh st).bind z100.l0pack | _, _, _ => none
def z100.dec : V → Option ((List Int))
  | (.ints _ .i64 x0) => some x0
  | _ => none
theorem z100.l0_link (R : Type) (k : Env × Store → Option R) (d : X × Env × Store → Option R) (a1001 : List Int) (b1002 : List Int) (s1003 : List Int) :
    z100.C.loopP 256 0 (loopAt 0 (ifun Tryz.f256).body) 1 k d (fillSt z100.l0sh [.li a1001, .li b1002, .li s1003]) =
    z100.l0P  (fun x' => k (fillSt z100.l0sh [.li x'.1, .li x'.2, .li s1003])) (fun o => d (z100.l0out0 a1001 b1002 s1003 o)) (a1001, b1002) := by kernel_rfl
theorem z100.link (a0 : List Int) (a1 : List Int) : z100.C.evTop 256 (ifun Tryz.f256) [(.ints false .i64 a0), (.ints false .i64 a1)] z100.dec = z100.F a0 a1 := by kernel_rfl
def z101.C : Ctx where
  T := tab
  call := fun g args => match g with | 256 => z100.pack args | 221 => z99.pack args | 113 => z8.pack args | _ => none
def z101.dec : V → Option ((List Int) × Bool × (List Int))
  | (.agg [(.ints _ .i64 x0), (.bool x1), (.ints _ .i64 x2)]) => some (x0, x1, x2)
  | _ => none
theorem z101.link (a0 : List Int) (a1 : Bool) (a2 : List Int) : z101.C.evTop 206 (ifun Tryz.f206) [(.agg [(.ints false .i64 a0), (.bool a1)]), (.ints false .i64 a2)] z101.dec = z101.F a0 a1 a2 := by kernel_rfl
def z102.C : Ctx where
  T := tab
  call := fun g args => match g with | 35 => z90.pack args | 206 => z101.pack args | _ => none
def z102.dec : V → Option ((List Int) × Bool × (List Int))
  | (.agg [(.ints _ .i64 x0), (.bool x1), (.ints _ .i64 x2)]) => some (x0, x1, x2)
  | _ => none
theorem z102.link (a0 : List Int) (a1 : Bool) (a2 : List Int) (a3 : Bool) : z102.C.evTop 205 (ifun Tryz.f205) [(.agg [(.ints false .i64 a0), (.bool a1)]), (.agg [(.ints false .i64 a2), (.bool a3)])] z102.dec = z102.F a0 a1 a2 a3 := by kernel_rfl
def z103.C : Ctx where
  T := tab
  call := fun g args => match g with | 60 => z10.pack args | 205 => z102.pack args | _ => none
def z103.dec : V → Option ((List Int) × Bool × (List Int))
  | (.agg [(.ints _ .i64 x0), (.bool x1), (.ints _ .i64 x2)]) => some (x0, x1, x2)
  | _ => none
theorem z103.link (a0 : Int) (a1 : Int) : z103.C.evTop 125 (ifun Tryz.f125) [(.int .i64 a0), (.int .i64 a1)] z103.dec = z103.F a0 a1 := by kernel_rfl
def z106.C : Ctx where
  T := tab
  call := fun g args => match g with | 113 => z8.pack args | 131 => z14.pack args | _ => none
def z106.dec : V → Option ((List Int) × Bool)
  | (.agg [(.ints _ .i64 x0), (.bool x1)]) => some (x0, x1)
  | _ => none
theorem z106.link (a0 : List Int) (a1 : Bool) (a2 : List Int) (a3 : List Int) (a4 : Bool) (a5 : List Int) : z106.C.evTop 207 (ifun Tryz.f207) [(.agg [(.ints false .i64 a0), (.bool a1), (.ints false .i64 a2)]), (.agg [(.ints false .i64 a3), (.bool a4), (.ints false .i64 a5)])] z106.dec = z106.F a0 a1 a2 a3 a4 a5 := by kernel_rfl
def z108.C : Ctx where
  T := tab
  call := fun g args => match g with | 207 => z106.pack args | 113 => z8.pack args | 131 => z14.pack args | 205 => z102.pack args | _ => none
def z108.dec : V → Option ((List Int) × Bool × (List Int))
  | (.agg [(.ints _ .i64 x0), (.bool x1), (.ints _ .i64 x2)]) => some (x0, x1, x2)
  | _ => none
theorem z108.link (a0 : List Int) (a1 : Bool) (a2 : List Int) (a3 : List Int) (a4 : Bool) (a5 : List Int) : z108.C.evTop 129 (ifun Tryz.f129) [(.agg [(.ints false .i64 a0), (.bool a1), (.ints false .i64 a2)]), (.agg [(.ints false .i64 a3), (.bool a4), (.ints false .i64 a5)])] z108.dec = z108.F a0 a1 a2 a3 a4 a5 := by kernel_rfl
end
end Go.Proofs.YtgjncgiekniniaaGreatDoor.A
end
section
set_option linter.unusedVariables false
set_option linter.unusedSimpArgs false
set_option maxRecDepth 100000
namespace Go.Proofs.YtgjncgiekniniaaGreatDoor.A
open Go
noncomputable section
def z6.l2sh : Env × Store := ((.ints false .i64 []) :: .undef :: (.str ([] : List UInt8)) :: (.str ([] : List UInt8)) :: (.int .i64 (0 : Int)) :: (.int .i64 (0 : Int)) :: (.int .i64 (0 : Int)) :: un 37 [], [])
def z6.l2out0 (a2001 : List Int) (t2002 : List UInt8) (s2003 : List UInt8) (i2004 : Int) (d2005 : Int) (k2006 : Int) (o : (List UInt8) × Int × Int) : X × Env × Store := ((.exit 2), fillSt z6.l2sh [.li a2001, .s t2002, .s o.1, .i i2004, .i o.2.1, .i o.2.2])
def z6.l2pack : List Leaf → Option LPack
  | [.li a2001, .s t2002, .s s2003, .i i2004, .i d2005, .i k2006] => some (.one _ (z6.l2 (s2003, d2005, k2006)) (z6.l2out0 a2001 t2002 s2003 i2004 d2005 k2006))
  | _ => none
def z6.l0sh : Env × Store := ((.ints false .i64 []) :: .undef :: (.str ([] : List UInt8)) :: (.str ([] : List UInt8)) :: (.int .i64 (0 : Int)) :: un 39 [], [])
def z6.l0out0 (a1001 : List Int) (t1002 : List UInt8) (s1003 : List UInt8) (i1004 : Int) (o : (List UInt8) × Int) : X × Env × Store := ((.exit 0), fillSt z6.l0sh [.li a1001, .s t1002, .s o.1, .i o.2])
def z6.l0pack : List Leaf → Option LPack
  | [.li a1001, .s t1002, .s s1003, .i i1004] => some (.one _ (z6.l0 a1001 (s1003, i1004)) (z6.l0out0 a1001 t1002 s1003 i1004))
  | _ => none
def z6.l4sh : Env × Store := (.undef :: .undef :: (.str ([] : List UInt8)) :: (.str ([] : List UInt8)) :: un 3 ((.int .i64 (0 : Int)) :: un 36 []), [])
def z6.l4out0 (t3001 : List UInt8) (s3002 : List UInt8) (i3003 : Int) (o : Int) : X × Env × Store := ((.exit 4), fillSt z6.l4sh [.s t3001, .s s3002, .i o])
def z6.l4pack : List Leaf → Option LPack
  | [.s t3001, .s s3002, .i i3003] => some (.one _ (z6.l4 s3002 i3003) (z6.l4out0 t3001 s3002 i3003))
  | _ => none
def z6.C : Ctx where
  T := tab
  keep := fun f i => match f, i with | 102, 2 => ([0, 2, 3, 4, 5, 6], [], []) | 102, 0 => ([0, 2, 3, 4], [], []) | 102, 4 => ([2, 3, 7], [], []) | _, _ => ([], [], [])
  keepE := fun f i => match f, i with | 102, 2 => ([0, 2, 3, 4, 5, 6], [], []) | 102, 0 => ([0, 2, 3, 4], [], []) | 102, 4 => ([2, 3, 7], [], []) | _, _ => ([], [], [])
  keepR := fun f i => match f, i with | 102, 2 => ([2], [], [2]) | 102, 0 => ([2], [], [2]) | 102, 4 => ([2], [], [2]) | _, _ => ([], [], [])
  L := fun f i b st => match f, i, b with | 102, 2, 0 => (matchSt z6.l2sh st).bind z6.l2pack | 102, 0, 0 => (matchSt z6.l0sh st).bind z6.l0pack | 102, 4, 0 => (matchSt z6.l4sh st).bind z6.l4pack | _, _, _ => none
def z6.dec : V → Option ((List UInt8))
  | (.str x0) => some x0
  | _ => none
theorem z6.l2_link (R : Type) (k : Env × Store → Option R) (d : X × Env × Store → Option R) (a2001 : List Int) (t2002 : List UInt8) (s2003 : List UInt8) (i2004 : Int) (d2005 : Int) (k2006 : Int) :
    z6.C.loopP 102 2 (loopAt 2 (ifun Tryz.f102).body) 0 k d (fillSt z6.l2sh [.li a2001, .s t2002, .s s2003, .i i2004, .i d2005, .i k2006]) =
    z6.l2P  (fun x' => k (fillSt z6.l2sh [.li a2001, .s t2002, .s x'.1, .i i2004, .i x'.2.1, .i x'.2.2])) (fun o => d (z6.l2out0 a2001 t2002 s2003 i2004 d2005 k2006 o)) (s2003, d2005, k2006) := by kernel_rfl
theorem z6.l0_link (R : Type) (k : Env × Store → Option R) (d : X × Env × Store → Option R) (a1001 : List Int) (t1002 : List UInt8) (s1003 : List UInt8) (i1004 : Int) :
    z6.C.loopP 102 0 (loopAt 0 (ifun Tryz.f102).body) 0 k d (fillSt z6.l0sh [.li a1001, .s t1002, .s s1003, .i i1004]) =
    z6.l0P a1001 (fun x' => k (fillSt z6.l0sh [.li a1001, .s t1002, .s x'.1, .i x'.2])) (fun o => d (z6.l0out0 a1001 t1002 s1003 i1004 o)) (s1003, i1004) := by kernel_rfl
theorem z6.l4_link (R : Type) (k : Env × Store → Option R) (d : X × Env × Store → Option R) (t3001 : List UInt8) (s3002 : List UInt8) (i3003 : Int) :
    z6.C.loopP 102 4 (loopAt 4 (ifun Tryz.f102).body) 0 k d (fillSt z6.l4sh [.s t3001, .s s3002, .i i3003]) =
    z6.l4P s3002 (fun x' => k (fillSt z6.l4sh [.s t3001, .s s3002, .i x'])) (fun o => d (z6.l4out0 t3001 s3002 i3003 o)) i3003 := by kernel_rfl
theorem z6.link (a0 : List Int) : z6.C.evTop 102 (ifun Tryz.f102) [(.ints false .i64 a0)] z6.dec = z6.F a0 := by kernel_rfl
def z9.l0sh : Env × Store := ((.int .i64 (0 : Int)) :: .undef :: (.sref 0 0) :: (.sref 1 0) :: un 10 [], [(.arr 0 true 3 (.ints false .i64 [])), (.arr 0 true 3 (.ints false .i64 []))])
def z9.l0out0 (n1001 : Int) (s1002 : List Int) (s1003 : List Int) (o : Int × (List Int)) : X × Env × Store := ((.exit 0), fillSt z9.l0sh [.i o.1, .li s1002, .li o.2])
def z9.l0pack : List Leaf → Option LPack
  | [.i n1001, .li s1002, .li s1003] => some (.one _ (z9.l0 (n1001, s1003)) (z9.l0out0 n1001 s1002 s1003))
  | _ => none
def z9.C : Ctx where
  T := tab
  keep := fun f i => match f, i with | 152, 0 => ([0, 2, 3], [0, 1], []) | _, _ => ([], [], [])
  keepE := fun f i => match f, i with | 152, 0 => ([0, 2, 3], [0, 1], []) | _, _ => ([], [], [])
  keepR := fun f i => match f, i with | 152, 0 => ([2], [0, 1], [2]) | _, _ => ([], [], [])
  L := fun f i b st => match f, i, b with | 152, 0, 0 => (matchSt z9.l0sh st).bind z9.l0pack | _, _, _ => none
def z9.dec : V → Option ((List Int))
  | (.ints _ .i64 x0) => some x0
  | _ => none
theorem z9.l0_link (R : Type) (k : Env × Store → Option R) (d : X × Env × Store → Option R) (n1001 : Int) (s1002 : List Int) (s1003 : List Int) :
    z9.C.loopP 152 0 (loopAt 0 (ifun Tryz.f152).body) 2 k d (fillSt z9.l0sh [.i n1001, .li s1002, .li s1003]) =
    z9.l0P  (fun x' => k (fillSt z9.l0sh [.i x'.1, .li s1002, .li x'.2])) (fun o => d (z9.l0out0 n1001 s1002 s1003 o)) (n1001, s1003) := by kernel_rfl
theorem z9.link (a0 : Int) : z9.C.evTop 152 (ifun Tryz.f152) [(.int .i64 a0)] z9.dec = z9.F a0 := by kernel_rfl
def z10.C : Ctx where
  T := tab
  call := fun g args => match g with | 152 => z9.pack args | 113 => z8.pack args | _ => none
def z10.dec : V → Option ((List Int) × Bool)
  | (.agg [(.ints _ .i64 x0), (.bool x1)]) => some (x0, x1)
  | _ => none
theorem z10.link (a0 : Int) : z10.C.evTop 60 (ifun Tryz.f60) [(.int .i64 a0)] z10.dec = z10.F a0 := by kernel_rfl
def z14.C : Ctx where
  T := tab
  call := fun g args => match g with | 208 => z13.pack args | 113 => z8.pack args | _ => none
def z14.dec : V → Option ((List Int) × Bool)
  | (.agg [(.ints _ .i64 x0), (.bool x1)]) => some (x0, x1)
  | _ => none
theorem z14.link (a0 : List Int) (a1 : Bool) (a2 : List Int) (a3 : Bool) : z14.C.evTop 131 (ifun Tryz.f131) [(.agg [(.ints false .i64 a0), (.bool a1)]), (.agg [(.ints false .i64 a2), (.bool a3)])] z14.dec = z14.F a0 a1 a2 a3 := by kernel_rfl
def z26.l0sh : Env × Store := (.undef :: .undef :: (.ptr 0 0) :: (.ptr 1 0) :: (.ptr 2 0) :: (.bool false) :: (.sref 3 0) :: (.int .u64 (0 : Int)) :: un 11 ((.int .i64 (0 : Int)) :: (.int .i64 (0 : Int)) :: un 21 []), [(.cells 37 [(.ints false .u64 [])]), (.cells 37 [(.ints false .u64 [])]), (.cells 37 [(.ints false .u64 [])]), (.arr 0 false 79 (.ints false .u64 []))])
def z26.l0out0 (t1001 : Bool) (borrow1002 : Int) (t1003 : Int) (t1004 : Int) (s1005 : List Int) (s1006 : List Int) (s1007 : List Int) (s1008 : List Int) (o : Int × Int × (List Int)) : X × Env × Store := ((.exit 0), fillSt z26.l0sh [.b t1001, .i o.1, .i t1003, .i o.2.1, .li s1005, .li s1006, .li s1007, .li o.2.2])
def z26.l0pack : List Leaf → Option LPack
  | [.b t1001, .i borrow1002, .i t1003, .i t1004, .li s1005, .li s1006, .li s1007, .li s1008] => some (.one _ (z26.l0 t1003 s1005 s1006 (borrow1002, t1004, s1008)) (z26.l0out0 t1001 borrow1002 t1003 t1004 s1005 s1006 s1007 s1008))
  | _ => none
def z26.C : Ctx where
  T := tab
  draws := fun f i => match f, i with | 100, 8 => ([(25, [(6, 0)], 0), (26, [(8, 0)], 0), (27, [(2, 0)], 0), (28, [(26, 3)], 4), (29, [(8, 0)], 0), (30, [(27, 4), (28, 5)], 28), (31, [(29, 6)], 60), (32, [(3, 0)], 0), (33, [(8, 0)], 0), (34, [(31, 8), (32, 9)], 384), (35, [(7, 18)], 0), (36, [(30, 7), (33, 10), (34, 11)], 2044), (24, [(35, 12)], 4092), (37, [(23, 13)], 8188), (38, [(23, 13)], 8188), (39, [(24, 1), (25, 2)], 16383), (0, [(38, 16), (36, 14)], 49151), (8, [(37, 15)], 131071)], 549747425408) | _, _ => ([], 0)
  call := fun g args => match g with | 186 => z25.pack args | 184 => z18.pack args | 187 => z1.pack args | 185 => z19.pack args | _ => none
  keep := fun f i => match f, i with | 100, 0 => ([2, 3, 4, 5, 6, 7, 19, 20], [0, 1, 2, 3], []) | _, _ => ([], [], [])
  keepE := fun f i => match f, i with | 100, 0 => ([2, 3, 4, 5, 6, 7, 19, 20], [0, 1, 2, 3], []) | _, _ => ([], [], [])
  keepR := fun f i => match f, i with | 100, 0 => ([4, 5], [0, 1, 2, 3], [4, 5]) | _, _ => ([], [], [])
  L := fun f i b st => match f, i, b with | 100, 0, 0 => (matchSt z26.l0sh st).bind z26.l0pack | _, _, _ => none
def z26.dec : V → Option ((List Int) × Bool)
  | (.tup [(.agg [(.ints _ .u64 x0)]), (.bool x1)]) => some (x0, x1)
  | _ => none
theorem z26.l0_link (R : Type) (k : Env × Store → Option R) (d : X × Env × Store → Option R) (t1001 : Bool) (borrow1002 : Int) (t1003 : Int) (t1004 : Int) (s1005 : List Int) (s1006 : List Int) (s1007 : List Int) (s1008 : List Int) :
    z26.C.loopP 100 0 (loopAt 0 (ifun Tryz.f100).body) 4 k d (fillSt z26.l0sh [.b t1001, .i borrow1002, .i t1003, .i t1004, .li s1005, .li s1006, .li s1007, .li s1008]) =
    z26.l0P t1003 s1005 s1006 (fun x' => k (fillSt z26.l0sh [.b t1001, .i x'.1, .i t1003, .i x'.2.1, .li s1005, .li s1006, .li s1007, .li x'.2.2])) (fun o => d (z26.l0out0 t1001 borrow1002 t1003 t1004 s1005 s1006 s1007 s1008 o)) (borrow1002, t1004, s1008) := by kernel_rfl
theorem z26.link (a0 : List Int) (a1 : List Int) : z26.C.evTop 100 (ifun Tryz.f100) [(.agg [(.ints false .u64 a0)]), (.agg [(.ints false .u64 a1)])] z26.dec = z26.F a0 a1 := by kernel_rfl
def z27.C : Ctx where
  T := tab
  draws := fun f i => match f, i with | 24, 2 => ([(15, [(2, 0)], 0), (16, [(14, 1)], 1), (17, [(3, 0)], 0), (18, [(16, 3)], 4), (19, [(15, 2), (17, 4)], 15), (20, [(2, 0)], 0), (21, [(19, 6)], 32), (22, [(18, 5), (20, 7)], 127), (0, [(4, 0), (21, 8)], 255)], 4177920) | _, _ => ([], 0)
  call := fun g args => match g with | 99 => z20.pack args | 91 => z17.pack args | 100 => z26.pack args | _ => none
def z27.dec : V → Option ((List Int) × Bool)
  | (.agg [(.ints _ .u64 x0), (.bool x1)]) => some (x0, x1)
  | _ => none
theorem z27.link (a0 : List Int) (a1 : Bool) (a2 : List Int) (a3 : Bool) : z27.C.evTop 24 (ifun Tryz.f24) [(.agg [(.ints false .u64 a0), (.bool a1)]), (.agg [(.ints false .u64 a2), (.bool a3)])] z27.dec = z27.F a0 a1 a2 a3 := by kernel_rfl
def z30.C : Ctx where
  T := tab
  call := fun g args => match g with | 90 => z29.pack args | 28 => z16.pack args | _ => none
def z30.dec : V → Option (Int)
  | (.int .i64 x0) => some x0
  | _ => none
theorem z30.link (a0 : List Int) (a1 : Bool) (a2 : List Int) (a3 : Bool) : z30.C.evTop 74 (ifun Tryz.f74) [(.agg [(.ints false .u64 a0), (.bool a1)]), (.agg [(.ints false .u64 a2), (.bool a3)])] z30.dec = z30.F a0 a1 a2 a3 := by kernel_rfl
def z34.C : Ctx where
  T := tab
  call := fun g args => match g with | 185 => z19.pack args | _ => none
  prim := fun g => match g with | 222 => some (cloneP (.ints true .u64 []) 79 8) | _ => none
def z34.dec : V → Option ((List Int))
  | (.agg [(.ints _ .u64 x0)]) => some x0
  | _ => none
theorem z34.link (a0 : List Int) : z34.C.evTop 158 (ifun Tryz.f158) [(.ints false .u64 a0)] z34.dec = z34.F a0 := by kernel_rfl
def z37.l2sh : Env × Store := ((.str ([] : List UInt8)) :: .undef :: (.ptr 0 0) :: (.int .i64 (0 : Int)) :: (.ptr 1 0) :: .undef :: (.int .i64 (0 : Int)) :: (.int .u64 (0 : Int)) :: un 39 ((.ptr 2 0) :: un 21 []), [(.cells 37 [(.ints false .u64 [])]), (.cells 37 [(.ints false .u64 [])]), (.siter ([] : List UInt8) 0)])
def z37.l2out0 (s2001 : List UInt8) (t2002 : Int) (k2003 : Int) (part2004 : Int) (s2005 : List Int) (s2006 : List Int) (s2007 : List UInt8) (s2008 : Nat) (o : Int × Nat) : X × Env × Store := ((.exit 2), fillSt z37.l2sh [.s s2001, .i t2002, .i k2003, .i o.1, .li s2005, .li s2006, .s s2007, .n o.2])
def z37.l2pack : List Leaf → Option LPack
  | [.s s2001, .i t2002, .i k2003, .i part2004, .li s2005, .li s2006, .s s2007, .n s2008] => some (.one _ (z37.l2 s2007 (part2004, s2008)) (z37.l2out0 s2001 t2002 k2003 part2004 s2005 s2006 s2007 s2008))
  | _ => none
def z37.l2ash : Env × Store := ((.str ([] : List UInt8)) :: .undef :: (.ptr 0 0) :: (.int .i64 (0 : Int)) :: (.ptr 1 0) :: .undef :: (.int .i64 (0 : Int)) :: (.int .u64 (0 : Int)) :: un 33 ((.int .i64 (0 : Int)) :: (.bool false) :: un 4 ((.ptr 2 0) :: un 21 [])), [(.cells 37 [(.ints false .u64 [])]), (.cells 37 [(.ints false .u64 [])]), (.siter ([] : List UInt8) 0)])
def z37.l2aout0 (s3001 : List UInt8) (t3002 : Int) (k3003 : Int) (part3004 : Int) (t3005 : Int) (t3006 : Bool) (s3007 : List Int) (s3008 : List Int) (s3009 : List UInt8) (s3010 : Nat) (o : Int × Nat) : X × Env × Store := ((.exit 2), fillSt z37.l2ash [.s s3001, .i t3002, .i k3003, .i o.1, .i t3005, .b t3006, .li s3007, .li s3008, .s s3009, .n o.2])
def z37.l2apack : List Leaf → Option LPack
  | [.s s3001, .i t3002, .i k3003, .i part3004, .i t3005, .b t3006, .li s3007, .li s3008, .s s3009, .n s3010] => some (.one _ (z37.l2a s3009 (part3004, s3010)) (z37.l2aout0 s3001 t3002 k3003 part3004 t3005 t3006 s3007 s3008 s3009 s3010))
  | _ => none
def z37.l0aash : Env × Store := ((.str ([] : List UInt8)) :: .undef :: (.ptr 0 0) :: (.int .i64 (0 : Int)) :: (.ptr 1 0) :: (.bool false) :: un 63 [], [(.cells 37 [(.ints false .u64 [])]), (.cells 37 [(.ints false .u64 [])])])
def z37.l0aaout0 (s5001 : List UInt8) (t5002 : Int) (first5003 : Bool) (s5004 : List Int) (s5005 : List Int) (o : (List UInt8) × Bool × (List Int)) : X × Env × Store := ((.exit 0), fillSt z37.l0aash [.s o.1, .i t5002, .b o.2.1, .li s5004, .li o.2.2])
def z37.l0aapack : List Leaf → Option LPack
  | [.s s5001, .i t5002, .b first5003, .li s5004, .li s5005] => some (.one _ (z37.l0aa (s5001, first5003, s5005)) (z37.l0aaout0 s5001 t5002 first5003 s5004 s5005))
  | _ => none
def z37.C : Ctx where
  T := tab
  draws := fun f i => match f, i with | 161, 17 => ([(58, [(4, 0)], 0), (59, [], 0), (60, [(58, 2)], 2), (61, [(57, 1), (59, 3)], 7), (62, [(7, 0)], 0), (63, [(61, 5)], 16), (64, [(62, 6)], 63), (65, [(60, 4), (63, 7)], 127), (0, [(4, 0), (64, 8)], 255)], 36749372959343247360) | _, _ => ([], 0)
  call := fun g args => match g with | 200 => z3.pack args | 158 => z34.pack args | 164 => z36.pack args | 99 => z20.pack args | _ => none
  keep := fun f i => match f, i with | 161, 2 => ([0, 2, 3, 4, 6, 7, 41, 42, 47], [0, 1, 2], []) | 161, 0 => ([0, 2, 3, 4, 5], [0, 1], []) | _, _ => ([], [], [])
  keepE := fun f i => match f, i with | 161, 2 => ([0, 2, 3, 4, 6, 7, 41, 42, 47], [0, 1, 2], []) | 161, 0 => ([0, 2, 3, 4, 5], [0, 1], []) | _, _ => ([], [], [])
  keepR := fun f i => match f, i with | 161, 2 => ([2, 3], [0, 1, 2], [2, 3]) | 161, 0 => ([2, 3], [0, 1], [2, 3]) | _, _ => ([], [], [])
  L := fun f i b st => match f, i, b with | 161, 2, 0 => (orP ((matchSt z37.l2sh st).bind z37.l2pack) ((matchSt z37.l2ash st).bind z37.l2apack)) | 161, 0, 0 => (matchSt z37.l0aash st).bind z37.l0aapack | _, _, _ => none
def z37.dec : V → Option ((List Int) × Int)
  | (.tup [(.agg [(.ints _ .u64 x0)]), (.int .i64 x1)]) => some (x0, x1)
  | _ => none
theorem z37.l2_link (R : Type) (k : Env × Store → Option R) (d : X × Env × Store → Option R) (s2001 : List UInt8) (t2002 : Int) (k2003 : Int) (part2004 : Int) (s2005 : List Int) (s2006 : List Int) (s2007 : List UInt8) (s2008 : Nat) :
    z37.C.loopP 161 2 (loopAt 2 (ifun Tryz.f161).body) 3 k d (fillSt z37.l2sh [.s s2001, .i t2002, .i k2003, .i part2004, .li s2005, .li s2006, .s s2007, .n s2008]) =
    z37.l2P s2007 (fun x' => k (fillSt z37.l2sh [.s s2001, .i t2002, .i k2003, .i x'.1, .li s2005, .li s2006, .s s2007, .n x'.2])) (fun o => d (z37.l2out0 s2001 t2002 k2003 part2004 s2005 s2006 s2007 s2008 o)) (part2004, s2008) := by kernel_rfl
theorem z37.l2a_link (R : Type) (k : Env × Store → Option R) (d : X × Env × Store → Option R) (s3001 : List UInt8) (t3002 : Int) (k3003 : Int) (part3004 : Int) (t3005 : Int) (t3006 : Bool) (s3007 : List Int) (s3008 : List Int) (s3009 : List UInt8) (s3010 : Nat) :
    z37.C.loopP 161 2 (loopAt 2 (ifun Tryz.f161).body) 3 k d (fillSt z37.l2ash [.s s3001, .i t3002, .i k3003, .i part3004, .i t3005, .b t3006, .li s3007, .li s3008, .s s3009, .n s3010]) =
    z37.l2aP s3009 (fun x' => k (fillSt z37.l2ash [.s s3001, .i t3002, .i k3003, .i x'.1, .i t3005, .b t3006, .li s3007, .li s3008, .s s3009, .n x'.2])) (fun o => d (z37.l2aout0 s3001 t3002 k3003 part3004 t3005 t3006 s3007 s3008 s3009 s3010 o)) (part3004, s3010) := by kernel_rfl
theorem z37.l0aa_link (R : Type) (k : Env × Store → Option R) (d : X × Env × Store → Option R) (s5001 : List UInt8) (t5002 : Int) (first5003 : Bool) (s5004 : List Int) (s5005 : List Int) :
    z37.C.loopP 161 0 (loopAt 0 (ifun Tryz.f161).body) 2 k d (fillSt z37.l0aash [.s s5001, .i t5002, .b first5003, .li s5004, .li s5005]) =
    z37.l0aaP  (fun x' => k (fillSt z37.l0aash [.s x'.1, .i t5002, .b x'.2.1, .li s5004, .li x'.2.2])) (fun o => d (z37.l0aaout0 s5001 t5002 first5003 s5004 s5005 o)) (s5001, first5003, s5005) := by kernel_rfl
theorem z37.link (a0 : List UInt8) : z37.C.evTop 161 (ifun Tryz.f161) [(.str a0)] z37.dec = z37.F a0 := by kernel_rfl
def z39.l0sh : Env × Store := (.undef :: (.int .i64 (0 : Int)) :: (.ptr 0 0) :: .undef :: (.ptr 1 0) :: (.ptr 2 0) :: un 18 [], [(.cells 37 [(.ints false .u64 [])]), (.cells 37 [(.ints false .u64 [])]), (.cells 37 [(.ints false .u64 [])])])
def z39.l0out0 (times1001 : Int) (s1002 : List Int) (s1003 : List Int) (s1004 : List Int) (o : Int × (List Int) × (List Int)) : X × Env × Store := ((.exit 0), fillSt z39.l0sh [.i o.1, .li o.2.1, .li s1003, .li o.2.2])
def z39.l0pack : List Leaf → Option LPack
  | [.i times1001, .li s1002, .li s1003, .li s1004] => some (.one _ (z39.l0 (times1001, s1002, s1004)) (z39.l0out0 times1001 s1002 s1003 s1004))
  | _ => none
def z39.C : Ctx where
  T := tab
  call := fun g args => match g with | 158 => z34.pack args | 164 => z36.pack args | _ => none
  keep := fun f i => match f, i with | 247, 0 => ([1, 2, 4, 5], [0, 1, 2], []) | _, _ => ([], [], [])
  keepE := fun f i => match f, i with | 247, 0 => ([1, 2, 4, 5], [0, 1, 2], []) | _, _ => ([], [], [])
  keepR := fun f i => match f, i with | 247, 0 => ([4], [0, 1, 2], [4]) | _, _ => ([], [], [])
  L := fun f i b st => match f, i, b with | 247, 0, 0 => (matchSt z39.l0sh st).bind z39.l0pack | _, _, _ => none
def z39.dec : V → Option ((List Int))
  | (.agg [(.ints _ .u64 x0)]) => some x0
  | _ => none
theorem z39.l0_link (R : Type) (k : Env × Store → Option R) (d : X × Env × Store → Option R) (times1001 : Int) (s1002 : List Int) (s1003 : List Int) (s1004 : List Int) :
    z39.C.loopP 247 0 (loopAt 0 (ifun Tryz.f247).body) 3 k d (fillSt z39.l0sh [.i times1001, .li s1002, .li s1003, .li s1004]) =
    z39.l0P  (fun x' => k (fillSt z39.l0sh [.i x'.1, .li x'.2.1, .li s1003, .li x'.2.2])) (fun o => d (z39.l0out0 times1001 s1002 s1003 s1004 o)) (times1001, s1002, s1004) := by kernel_rfl
theorem z39.link (a0 : List Int) (a1 : Int) : z39.C.evTop 247 (ifun Tryz.f247) [(.agg [(.ints false .u64 a0)]), (.int .i64 a1)] z39.dec = z39.F a0 a1 := by kernel_rfl
def z40.C : Ctx where
  T := tab
  call := fun g args => match g with | 158 => z34.pack args | 247 => z39.pack args | _ => none
def z40.dec : V → Option ((List Int) × Int)
  | (.tup [(.agg [(.ints _ .u64 x0)]), (.int .i64 x1)]) => some (x0, x1)
  | _ => none
theorem z40.link (a0 : Int) : z40.C.evTop 195 (ifun Tryz.f195) [(.int .i64 a0)] z40.dec = z40.F a0 := by kernel_rfl
def z43.C : Ctx where
  T := tab
def z43.dec : V → Option ((List Int) × Bool × (List Int))
  | (.agg [(.ints _ .u64 x0), (.bool x1), (.ints _ .u64 x2)]) => some (x0, x1, x2)
  | _ => none
theorem z43.link (a0 : List Int) (a1 : Bool) : z43.C.evTop 68 (ifun Tryz.f68) [(.agg [(.ints false .u64 a0), (.bool a1)])] z43.dec = z43.F a0 a1 := by kernel_rfl
def z44.C : Ctx where
  T := tab
  call := fun g args => match g with | 158 => z34.pack args | 91 => z17.pack args | _ => none
def z44.dec : V → Option ((List Int) × Bool)
  | (.agg [(.ints _ .u64 x0), (.bool x1)]) => some (x0, x1)
  | _ => none
theorem z44.link (a0 : Int) : z44.C.evTop 69 (ifun Tryz.f69) [(.int .i64 a0)] z44.dec = z44.F a0 := by kernel_rfl
def z46.C : Ctx where
  T := tab
  draws := fun f i => match f, i with | 248, 3 => ([(14, [(0, 0)], 0), (15, [(7, 0)], 0), (16, [(13, 1), (14, 2)], 3), (17, [(0, 0)], 0), (18, [(7, 0)], 0), (19, [(1, 0)], 0), (20, [(18, 6)], 32), (21, [(17, 5), (19, 7)], 112), (22, [(16, 4), (20, 8)], 248), (5, [(15, 3)], 7), (6, [(21, 9)], 1023), (7, [], 2047)], 4186224) | _, _ => ([], 0)
  call := fun g args => match g with | 160 => z33.pack args | 199 => z45.pack args | 200 => z3.pack args | 201 => z4.pack args | 161 => z37.pack args | 91 => z17.pack args | 290 => z2.pack args | _ => none
  inl := fun g => match g with | 198 => some (ifun Tryz.f198) | 248 => some (ifun Tryz.f248) | 275 => some (ifun Tryz.f275) | 283 => some (ifun Tryz.f283) | _ => none
  rank := fun g => match g with | 198 => 3 | 248 => 2 | 275 => 1 | _ => 0
def z46.dec : V → Option ((List Int) × Bool × Int × Int)
  | (.tup [(.agg [(.ints _ .u64 x0), (.bool x1), (.int .i64 x2)]), (.int .i64 x3)]) => some (x0, x1, x2, x3)
  | _ => none
theorem z46.link (a0 : List UInt8) : z46.C.evTop 118 (ifun Tryz.f118) [(.str a0)] z46.dec = z46.F a0 := by kernel_rfl
def z57.C : Ctx where
  T := tab
def z57.dec : V → Option (Int)
  | (.int .i64 x0) => some x0
  | _ => none
theorem z57.link (a0 : Int) : z57.C.evTop 280 (ifun Tryz.f280) [(.int .u64 a0)] z57.dec = z57.F a0 := by kernel_rfl
def z61.C : Ctx where
  T := tab
  draws := fun f i => match f, i with | 162, 4 => ([(22, [], 0), (23, [(2, 0)], 0), (0, [(4, 0), (21, 1)], 1), (0, [(5, 0), (22, 2)], 7), (7, [], 15)], 6291520) | 162, 5 => ([(24, [(2, 0)], 0), (25, [(23, 1)], 1), (26, [(3, 0)], 0), (27, [(25, 3)], 7), (8, [(24, 2)], 15), (9, [(26, 4)], 31)], 125829504) | _, _ => ([], 0)
  call := fun g args => match g with | 104 => z15.pack args | 186 => z25.pack args | 188 => z56.pack args | 224 => z60.pack args | 158 => z34.pack args | 225 => z5.pack args | _ => none
def z61.dec : V → Option ((List Int) × (List Int) × Int)
  | (.tup [(.agg [(.ints _ .u64 x0)]), (.agg [(.ints _ .u64 x1)]), (.int .i64 x2)]) => some (x0, x1, x2)
  | _ => none
theorem z61.link (a0 : List Int) (a1 : List Int) : z61.C.evTop 162 (ifun Tryz.f162) [(.agg [(.ints false .u64 a0)]), (.agg [(.ints false .u64 a1)])] z61.dec = z61.F a0 a1 := by kernel_rfl
def z62.l0sh : Env × Store := (.undef :: .undef :: (.ptr 0 0) :: (.ptr 1 0) :: (.ptr 2 0) :: un 16 [], [(.cells 37 [(.ints false .u64 [])]), (.cells 37 [(.ints false .u64 [])]), (.cells 37 [(.ints false .u64 [])])])
def z62.l0out0 (s1001 : List Int) (s1002 : List Int) (s1003 : List Int) (o : (List Int) × (List Int)) : X × Env × Store := ((.exit 0), fillSt z62.l0sh [.li o.1, .li o.2, .li s1003])
def z62.l0pack : List Leaf → Option LPack
  | [.li s1001, .li s1002, .li s1003] => some (.one _ (z62.l0 (s1001, s1002)) (z62.l0out0 s1001 s1002 s1003))
  | _ => none
def z62.C : Ctx where
  T := tab
  draws := fun f i => match f, i with | 226, 3 => ([(19, [(3, 0)], 0), (20, [(6, 0)], 0), (0, [(2, 0), (18, 1)], 1), (0, [(3, 0), (19, 2)], 7)], 786432) | _, _ => ([], 0)
  call := fun g args => match g with | 104 => z15.pack args | 162 => z61.pack args | _ => none
  keep := fun f i => match f, i with | 226, 0 => ([2, 3, 4], [0, 1, 2], []) | _, _ => ([], [], [])
  keepE := fun f i => match f, i with | 226, 0 => ([2, 3, 4], [0, 1, 2], []) | _, _ => ([], [], [])
  keepR := fun f i => match f, i with | 226, 0 => ([4], [0, 1, 2], [4]) | _, _ => ([], [], [])
  L := fun f i b st => match f, i, b with | 226, 0, 0 => (matchSt z62.l0sh st).bind z62.l0pack | _, _, _ => none
def z62.dec : V → Option ((List Int))
  | (.agg [(.ints _ .u64 x0)]) => some x0
  | _ => none
theorem z62.l0_link (R : Type) (k : Env × Store → Option R) (d : X × Env × Store → Option R) (s1001 : List Int) (s1002 : List Int) (s1003 : List Int) :
    z62.C.loopP 226 0 (loopAt 0 (ifun Tryz.f226).body) 3 k d (fillSt z62.l0sh [.li s1001, .li s1002, .li s1003]) =
    z62.l0P  (fun x' => k (fillSt z62.l0sh [.li x'.1, .li x'.2, .li s1003])) (fun o => d (z62.l0out0 s1001 s1002 s1003 o)) (s1001, s1002) := by kernel_rfl
theorem z62.link (a0 : List Int) (a1 : List Int) : z62.C.evTop 226 (ifun Tryz.f226) [(.agg [(.ints false .u64 a0)]), (.agg [(.ints false .u64 a1)])] z62.dec = z62.F a0 a1 := by kernel_rfl
def z66.C : Ctx where
  T := tab
  draws := fun f i => match f, i with | 130, 1 => ([(4, [(1, 0)], 0), (5, [(3, 1)], 1), (6, [], 0), (7, [(5, 3)], 4), (8, [(4, 2), (6, 4)], 15), (0, [(2, 0), (7, 5)], 31)], 248) | _, _ => ([], 0)
  call := fun g args => match g with | 158 => z34.pack args | 99 => z20.pack args | _ => none
def z66.dec : V → Option ((List Int))
  | (.agg [(.ints _ .u64 x0)]) => some x0
  | _ => none
theorem z66.link (a0 : List Int) (a1 : Bool) (a2 : List Int) : z66.C.evTop 130 (ifun Tryz.f130) [(.agg [(.ints false .u64 a0), (.bool a1), (.ints false .u64 a2)])] z66.dec = z66.F a0 a1 a2 := by kernel_rfl
def z69.C : Ctx where
  T := tab
  call := fun g args => match g with | 118 => z46.pack args | 69 => z44.pack args | 119 => z48.pack args | 120 => z49.pack args | 28 => z16.pack args | 121 => z53.pack args | 122 => z54.pack args | 123 => z65.pack args | 68 => z43.pack args | 124 => z68.pack args | _ => none
def z69.dec : V → Option ((List Int) × Bool × (List Int) × Int)
  | (.tup [(.agg [(.ints _ .u64 x0), (.bool x1), (.ints _ .u64 x2)]), (.int .i64 x3)]) => some (x0, x1, x2, x3)
  | _ => none
theorem z69.link (a0 : List UInt8) : z69.C.evTop 38 (ifun Tryz.f38) [(.str a0)] z69.dec = z69.F a0 := by kernel_rfl
def z71.C : Ctx where
  T := tab
  call := fun g args => match g with | 137 => z70.pack args | _ => none
def z71.dec : V → Option ((List UInt8))
  | (.str x0) => some x0
  | _ => none
theorem z71.link (a0 : Int) : z71.C.evTop 47 (ifun Tryz.f47) [(.int .i64 a0)] z71.dec = z71.F a0 := by kernel_rfl
def z73.C : Ctx where
  T := tab
def z73.dec : V → Option ((List (List UInt8)))
  | (.strs _ x0) => some x0
  | _ => none
theorem z73.link  : z73.C.evTop 215 (ifun Tryz.f215) [] z73.dec = z73.F  := by kernel_rfl
def z80.C : Ctx where
  T := tab
  call := fun g args => match g with | 258 => z79.pack args | _ => none
def z80.dec : V → Option (Bool)
  | (.bool x0) => some x0
  | _ => none
theorem z80.link (a0 : Int) : z80.C.evTop 259 (ifun Tryz.f259) [(.int .i64 a0)] z80.dec = z80.F a0 := by kernel_rfl
def z81.C : Ctx where
  T := tab
  call := fun g args => match g with | 258 => z79.pack args | 259 => z80.pack args | _ => none
def z81.dec : V → Option (Int)
  | (.int .i64 x0) => some x0
  | _ => none
theorem z81.link (a0 : Int) (a1 : Int) : z81.C.evTop 210 (ifun Tryz.f210) [(.int .i64 a0), (.int .i64 a1)] z81.dec = z81.F a0 a1 := by kernel_rfl
def z91.l0b6sh : Env × Store := ((.ints false .i64 []) :: (.ints false .i64 []) :: .undef :: .undef :: (.sref 0 0) :: (.sref 1 0) :: (.int .i64 (0 : Int)) :: (.int .i64 (0 : Int)) :: un 39 [], [(.arr 0 true 3 (.ints false .i64 [])), (.arr 0 true 3 (.ints false .i64 []))])
def z91.l0b6out0 (a7001 : List Int) (b7002 : List Int) (carry7003 : Int) (i7004 : Int) (s7005 : List Int) (s7006 : List Int) (o : Int × Int × (List Int)) : X × Env × Store := ((.exit 0), fillSt z91.l0b6sh [.li a7001, .li b7002, .i o.1, .i o.2.1, .li s7005, .li o.2.2])
def z91.l0b6pack : List Leaf → Option LPack
  | [.li a7001, .li b7002, .i carry7003, .i i7004, .li s7005, .li s7006] => some (.one _ (z91.l0b6 a7001 b7002 (carry7003, i7004, s7006)) (z91.l0b6out0 a7001 b7002 carry7003 i7004 s7005 s7006))
  | _ => none
def z91.C : Ctx where
  T := tab
  call := fun g args => match g with | 234 => z11.pack args | 235 => z12.pack args | _ => none
  keep := fun f i => match f, i with | 170, 0 => ([0, 1, 4, 5, 6, 7], [0, 1], []) | _, _ => ([], [], [])
  keepE := fun f i => match f, i with | 170, 0 => ([0, 1, 4, 5, 6, 7], [0, 1], []) | _, _ => ([], [], [])
  keepR := fun f i => match f, i with | 170, 0 => ([4], [0, 1], [4]) | _, _ => ([], [], [])
  L := fun f i b st => match f, i, b with | 170, 0, 0 => (matchSt z91.l0b6sh st).bind z91.l0b6pack | _, _, _ => none
def z91.dec : V → Option ((List Int))
  | (.ints _ .i64 x0) => some x0
  | _ => none
theorem z91.l0b6_link (R : Type) (k : Env × Store → Option R) (d : X × Env × Store → Option R) (a7001 : List Int) (b7002 : List Int) (carry7003 : Int) (i7004 : Int) (s7005 : List Int) (s7006 : List Int) :
    z91.C.loopP 170 0 (loopAt 0 (ifun Tryz.f170).body) 2 k d (fillSt z91.l0b6sh [.li a7001, .li b7002, .i carry7003, .i i7004, .li s7005, .li s7006]) =
    z91.l0b6P a7001 b7002 (fun x' => k (fillSt z91.l0b6sh [.li a7001, .li b7002, .i x'.1, .i x'.2.1, .li s7005, .li x'.2.2])) (fun o => d (z91.l0b6out0 a7001 b7002 carry7003 i7004 s7005 s7006 o)) (carry7003, i7004, s7006) := by kernel_rfl
theorem z91.link (a0 : List Int) (a1 : List Int) : z91.C.evTop 170 (ifun Tryz.f170) [(.ints false .i64 a0), (.ints false .i64 a1)] z91.dec = z91.F a0 a1 := by kernel_rfl
def z109.C : Ctx where
  T := tab
  call := fun g args => match g with | 125 => z103.pack args | 126 => z104.pack args | 127 => z105.pack args | 128 => z107.pack args | 129 => z108.pack args | _ => none
def z109.dec : V → Option ((List Int) × Bool × (List Int) × Int)
  | (.tup [(.agg [(.ints _ .i64 x0), (.bool x1), (.ints _ .i64 x2)]), (.int .i64 x3)]) => some (x0, x1, x2, x3)
  | _ => none
theorem z109.link (a0 : List UInt8) : z109.C.evTop 39 (ifun Tryz.f39) [(.str a0)] z109.dec = z109.F a0 := by kernel_rfl
def z111.l2sh : Env × Store := (.undef :: (.ptr 0 0) :: (.str ([] : List UInt8)) :: (.sref 1 0) :: (.ptr 2 0) :: .undef :: .undef :: (.int .u64 (0 : Int)) :: un 19 ((.ints false .u64 []) :: (.int .i64 (0 : Int)) :: (.int .i64 (0 : Int)) :: un 27 []), [(.cells 37 [(.ints false .u64 [])]), (.arr 0 true 9 (.strs false [])), (.cells 37 [(.ints false .u64 [])]), .dead])
def z111.l2out0 (t2001 : List UInt8) (low2002 : Int) (t2003 : List Int) (t2004 : Int) (t2005 : Int) (s2006 : List Int) (s2007 : List (List UInt8)) (s2008 : List Int) (o : Int × Int) : X × Env × Store := ((.exit 2), fillSt z111.l2sh [.s t2001, .i o.1, .li t2003, .i t2004, .i o.2, .li s2006, .ls s2007, .li s2008])
def z111.l2pack : List Leaf → Option LPack
  | [.s t2001, .i low2002, .li t2003, .i t2004, .i t2005, .li s2006, .ls s2007, .li s2008] => some (.one _ (z111.l2 t2003 t2004 (low2002, t2005)) (z111.l2out0 t2001 low2002 t2003 t2004 t2005 s2006 s2007 s2008))
  | _ => none
def z111.l0sh : Env × Store := (.undef :: (.ptr 0 0) :: (.str ([] : List UInt8)) :: (.sref 1 0) :: un 53 [], [(.cells 37 [(.ints false .u64 [])]), (.arr 0 true 9 (.strs false []))])
def z111.l0out0 (t1001 : List UInt8) (s1002 : List Int) (s1003 : List (List UInt8)) (o : (List Int) × (List (List UInt8))) : X × Env × Store := ((.exit 0), fillSt z111.l0sh [.s t1001, .li o.1, .ls o.2])
def z111.l0pack : List Leaf → Option LPack
  | [.s t1001, .li s1002, .ls s1003] => some (.one _ (z111.l0 (s1002, s1003)) (z111.l0out0 t1001 s1002 s1003))
  | _ => none
def z111.l4sh : Env × Store := (.undef :: .undef :: (.str ([] : List UInt8)) :: (.sref 1 0) :: un 7 ((.ptr 2 0) :: (.int .i64 (0 : Int)) :: un 44 []), [.dead, (.arr 0 true 9 (.strs false [])), (.cells 274 [(.ptr 2 0), (.sref 3 0)]), (.arr 0 true 5 (.ints false .u8 []))])
def z111.l4out0 (t3001 : List UInt8) (i3002 : Int) (s3003 : List (List UInt8)) (s3004 : List Int) (o : Int × (List Int)) : X × Env × Store := ((.exit 4), fillSt z111.l4sh [.s t3001, .i o.1, .ls s3003, .li o.2])
def z111.l4pack : List Leaf → Option LPack
  | [.s t3001, .i i3002, .ls s3003, .li s3004] => some (.one _ (z111.l4 s3003 (i3002, s3004)) (z111.l4out0 t3001 i3002 s3003 s3004))
  | _ => none
def z111.C : Ctx where
  T := tab
  draws := fun f i => match f, i with | 101, 5 => ([(20, [(1, 0)], 0), (21, [], 0), (22, [(20, 2)], 2), (23, [(19, 1), (21, 3)], 7), (19, [(22, 4)], 15), (24, [(18, 5)], 31), (25, [(18, 5)], 31), (26, [(18, 5)], 31), (5, [], 0), (6, [], 0), (0, [(4, 9), (23, 6)], 831), (0, [(5, 10), (24, 7)], 1919), (7, [(25, 8)], 4095)], 66846832) | 191, 1 => ([(4, [(0, 0)], 0), (5, [(3, 1)], 1), (6, [(4, 2)], 3), (7, [(5, 3)], 7), (8, [(6, 4)], 15), (9, [(0, 0)], 0), (10, [(8, 6)], 32), (11, [(9, 7)], 96), (12, [(10, 8)], 224), (13, [(11, 9)], 480), (14, [(7, 5), (12, 10)], 1023), (3, [(13, 11)], 2047)], 16380) | _, _ => ([], 0)
  call := fun g args => match g with | 104 => z15.pack args | 158 => z34.pack args | 162 => z61.pack args | 188 => z56.pack args | 189 => z110.pack args | _ => none
  inl := fun g => match g with | 191 => some (ifun Tryz.f191) | 190 => some (ifun Tryz.f190) | _ => none
  rank := fun g => match g with | 190 => 1 | _ => 0
  prim := fun g => match g with | 246 => some (copyP 274) | _ => none
  keep := fun f i => match f, i with | 101, 2 => ([1, 2, 3, 4, 7, 27, 28, 29], [0, 1, 2], []) | 101, 0 => ([1, 2, 3], [0, 1], []) | 101, 4 => ([2, 3, 11, 12], [1, 2, 3], []) | _, _ => ([], [], [])
  keepE := fun f i => match f, i with | 101, 2 => ([1, 2, 3, 4, 7, 27, 28, 29], [0, 1, 2], []) | 101, 0 => ([1, 2, 3], [0, 1], []) | 101, 4 => ([2, 3, 11, 12], [1, 2, 3], []) | _, _ => ([], [], [])
  keepR := fun f i => match f, i with | 101, 2 => ([2], [0, 1, 2], [2]) | 101, 0 => ([2], [0, 1], [2]) | 101, 4 => ([2], [1, 2, 3], [2]) | _, _ => ([], [], [])
  unroll := fun f i => match f, i with | 101, 4 => 1 | _, _ => 0
  L := fun f i b st => match f, i, b with | 101, 2, 0 => (matchSt z111.l2sh st).bind z111.l2pack | 101, 0, 0 => (matchSt z111.l0sh st).bind z111.l0pack | 101, 4, 0 => (matchSt z111.l4sh st).bind z111.l4pack | _, _, _ => none
def z111.dec : V → Option ((List UInt8))
  | (.str x0) => some x0
  | _ => none
theorem z111.l2_link (R : Type) (k : Env × Store → Option R) (d : X × Env × Store → Option R) (t2001 : List UInt8) (low2002 : Int) (t2003 : List Int) (t2004 : Int) (t2005 : Int) (s2006 : List Int) (s2007 : List (List UInt8)) (s2008 : List Int) :
    z111.C.loopP 101 2 (loopAt 2 (ifun Tryz.f101).body) 4 k d (fillSt z111.l2sh [.s t2001, .i low2002, .li t2003, .i t2004, .i t2005, .li s2006, .ls s2007, .li s2008]) =
    z111.l2P t2003 t2004 (fun x' => k (fillSt z111.l2sh [.s t2001, .i x'.1, .li t2003, .i t2004, .i x'.2, .li s2006, .ls s2007, .li s2008])) (fun o => d (z111.l2out0 t2001 low2002 t2003 t2004 t2005 s2006 s2007 s2008 o)) (low2002, t2005) := by kernel_rfl
theorem z111.l0_link (R : Type) (k : Env × Store → Option R) (d : X × Env × Store → Option R) (t1001 : List UInt8) (s1002 : List Int) (s1003 : List (List UInt8)) :
    z111.C.loopP 101 0 (loopAt 0 (ifun Tryz.f101).body) 2 k d (fillSt z111.l0sh [.s t1001, .li s1002, .ls s1003]) =
    z111.l0P  (fun x' => k (fillSt z111.l0sh [.s t1001, .li x'.1, .ls x'.2])) (fun o => d (z111.l0out0 t1001 s1002 s1003 o)) (s1002, s1003) := by kernel_rfl
theorem z111.l4_link (R : Type) (k : Env × Store → Option R) (d : X × Env × Store → Option R) (t3001 : List UInt8) (i3002 : Int) (s3003 : List (List UInt8)) (s3004 : List Int) :
    z111.C.loopP 101 4 (loopAt 4 (ifun Tryz.f101).body) 4 k d (fillSt z111.l4sh [.s t3001, .i i3002, .ls s3003, .li s3004]) =
    z111.l4P s3003 (fun x' => k (fillSt z111.l4sh [.s t3001, .i x'.1, .ls s3003, .li x'.2])) (fun o => d (z111.l4out0 t3001 i3002 s3003 s3004 o)) (i3002, s3004) := by kernel_rfl
theorem z111.link (a0 : List Int) : z111.C.evTop 101 (ifun Tryz.f101) [(.agg [(.ints false .u64 a0)])] z111.dec = z111.F a0 := by kernel_rfl
def z112.C : Ctx where
  T := tab
  call := fun g args => match g with | 101 => z111.pack args | _ => none
def z112.dec : V → Option ((List UInt8))
  | (.str x0) => some x0
  | _ => none
theorem z112.link (a0 : List Int) (a1 : Bool) : z112.C.evTop 25 (ifun Tryz.f25) [(.agg [(.ints false .u64 a0), (.bool a1)])] z112.dec = z112.F a0 a1 := by kernel_rfl
def z113.C : Ctx where
  T := tab
  draws := fun f i => match f, i with | 41, 3 => ([(10, [(1, 0)], 0), (11, [(9, 1)], 1), (12, [(10, 2)], 3), (13, [(11, 3)], 7), (14, [(1, 0)], 0), (15, [(13, 5)], 23), (16, [(14, 6)], 55), (17, [(12, 4), (15, 7)], 127), (3, [(16, 8)], 255)], 130564) | _, _ => ([], 0)
  call := fun g args => match g with | 104 => z15.pack args | 25 => z112.pack args | 130 => z66.pack args | 101 => z111.pack args | _ => none
def z113.dec : V → Option ((List UInt8))
  | (.str x0) => some x0
  | _ => none
theorem z113.link (a0 : List Int) (a1 : Bool) (a2 : List Int) : z113.C.evTop 41 (ifun Tryz.f41) [(.agg [(.ints false .u64 a0), (.bool a1), (.ints false .u64 a2)])] z113.dec = z113.F a0 a1 a2 := by kernel_rfl
def z117.C : Ctx where
  T := tab
  call := fun g args => match g with | 26 => z7.pack args | 102 => z6.pack args | _ => none
def z117.dec : V → Option ((List UInt8))
  | (.str x0) => some x0
  | _ => none
theorem z117.link (a0 : List Int) (a1 : Bool) (a2 : List Int) : z117.C.evTop 42 (ifun Tryz.f42) [(.agg [(.ints false .i64 a0), (.bool a1), (.ints false .i64 a2)])] z117.dec = z117.F a0 a1 a2 := by kernel_rfl
end
end Go.Proofs.YtgjncgiekniniaaGreatDoor.A
end
