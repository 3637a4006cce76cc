/- Part 2 of the proof of TermsWords.card. -/
import Derived.Test.YtgjncgiekniniaaGreatDoorCtw1
import Derived.Test.YtgjncgiekniniaaGreatDoorRows
import Derived.WalkKit
import Derived.ProofKit
import Derived.OpenShut
import Derived.Carry
import Derived.ChangeSame
import Derived.Deep.Slices
import Derived.Test.YtgjncgiekniniaaGreatDoorCards
import Derived.Test.YtgjncgiekniniaaGreatDoorTie
import Derived.KernelRfl
import Derived.JoinedCond
section
namespace Go.Proofs.YtgjncgiekniniaaGreatDoor.A
open Go
def tab : Tab :=
  (.node 100 { d := .tuple, size := 1, bytes := 0, zero := [.undef], flat := [100] } (.node 63 { d := .tuple, size := 1, bytes := 0, zero := [.undef], flat := [63] } (.node 30 { d := .slice 41, size := 1, bytes := 24, zero := [(.recs true 3 [])], flat := [30] } (.node 9 { d := .str, size := 1, bytes := 16, zero := [(.str ([] : List UInt8))], flat := [9] } (.node 4 { d := .bool, size := 1, bytes := 1, zero := [(.bool false)], flat := [4] } (.node 3 { d := .int .i64, size := 1, bytes := 8, zero := [(.int .i64 (0 : Int))], flat := [3] } (.node 0 { d := .tuple, size := 1, bytes := 0, zero := [.undef], flat := [0] } .nil .nil) .nil) (.node 5 { d := .int .u8, size := 1, bytes := 1, zero := [(.int .u8 (0 : Int))], flat := [5] } .nil .nil)) (.node 22 { d := .array 3 3, size := 3, bytes := 24, zero := [(.int .i64 (0 : Int)), (.int .i64 (0 : Int)), (.int .i64 (0 : Int))], flat := [3, 3, 3] } (.node 21 { d := .int .i32, size := 1, bytes := 4, zero := [(.int .i32 (0 : Int))], flat := [21] } .nil .nil) (.node 23 { d := .slice 5, size := 1, bytes := 24, zero := [(.ints true .u8 [])], flat := [23] } .nil .nil))) (.node 39 { d := .struct [(0, 1, 37), (1, 1, 4)], size := 2, bytes := 32, zero := [(.ints true .u64 []), (.bool false)], flat := [35, 4] } (.node 35 { d := .slice 79, size := 1, bytes := 24, zero := [(.ints true .u64 [])], flat := [35] } (.node 32 { d := .int .i64, size := 1, bytes := 8, zero := [(.int .i64 (0 : Int))], flat := [32] } .nil .nil) (.node 37 { d := .struct [(0, 1, 35)], size := 1, bytes := 24, zero := [(.ints true .u64 [])], flat := [35] } .nil .nil)) (.node 45 { d := .slice 3, size := 1, bytes := 24, zero := [(.ints true .i64 [])], flat := [45] } (.node 41 { d := .struct [(0, 1, 3), (1, 1, 3), (2, 1, 3)], size := 3, bytes := 24, zero := [(.int .i64 (0 : Int)), (.int .i64 (0 : Int)), (.int .i64 (0 : Int))], flat := [3, 3, 3], eq := true } .nil .nil) (.node 47 { d := .struct [(0, 1, 45), (1, 1, 4)], size := 2, bytes := 32, zero := [(.ints true .i64 []), (.bool false)], flat := [45, 4] } .nil .nil)))) (.node 81 { d := .int .u32, size := 1, bytes := 4, zero := [(.int .u32 (0 : Int))], flat := [81] } (.node 73 { d := .tuple, size := 1, bytes := 0, zero := [.undef], flat := [73] } (.node 69 { d := .tuple, size := 1, bytes := 0, zero := [.undef], flat := [69] } (.node 68 { d := .struct [(0, 2, 39), (2, 1, 37)], size := 3, bytes := 56, zero := [(.ints true .u64 []), (.bool false), (.ints true .u64 [])], flat := [35, 4, 35] } (.node 65 { d := .tuple, size := 1, bytes := 0, zero := [.undef], flat := [65] } .nil .nil) .nil) (.node 72 { d := .struct [(0, 2, 47), (2, 1, 45)], size := 3, bytes := 56, zero := [(.ints true .i64 []), (.bool false), (.ints true .i64 [])], flat := [45, 4, 45] } .nil .nil)) (.node 79 { d := .int .u64, size := 1, bytes := 8, zero := [(.int .u64 (0 : Int))], flat := [79] } (.node 78 { d := .struct [(0, 1, 9), (1, 1, 9), (2, 1, 3), (3, 1, 3), (4, 1, 3), (5, 3, 41), (8, 1, 3), (9, 1, 3)], size := 10, bytes := 96, zero := [(.str ([] : List UInt8)), (.str ([] : List UInt8)), (.int .i64 (0 : Int)), (.int .i64 (0 : Int)), (.int .i64 (0 : Int)), (.int .i64 (0 : Int)), (.int .i64 (0 : Int)), (.int .i64 (0 : Int)), (.int .i64 (0 : Int)), (.int .i64 (0 : Int))], flat := [9, 9, 3, 3, 3, 3, 3, 3, 3, 3], eq := true } .nil .nil) (.node 80 { d := .int .u16, size := 1, bytes := 2, zero := [(.int .u16 (0 : Int))], flat := [80] } .nil .nil))) (.node 91 { d := .tuple, size := 1, bytes := 0, zero := [.undef], flat := [91] } (.node 85 { d := .struct [(0, 10, 78), (10, 12, 83), (22, 1, 5), (23, 1, 3)], size := 24, bytes := 160, zero := [(.str ([] : List UInt8)), (.str ([] : List UInt8)), (.int .i64 (0 : Int)), (.int .i64 (0 : Int)), (.int .i64 (0 : Int)), (.int .i64 (0 : Int)), (.int .i64 (0 : Int)), (.int .i64 (0 : Int)), (.int .i64 (0 : Int)), (.int .i64 (0 : Int)), (.int .u64 (0 : Int)), (.int .u16 (0 : Int)), (.int .u32 (0 : Int)), (.int .u8 (0 : Int)), (.int .u8 (0 : Int)), (.int .u8 (0 : Int)), (.int .u8 (0 : Int)), (.int .u8 (0 : Int)), (.int .u8 (0 : Int)), (.int .i64 (0 : Int)), (.int .i64 (0 : Int)), (.int .i64 (0 : Int)), (.int .u8 (0 : Int)), (.int .i64 (0 : Int))], flat := [9, 9, 3, 3, 3, 3, 3, 3, 3, 3, 79, 80, 81, 5, 5, 5, 5, 5, 5, 3, 3, 3, 5, 3], eq := true } (.node 83 { d := .struct [(0, 1, 79), (1, 1, 80), (2, 1, 81), (3, 1, 5), (4, 1, 5), (5, 1, 5), (6, 1, 5), (7, 1, 5), (8, 1, 5), (9, 3, 22)], size := 12, bytes := 48, zero := [(.int .u64 (0 : Int)), (.int .u16 (0 : Int)), (.int .u32 (0 : Int)), (.int .u8 (0 : Int)), (.int .u8 (0 : Int)), (.int .u8 (0 : Int)), (.int .u8 (0 : Int)), (.int .u8 (0 : Int)), (.int .u8 (0 : Int)), (.int .i64 (0 : Int)), (.int .i64 (0 : Int)), (.int .i64 (0 : Int))], flat := [79, 80, 81, 5, 5, 5, 5, 5, 5, 3, 3, 3], eq := true } .nil .nil) (.node 90 { d := .slice 9, size := 1, bytes := 24, zero := [(.strs true [])], flat := [90] } .nil .nil)) (.node 97 { d := .tuple, size := 1, bytes := 0, zero := [.undef], flat := [97] } (.node 96 { d := .slice 78, size := 1, bytes := 24, zero := [(.recs true 10 [])], flat := [96] } .nil .nil) (.node 99 { d := .slice 109, size := 1, bytes := 24, zero := [(.recs true 6 [])], flat := [99] } .nil .nil))))) (.node 234 { d := .int .i64, size := 1, bytes := 8, zero := [(.int .i64 (0 : Int))], flat := [234] } (.node 132 { d := .tuple, size := 1, bytes := 0, zero := [.undef], flat := [132] } (.node 112 { d := .int .i16, size := 1, bytes := 2, zero := [(.int .i16 (0 : Int))], flat := [112] } (.node 108 { d := .struct [(0, 3, 41), (3, 3, 41)], size := 6, bytes := 48, zero := [(.int .i64 (0 : Int)), (.int .i64 (0 : Int)), (.int .i64 (0 : Int)), (.int .i64 (0 : Int)), (.int .i64 (0 : Int)), (.int .i64 (0 : Int))], flat := [3, 3, 3, 3, 3, 3], eq := true } (.node 105 { d := .slice 108, size := 1, bytes := 24, zero := [(.recs true 6 [])], flat := [105] } (.node 102 { d := .tuple, size := 1, bytes := 0, zero := [.undef], flat := [102] } .nil .nil) .nil) (.node 109 { d := .struct [(0, 3, 41), (3, 3, 41)], size := 6, bytes := 48, zero := [(.int .i64 (0 : Int)), (.int .i64 (0 : Int)), (.int .i64 (0 : Int)), (.int .i64 (0 : Int)), (.int .i64 (0 : Int)), (.int .i64 (0 : Int))], flat := [3, 3, 3, 3, 3, 3], eq := true } .nil .nil)) (.node 115 { d := .tuple, size := 1, bytes := 0, zero := [.undef], flat := [115] } (.node 113 { d := .tuple, size := 1, bytes := 0, zero := [.undef], flat := [113] } .nil .nil) (.node 117 { d := .tuple, size := 1, bytes := 0, zero := [.undef], flat := [117] } .nil .nil))) (.node 205 { d := .struct [(0, 2, 39), (2, 1, 3)], size := 3, bytes := 40, zero := [(.ints true .u64 []), (.bool false), (.int .i64 (0 : Int))], flat := [35, 4, 3] } (.node 160 { d := .func, size := 1, bytes := 8, zero := [.nilf], flat := [160] } (.node 158 { d := .int .u64, size := 1, bytes := 8, zero := [(.int .u64 (0 : Int))], flat := [158] } .nil .nil) (.node 185 { d := .tuple, size := 1, bytes := 0, zero := [.undef], flat := [185] } .nil .nil)) (.node 213 { d := .struct [(0, 2, 47), (2, 1, 3)], size := 3, bytes := 40, zero := [(.ints true .i64 []), (.bool false), (.int .i64 (0 : Int))], flat := [45, 4, 3] } (.node 206 { d := .tuple, size := 1, bytes := 0, zero := [.undef], flat := [206] } .nil .nil) (.node 214 { d := .tuple, size := 1, bytes := 0, zero := [.undef], flat := [214] } .nil .nil)))) (.node 277 { d := .tuple, size := 1, bytes := 0, zero := [.undef], flat := [277] } (.node 265 { d := .tuple, size := 1, bytes := 0, zero := [.undef], flat := [265] } (.node 245 { d := .tuple, size := 1, bytes := 0, zero := [.undef], flat := [245] } (.node 243 { d := .tuple, size := 1, bytes := 0, zero := [.undef], flat := [243] } (.node 241 { d := .tuple, size := 1, bytes := 0, zero := [.undef], flat := [241] } .nil .nil) .nil) (.node 249 { d := .int .i64, size := 1, bytes := 8, zero := [(.int .i64 (0 : Int))], flat := [249] } .nil .nil)) (.node 274 { d := .struct [(0, 1, 272), (1, 1, 23)], size := 2, bytes := 32, zero := [.nilp, (.ints true .u8 [])], flat := [272, 23] } (.node 272 { d := .ptr 274, size := 1, bytes := 8, zero := [.nilp], flat := [272] } .nil .nil) (.node 276 { d := .iface, size := 1, bytes := 16, zero := [.nili], flat := [276] } .nil .nil))) (.node 304 { d := .tuple, size := 1, bytes := 0, zero := [.undef], flat := [304] } (.node 299 { d := .tuple, size := 1, bytes := 0, zero := [.undef], flat := [299] } (.node 288 { d := .tuple, size := 1, bytes := 0, zero := [.undef], flat := [288] } .nil .nil) (.node 302 { d := .tuple, size := 1, bytes := 0, zero := [.undef], flat := [302] } .nil .nil)) (.node 322 { d := .ptr 5, size := 1, bytes := 8, zero := [.nilp], flat := [322] } (.node 321 { d := .array 20 5, size := 20, bytes := 20, zero := [(.int .u8 (0 : Int)), (.int .u8 (0 : Int)), (.int .u8 (0 : Int)), (.int .u8 (0 : Int)), (.int .u8 (0 : Int)), (.int .u8 (0 : Int)), (.int .u8 (0 : Int)), (.int .u8 (0 : Int)), (.int .u8 (0 : Int)), (.int .u8 (0 : Int)), (.int .u8 (0 : Int)), (.int .u8 (0 : Int)), (.int .u8 (0 : Int)), (.int .u8 (0 : Int)), (.int .u8 (0 : Int)), (.int .u8 (0 : Int)), (.int .u8 (0 : Int)), (.int .u8 (0 : Int)), (.int .u8 (0 : Int)), (.int .u8 (0 : Int))], flat := [5, 5, 5, 5, 5, 5, 5, 5, 5, 5, 5, 5, 5, 5, 5, 5, 5, 5, 5, 5] } .nil .nil) (.node 331 { d := .array 12 3, size := 12, bytes := 96, zero := [(.int .i64 (0 : Int)), (.int .i64 (0 : Int)), (.int .i64 (0 : Int)), (.int .i64 (0 : Int)), (.int .i64 (0 : Int)), (.int .i64 (0 : Int)), (.int .i64 (0 : Int)), (.int .i64 (0 : Int)), (.int .i64 (0 : Int)), (.int .i64 (0 : Int)), (.int .i64 (0 : Int)), (.int .i64 (0 : Int))], flat := [3, 3, 3, 3, 3, 3, 3, 3, 3, 3, 3, 3] } .nil .nil))))))
end Go.Proofs.YtgjncgiekniniaaGreatDoor.A
end
section
set_option linter.unusedVariables false
namespace Go.Proofs.YtgjncgiekniniaaGreatDoor.A
open Go
noncomputable section
def z6.l0b6P (a7001 : List Int) {R : Type} (rec : Int → Option R) (done : (Int) → Option R) : Int → Option R := fun n7002 => (bif (decide (n7002 > (0 : Int))) then (if (0 : Int) ≤ (wr .i64 (n7002 - (1 : Int))) ∧ (wr .i64 (n7002 - (1 : Int))) < (a7001.length : Int) then (bif (decide ((a7001.getD ((wr .i64 (n7002 - (1 : Int)))).toNat 0) = (0 : Int))) then (rec (wr .i64 (n7002 - (1 : Int)))) else (done n7002)) else none) else (done n7002))
def z6.l0b6 (a7001 : List Int) (x : Int) : Option ((Int)) := lfp (fun rec x => z6.l0b6P a7001 rec some x) x
def z6.F (a0 : List Int) : Option ((List Int)) :=
  ((z6.l0b6 a0 (((a0).length : Nat) : Int)).bind fun o1 => (if (0 : Int) ≤ o1 ∧ o1 ≤ (a0.length : Int) then (some (a0.take (o1).toNat)) else none))
def z7.F (a0 : List Int) : Option (Bool) :=
  (some (decide ((((a0).length : Nat) : Int) = (0 : Int))))
def z7.enc (r : Bool) : V := (.bool r)
def z7.pack : List V → Option Pack
  | [(.agg [(.ints _ .u64 a0)])] => some ⟨Bool, z7.F a0, z7.enc⟩
  | _ => none
def z8.F (a0 : List Int) (a1 : Bool) : Option (Int) :=
  ((z7.F a0).bind fun r1 => (bif r1 then (some (0 : Int)) else (bif a1 then (some (-1 : Int)) else (some (1 : Int)))))
def z8.enc (r : Int) : V := (.int .i64 r)
def z8.pack : List V → Option Pack
  | [(.agg [(.ints _ .u64 a0), (.bool a1)])] => some ⟨Int, z8.F a0 a1, z8.enc⟩
  | _ => none
def z9.F (a0 : List Int) (a1 : Bool) : Option ((List Int) × Bool) :=
  (bif a1 then ((z7.F a0).bind fun r1 => (some (a0, (!r1)))) else (some (a0, false)))
def z9.enc (r : (List Int) × Bool) : V := (.agg [(.ints false .u64 r.1), (.bool r.2)])
def z9.pack : List V → Option Pack
  | [(.agg [(.ints _ .u64 a0)]), (.bool a1)] => some ⟨(List Int) × Bool, z9.F a0 a1, z9.enc⟩
  | _ => none
def z10.F (a0 : List Int) (a1 : Int) : Option (Int) :=
  (bif (decide (a1 ≥ (((a0).length : Nat) : Int))) then (some (0 : Int)) else (if (0 : Int) ≤ a1 ∧ a1 < (a0.length : Int) then (some (a0.getD (a1).toNat 0)) else none))
def z10.enc (r : Int) : V := (.int .u64 r)
def z10.pack : List V → Option Pack
  | [(.agg [(.ints _ .u64 a0)]), (.int .i64 a1)] => some ⟨Int, z10.F a0 a1, z10.enc⟩
  | _ => none
def z11.l0b6P (l7001 : List Int) {R : Type} (rec : Int → Option R) (done : (Int) → Option R) : Int → Option R := fun n7002 => (bif (decide (n7002 > (0 : Int))) then (if (0 : Int) ≤ (wr .i64 (n7002 - (1 : Int))) ∧ (wr .i64 (n7002 - (1 : Int))) < (l7001.length : Int) then (bif (decide ((l7001.getD ((wr .i64 (n7002 - (1 : Int)))).toNat 0) = (0 : Int))) then (rec (wr .i64 (n7002 - (1 : Int)))) else (done n7002)) else none) else (done n7002))
def z11.l0b6 (l7001 : List Int) (x : Int) : Option ((Int)) := lfp (fun rec x => z11.l0b6P l7001 rec some x) x
def z11.F (a0 : List Int) : Option ((List Int)) :=
  ((z11.l0b6 a0 (((a0).length : Nat) : Int)).bind fun o1 => (if (0 : Int) ≤ o1 ∧ o1 ≤ o1 ∧ o1 ≤ (a0.length : Int) then (some (a0.take (o1).toNat)) else none))
def z11.enc (r : (List Int)) : V := (.agg [(.ints false .u64 r)])
def z11.pack : List V → Option Pack
  | [(.ints _ .u64 a0)] => some ⟨(List Int), z11.F a0, z11.enc⟩
  | _ => none
def z12.l0P (t1002 : Int) (s1004 : List Int) (s1005 : List Int) {R : Type} (rec : (Int × Int × (List Int)) → Option R) (done : (Int × Int × (List Int)) → Option R) : (Int × Int × (List Int)) → Option R := fun x => match x with
  | (carry1001, t1003, s1007) => (bif (decide (t1003 < t1002)) then ((z10.F s1004 t1003).bind fun r1008 => ((z10.F s1005 t1003).bind fun r1009 => ((z0.F r1008 r1009 carry1001).bind fun r1010 => (if (0 : Int) ≤ t1003 ∧ t1003 < (s1007.length : Int) then (if (t1003).toNat < s1007.length then (rec (r1010.2, (wr .i64 (t1003 + (1 : Int))), (s1007.set (t1003).toNat r1010.1))) else none) else none)))) else (done (carry1001, t1003, s1007)))
def z12.l0 (t1002 : Int) (s1004 : List Int) (s1005 : List Int) (x : (Int × Int × (List Int))) : Option ((Int × Int × (List Int))) := lfp (fun rec x => z12.l0P t1002 s1004 s1005 rec some x) x
def z12.F (a0 : List Int) (a1 : List Int) : Option ((List Int)) :=
  (if 0 ≤ (wr .i64 ((if (((a1).length : Nat) : Int) > (((a0).length : Nat) : Int) then (((a1).length : Nat) : Int) else (((a0).length : Nat) : Int)) + (1 : Int))) ∧ (wr .i64 ((if (((a1).length : Nat) : Int) > (((a0).length : Nat) : Int) then (((a1).length : Nat) : Int) else (((a0).length : Nat) : Int)) + (1 : Int))) * 8 ≤ 140737488355328 then ((z12.l0 ((((List.replicate ((wr .i64 ((if (((a1).length : Nat) : Int) > (((a0).length : Nat) : Int) then (((a1).length : Nat) : Int) else (((a0).length : Nat) : Int)) + (1 : Int)))).toNat (0 : Int))).length : Nat) : Int) a0 a1 ((0 : Int), (0 : Int), (List.replicate ((wr .i64 ((if (((a1).length : Nat) : Int) > (((a0).length : Nat) : Int) then (((a1).length : Nat) : Int) else (((a0).length : Nat) : Int)) + (1 : Int)))).toNat (0 : Int)))).bind fun o1 => ((z11.F o1.2.2).bind fun r2 => (some r2))) else none)
def z12.enc (r : (List Int)) : V := (.agg [(.ints false .u64 r)])
def z12.pack : List V → Option Pack
  | [(.agg [(.ints _ .u64 a0)]), (.agg [(.ints _ .u64 a1)])] => some ⟨(List Int), z12.F a0 a1, z12.enc⟩
  | _ => none
def z13.F (a0 : Int) : Option (Bool) :=
  (some (!decide (a0 = a0)))
def z13.enc (r : Bool) : V := (.bool r)
def z13.pack : List V → Option Pack
  | [(.int .i64 a0)] => some ⟨Bool, z13.F a0, z13.enc⟩
  | _ => none
def z14.F (a0 : Int) (a1 : Int) : Option (Int) :=
  ((z13.F a0).bind fun r1 => ((z13.F a1).bind fun r2 => (bif r1 then (bif r2 then (some (0 : Int)) else (some (-1 : Int))) else (bif r2 then (some (1 : Int)) else (bif (decide (a0 < a1)) then (some (-1 : Int)) else (bif (decide (a0 > a1)) then (some (1 : Int)) else (some (0 : Int))))))))
def z14.enc (r : Int) : V := (.int .i64 r)
def z14.pack : List V → Option Pack
  | [(.int .i64 a0), (.int .i64 a1)] => some ⟨Int, z14.F a0 a1, z14.enc⟩
  | _ => none
def z15.F (a0 : Int) : Option (Bool) :=
  (some (!decide (a0 = a0)))
def z15.enc (r : Bool) : V := (.bool r)
def z15.pack : List V → Option Pack
  | [(.int .u64 a0)] => some ⟨Bool, z15.F a0, z15.enc⟩
  | _ => none
def z16.F (a0 : Int) (a1 : Int) : Option (Int) :=
  ((z15.F a0).bind fun r1 => ((z15.F a1).bind fun r2 => (bif r1 then (bif r2 then (some (0 : Int)) else (some (-1 : Int))) else (bif r2 then (some (1 : Int)) else (bif (decide (a0 < a1)) then (some (-1 : Int)) else (bif (decide (a0 > a1)) then (some (1 : Int)) else (some (0 : Int))))))))
def z16.enc (r : Int) : V := (.int .i64 r)
def z16.pack : List V → Option Pack
  | [(.int .u64 a0), (.int .u64 a1)] => some ⟨Int, z16.F a0 a1, z16.enc⟩
  | _ => none
def z17.l0P (s1003 : List Int) (s1004 : List Int) {R : Type} (rec : Int → Option R) (done : ((Int) ⊕ (Int)) → Option R) : Int → Option R := fun i1002 => (bif (decide (i1002 ≥ (0 : Int))) then (if (0 : Int) ≤ i1002 ∧ i1002 < (s1003.length : Int) then (if (0 : Int) ≤ i1002 ∧ i1002 < (s1004.length : Int) then ((z16.F (s1003.getD (i1002).toNat 0) (s1004.getD (i1002).toNat 0)).bind fun r1005 => (bif (!decide (r1005 = (0 : Int))) then (done (.inr r1005)) else (rec (wr .i64 (i1002 - (1 : Int)))))) else none) else none) else (done (.inl i1002)))
def z17.l0 (s1003 : List Int) (s1004 : List Int) (x : Int) : Option (((Int) ⊕ (Int))) := lfp (fun rec x => z17.l0P s1003 s1004 rec some x) x
def z17.F (a0 : List Int) (a1 : List Int) : Option (Int) :=
  ((z14.F (((a0).length : Nat) : Int) (((a1).length : Nat) : Int)).bind fun r1 => (bif (!decide (r1 = (0 : Int))) then (some r1) else ((z17.l0 a0 a1 (wr .i64 ((((a0).length : Nat) : Int) - (1 : Int)))).bind fun o2 => match o2 with | .inl p3 => (some (0 : Int)) | .inr q4 => (some q4))))
def z17.enc (r : Int) : V := (.int .i64 r)
def z17.pack : List V → Option Pack
  | [(.agg [(.ints _ .u64 a0)]), (.agg [(.ints _ .u64 a1)])] => some ⟨Int, z17.F a0 a1, z17.enc⟩
  | _ => none
def z18.l0P (t1003 : Int) (s1005 : List Int) (s1006 : List Int) {R : Type} (rec : (Int × Int × (List Int)) → Option R) (done : (Int × Int × (List Int)) → Option R) : (Int × Int × (List Int)) → Option R := fun x => match x with
  | (borrow1002, t1004, s1008) => (bif (decide (t1004 < t1003)) then (if (0 : Int) ≤ t1004 ∧ t1004 < (s1005.length : Int) then ((z10.F s1006 t1004).bind fun r1009 => ((z1.F (s1005.getD (t1004).toNat 0) r1009 borrow1002).bind fun r1010 => (if (0 : Int) ≤ t1004 ∧ t1004 < (s1008.length : Int) then (if (t1004).toNat < s1008.length then (rec (r1010.2, (wr .i64 (t1004 + (1 : Int))), (s1008.set (t1004).toNat r1010.1))) else none) else none))) else none) else (done (borrow1002, t1004, s1008)))
def z18.l0 (t1003 : Int) (s1005 : List Int) (s1006 : List Int) (x : (Int × Int × (List Int))) : Option ((Int × Int × (List Int))) := lfp (fun rec x => z18.l0P t1003 s1005 s1006 rec some x) x
def z18.F (a0 : List Int) (a1 : List Int) : Option ((List Int) × Bool) :=
  ((z17.F a0 a1).bind fun r1 => (bif (decide (r1 < (0 : Int))) then (some ([], false)) else (if 0 ≤ (((a0).length : Nat) : Int) ∧ (((a0).length : Nat) : Int) * 8 ≤ 140737488355328 then ((z18.l0 ((((List.replicate ((((a0).length : Nat) : Int)).toNat (0 : Int))).length : Nat) : Int) a0 a1 ((0 : Int), (0 : Int), (List.replicate ((((a0).length : Nat) : Int)).toNat (0 : Int)))).bind fun o2 => ((z11.F o2.2.2).bind fun r3 => (some (r3, true)))) else none)))
def z18.enc (r : (List Int) × Bool) : V := (.tup [(.agg [(.ints false .u64 r.1)]), (.bool r.2)])
def z18.pack : List V → Option Pack
  | [(.agg [(.ints _ .u64 a0)]), (.agg [(.ints _ .u64 a1)])] => some ⟨(List Int) × Bool, z18.F a0 a1, z18.enc⟩
  | _ => none
def z19.F (a0 : List Int) (a1 : Bool) (a2 : List Int) (a3 : Bool) : Option ((List Int) × Bool) :=
  (bif (decide (a1 = a3)) then ((z12.F a0 a2).bind fun r1 => ((z9.F r1 a1).bind fun r2 => (some (r2.1, r2.2)))) else ((z18.F a0 a2).bind fun r3 => (bif r3.2 then ((z9.F r3.1 a1).bind fun r4 => (some (r4.1, r4.2))) else ((z18.F a2 a0).bind fun r5 => ((z9.F r5.1 a3).bind fun r6 => (some (r6.1, r6.2)))))))
def z19.enc (r : (List Int) × Bool) : V := (.agg [(.ints false .u64 r.1), (.bool r.2)])
def z19.pack : List V → Option Pack
  | [(.agg [(.ints _ .u64 a0), (.bool a1)]), (.agg [(.ints _ .u64 a2), (.bool a3)])] => some ⟨(List Int) × Bool, z19.F a0 a1 a2 a3, z19.enc⟩
  | _ => none
def z20.F (a0 : List Int) (a1 : Bool) : Option ((List Int) × Bool) :=
  ((z9.F a0 (!a1)).bind fun r1 => (some (r1.1, r1.2)))
def z20.enc (r : (List Int) × Bool) : V := (.agg [(.ints false .u64 r.1), (.bool r.2)])
def z20.pack : List V → Option Pack
  | [(.agg [(.ints _ .u64 a0), (.bool a1)])] => some ⟨(List Int) × Bool, z20.F a0 a1, z20.enc⟩
  | _ => none
def z21.F (a0 : List Int) (a1 : Bool) (a2 : List Int) (a3 : Bool) : Option ((List Int) × Bool) :=
  ((z20.F a2 a3).bind fun r1 => ((z19.F a0 a1 r1.1 r1.2).bind fun r2 => (some (r2.1, r2.2))))
def z21.enc (r : (List Int) × Bool) : V := (.agg [(.ints false .u64 r.1), (.bool r.2)])
def z21.pack : List V → Option Pack
  | [(.agg [(.ints _ .u64 a0), (.bool a1)]), (.agg [(.ints _ .u64 a2), (.bool a3)])] => some ⟨(List Int) × Bool, z21.F a0 a1 a2 a3, z21.enc⟩
  | _ => none
def z22.F (a0 : List Int) (a1 : Bool) (a2 : List Int) (a3 : Bool) : Option (Int) :=
  ((z21.F a0 a1 a2 a3).bind fun r1 => ((z8.F r1.1 r1.2).bind fun r2 => (some r2)))
def z22.enc (r : Int) : V := (.int .i64 r)
def z22.pack : List V → Option Pack
  | [(.agg [(.ints _ .u64 a0), (.bool a1)]), (.agg [(.ints _ .u64 a2), (.bool a3)])] => some ⟨Int, z22.F a0 a1 a2 a3, z22.enc⟩
  | _ => none
def z23.F (a0 : List UInt8) (a1 : List UInt8) : Option (Bool) :=
  (bif (decide ((a0.length : Int) ≥ (a1.length : Int))) then (if (0 : Int) ≤ (a1.length : Int) ∧ (a1.length : Int) ≤ ((a0).length : Int) then (some (decide ((a0.take ((a1.length : Int)).toNat) = a1))) else none) else (some false))
def z23.enc (r : Bool) : V := (.bool r)
def z23.pack : List V → Option Pack
  | [(.str a0), (.str a1)] => some ⟨Bool, z23.F a0 a1, z23.enc⟩
  | _ => none
def z24.F (a0 : List UInt8) (a1 : List UInt8) : Option ((List UInt8) × Bool) :=
  ((z23.F a0 a1).bind fun r1 => (bif (!r1) then (some (a0, false)) else (if (0 : Int) ≤ (a1.length : Int) ∧ (a1.length : Int) ≤ ((a0).length : Int) then (some ((a0.drop ((a1.length : Int)).toNat), true)) else none)))
def z24.enc (r : (List UInt8) × Bool) : V := (.tup [(.str r.1), (.bool r.2)])
def z24.pack : List V → Option Pack
  | [(.str a0), (.str a1)] => some ⟨(List UInt8) × Bool, z24.F a0 a1, z24.enc⟩
  | _ => none
def z25.F (a0 : List UInt8) (a1 : List UInt8) : Option ((List UInt8) × Bool) :=
  ((z24.F a0 a1).bind fun r1 => (some (r1.1, r1.2)))
def z25.enc (r : (List UInt8) × Bool) : V := (.tup [(.str r.1), (.bool r.2)])
def z25.pack : List V → Option Pack
  | [(.str a0), (.str a1)] => some ⟨(List UInt8) × Bool, z25.F a0 a1, z25.enc⟩
  | _ => none
def z26.F (a0 : List Int) : Option ((List Int)) :=
  (if (a0).length * 8 ≤ 140737488355328 then ((z11.F a0).bind fun r1 => (some r1)) else none)
def z26.enc (r : (List Int)) : V := (.agg [(.ints false .u64 r)])
def z26.pack : List V → Option Pack
  | [(.ints _ .u64 a0)] => some ⟨(List Int), z26.F a0, z26.enc⟩
  | _ => none
def z27.F (a0 : Int) (a1 : Int) : Option (Int × Int) :=
  (some ((wr .u64 ((wr .u64 ((wr .u64 ((Int.fdiv a0 (2 ^ (min 32 (64 : Nat)))) * (Int.fdiv a1 (2 ^ (min 32 (64 : Nat)))))) + (Int.fdiv (wr .u64 ((wr .u64 ((Int.fdiv a0 (2 ^ (min 32 (64 : Nat)))) * (wr .u64 ((BitVec.ofInt (IntKind.bits .u64) a1 &&& BitVec.ofInt (IntKind.bits .u64) (4294967295 : Int)).toNat : Int)))) + (Int.fdiv (wr .u64 ((wr .u64 ((BitVec.ofInt (IntKind.bits .u64) a0 &&& BitVec.ofInt (IntKind.bits .u64) (4294967295 : Int)).toNat : Int)) * (wr .u64 ((BitVec.ofInt (IntKind.bits .u64) a1 &&& BitVec.ofInt (IntKind.bits .u64) (4294967295 : Int)).toNat : Int)))) (2 ^ (min 32 (64 : Nat)))))) (2 ^ (min 32 (64 : Nat)))))) + (Int.fdiv (wr .u64 ((wr .u64 ((BitVec.ofInt (IntKind.bits .u64) (wr .u64 ((wr .u64 ((Int.fdiv a0 (2 ^ (min 32 (64 : Nat)))) * (wr .u64 ((BitVec.ofInt (IntKind.bits .u64) a1 &&& BitVec.ofInt (IntKind.bits .u64) (4294967295 : Int)).toNat : Int)))) + (Int.fdiv (wr .u64 ((wr .u64 ((BitVec.ofInt (IntKind.bits .u64) a0 &&& BitVec.ofInt (IntKind.bits .u64) (4294967295 : Int)).toNat : Int)) * (wr .u64 ((BitVec.ofInt (IntKind.bits .u64) a1 &&& BitVec.ofInt (IntKind.bits .u64) (4294967295 : Int)).toNat : Int)))) (2 ^ (min 32 (64 : Nat)))))) &&& BitVec.ofInt (IntKind.bits .u64) (4294967295 : Int)).toNat : Int)) + (wr .u64 ((wr .u64 ((BitVec.ofInt (IntKind.bits .u64) a0 &&& BitVec.ofInt (IntKind.bits .u64) (4294967295 : Int)).toNat : Int)) * (Int.fdiv a1 (2 ^ (min 32 (64 : Nat)))))))) (2 ^ (min 32 (64 : Nat)))))), (wr .u64 (a0 * a1))))
def z27.enc (r : Int × Int) : V := (.tup [(.int .u64 r.1), (.int .u64 r.2)])
def z27.pack : List V → Option Pack
  | [(.int .u64 a0), (.int .u64 a1)] => some ⟨Int × Int, z27.F a0 a1, z27.enc⟩
  | _ => none
def z28.l0aP (x2001 : Int) (l2002 : Nat) (l2003 : Nat) (t2005 : List Int) (t2006 : Int) {R : Type} (rec : (Int × Int × (List Int)) → Option R) (done : (Int × Int × (List Int)) → Option R) : (Int × Int × (List Int)) → Option R := fun x => match x with
  | (carry2004, t2007, s2010) => (bif (decide (t2007 < t2006)) then (if (0 : Int) ≤ t2007 ∧ t2007 < (t2005.length : Int) then ((z27.F x2001 (t2005.getD (t2007).toNat 0)).bind fun r2012 => ((z0.F r2012.2 carry2004 (0 : Int)).bind fun r2013 => (if (0 : Int) ≤ t2007 ∧ t2007 < ((l2003 : Nat) : Int) then (if (l2002 + (t2007).toNat) < s2010.length then ((z0.F (s2010.getD (l2002 + (t2007).toNat) 0) r2013.1 (0 : Int)).bind fun r2014 => (if (0 : Int) ≤ t2007 ∧ t2007 < ((l2003 : Nat) : Int) then (if (l2002 + (t2007).toNat) < s2010.length then (rec ((wr .u64 ((wr .u64 (r2012.1 + r2013.2)) + r2014.2)), (wr .i64 (t2007 + (1 : Int))), (s2010.set (l2002 + (t2007).toNat) r2014.1))) else none) else none)) else none) else none))) else none) else (done (carry2004, t2007, s2010)))
def z28.l0a (x2001 : Int) (l2002 : Nat) (l2003 : Nat) (t2005 : List Int) (t2006 : Int) (x : (Int × Int × (List Int))) : Option ((Int × Int × (List Int))) := lfp (fun rec x => z28.l0aP x2001 l2002 l2003 t2005 t2006 rec some x) x
def z28.l0P (t1001 : List Int) (t1002 : Int) (s1004 : List Int) {R : Type} (rec : (Int × (List Int)) → Option R) (done : (Int × (List Int)) → Option R) : (Int × (List Int)) → Option R := fun x => match x with
  | (t1003, s1006) => (bif (decide (t1003 < t1002)) then (if (0 : Int) ≤ t1003 ∧ t1003 < (t1001.length : Int) then (if (0 : Int) ≤ t1003 ∧ t1003 ≤ ((s1006).length : Int) then ((z28.l0a (t1001.getD (t1003).toNat 0) (t1003).toNat ((s1006).length - (t1003).toNat) s1004 (((s1004).length : Nat) : Int) ((0 : Int), (0 : Int), s1006)).bind fun o1007 => (if (0 : Int) ≤ (((s1004).length : Nat) : Int) ∧ (((s1004).length : Nat) : Int) < ((((s1006).length - (t1003).toNat) : Nat) : Int) then (if ((t1003).toNat + ((((s1004).length : Nat) : Int)).toNat) < o1007.2.2.length then (if (0 : Int) ≤ (((s1004).length : Nat) : Int) ∧ (((s1004).length : Nat) : Int) < ((((s1006).length - (t1003).toNat) : Nat) : Int) then (if ((t1003).toNat + ((((s1004).length : Nat) : Int)).toNat) < o1007.2.2.length then (rec ((wr .i64 (t1003 + (1 : Int))), (o1007.2.2.set ((t1003).toNat + ((((s1004).length : Nat) : Int)).toNat) (wr .u64 ((o1007.2.2.getD ((t1003).toNat + ((((s1004).length : Nat) : Int)).toNat) 0) + o1007.1))))) else none) else none) else none) else none)) else none) else none) else (done (t1003, s1006)))
def z28.l0 (t1001 : List Int) (t1002 : Int) (s1004 : List Int) (x : (Int × (List Int))) : Option ((Int × (List Int))) := lfp (fun rec x => z28.l0P t1001 t1002 s1004 rec some x) x
def z28.F (a0 : List Int) (a1 : List Int) : Option ((List Int)) :=
  (if 0 ≤ (wr .i64 ((wr .i64 ((((a0).length : Nat) : Int) + (((a1).length : Nat) : Int))) + (1 : Int))) ∧ (wr .i64 ((wr .i64 ((((a0).length : Nat) : Int) + (((a1).length : Nat) : Int))) + (1 : Int))) * 8 ≤ 140737488355328 then ((z28.l0 a1 (((a1).length : Nat) : Int) a0 ((0 : Int), (List.replicate ((wr .i64 ((wr .i64 ((((a0).length : Nat) : Int) + (((a1).length : Nat) : Int))) + (1 : Int)))).toNat (0 : Int)))).bind fun o1 => ((z11.F o1.2).bind fun r2 => (some r2))) else none)
def z28.enc (r : (List Int)) : V := (.agg [(.ints false .u64 r)])
def z28.pack : List V → Option Pack
  | [(.agg [(.ints _ .u64 a0)]), (.agg [(.ints _ .u64 a1)])] => some ⟨(List Int), z28.F a0 a1, z28.enc⟩
  | _ => none
def z29.l2P (s2007 : List UInt8) {R : Type} (rec : (Int × Nat) → Option R) (done : (Int × Nat) → Option R) : (Int × Nat) → Option R := fun x => match x with
  | (part2004, s2008) => (if s2008 < s2007.length then (rec ((wr .u64 ((wr .u64 ((10 : Int) * part2004)) + (wr .u64 (wr .i32 (((Utf8.decode ⟨s2007.toArray⟩ s2008).1 : Int) - (48 : Int)))))), (s2008 + (Utf8.decode ⟨s2007.toArray⟩ s2008).2))) else (done (part2004, s2008)))
def z29.l2 (s2007 : List UInt8) (x : (Int × Nat)) : Option ((Int × Nat)) := lfp (fun rec x => z29.l2P s2007 rec some x) x
def z29.l2aP (s3009 : List UInt8) {R : Type} (rec : (Int × Nat) → Option R) (done : (Int × Nat) → Option R) : (Int × Nat) → Option R := fun x => match x with
  | (part3004, s3010) => (if s3010 < s3009.length then (rec ((wr .u64 ((wr .u64 ((10 : Int) * part3004)) + (wr .u64 (wr .i32 (((Utf8.decode ⟨s3009.toArray⟩ s3010).1 : Int) - (48 : Int)))))), (s3010 + (Utf8.decode ⟨s3009.toArray⟩ s3010).2))) else (done (part3004, s3010)))
def z29.l2a (s3009 : List UInt8) (x : (Int × Nat)) : Option ((Int × Nat)) := lfp (fun rec x => z29.l2aP s3009 rec some x) x
def z29.j5011a {R : Type} (rec : ((List UInt8) × Bool × (List Int)) → Option R) (done : ((List UInt8) × Bool × (List Int)) → Option R) (j5011 : Int) (s5001 : List UInt8) (s5005 : List Int) : Option R :=
  (if (0 : Int) ≤ j5011 ∧ j5011 ≤ ((s5001).length : Int) then ((z29.l2a (s5001.take (j5011).toNat) ((0 : Int), 0)).bind fun o5012 => ((z26.F [(1000000000000000000 : Int)]).bind fun r5013 => ((z28.F s5005 r5013).bind fun r5014 => ((z26.F [o5012.1]).bind fun r5015 => ((z12.F r5014 r5015).bind fun r5016 => (if (0 : Int) ≤ j5011 ∧ j5011 ≤ ((s5001).length : Int) then (rec ((s5001.drop (j5011).toNat), false, r5016)) else none)))))) else none)
def z29.l0aaP  {R : Type} (rec : ((List UInt8) × Bool × (List Int)) → Option R) (done : ((List UInt8) × Bool × (List Int)) → Option R) : ((List UInt8) × Bool × (List Int)) → Option R := fun x => match x with
  | (s5001, first5003, s5005) => (bif (!decide (s5001 = ([] : List UInt8))) then (bif (!first5003) then (if (0 : Int) ≤ (18 : Int) ∧ (18 : Int) ≤ ((s5001).length : Int) then ((z29.l2 (s5001.take 18) ((0 : Int), 0)).bind fun o5006 => ((z26.F [(1000000000000000000 : Int)]).bind fun r5007 => ((z28.F s5005 r5007).bind fun r5008 => ((z26.F [o5006.1]).bind fun r5009 => ((z12.F r5008 r5009).bind fun r5010 => (if (0 : Int) ≤ (18 : Int) ∧ (18 : Int) ≤ ((s5001).length : Int) then (rec ((s5001.drop 18), false, r5010)) else none)))))) else none) else (bif (decide ((Int.tmod (s5001.length : Int) (18 : Int)) = (0 : Int))) then (z29.j5011a rec done (18 : Int) s5001 s5005) else (z29.j5011a rec done (Int.tmod (s5001.length : Int) (18 : Int)) s5001 s5005))) else (done (s5001, first5003, s5005)))
def z29.l0aa  (x : ((List UInt8) × Bool × (List Int))) : Option (((List UInt8) × Bool × (List Int))) := lfp (fun rec x => z29.l0aaP  rec some x) x
def z29.F (a0 : List UInt8) : Option ((List Int) × Int) :=
  (bif (decide ((a0.length : Int) > (4096 : Int))) then (some ([], (7 : Int))) else (bif (decide (a0 = ([] : List UInt8))) then (some ([], (5 : Int))) else ((z3.F a0 ([48, 49, 50, 51, 52, 53, 54, 55, 56, 57] : List UInt8)).bind fun r1 => (bif (!decide (r1 = ([] : List UInt8))) then (some ([], (5 : Int))) else (bif (decide ((a0.length : Int) > (1 : Int))) then (if (0 : Int) ≤ (0 : Int) ∧ (0 : Int) < (a0.length : Int) then (bif (decide (((a0.getD 0 0).toNat : Int) = (48 : Int))) then (some ([], (5 : Int))) else ((z29.l0aa (a0, true, [])).bind fun o5 => (some (o5.2.2, (0 : Int))))) else none) else ((z29.l0aa (a0, true, [])).bind fun o6 => (some (o6.2.2, (0 : Int)))))))))
def z29.enc (r : (List Int) × Int) : V := (.tup [(.agg [(.ints false .u64 r.1)]), (.int .i64 r.2)])
def z29.pack : List V → Option Pack
  | [(.str a0)] => some ⟨(List Int) × Int, z29.F a0, z29.enc⟩
  | _ => none
def z30.F (a0 : List UInt8) : Option ((List Int) × Bool × Int) :=
  ((z25.F a0 ([45] : List UInt8)).bind fun r1 => ((z29.F r1.1).bind fun r2 => (bif (!decide (r2.2 = (0 : Int))) then (some ([], false, r2.2)) else (bif r1.2 then ((z7.F r2.1).bind fun r3 => (bif r3 then (some ([], false, (5 : Int))) else ((z9.F r2.1 r1.2).bind fun r7 => (some (r7.1, r7.2, (0 : Int)))))) else ((z9.F r2.1 r1.2).bind fun r8 => (some (r8.1, r8.2, (0 : Int))))))))
def z30.enc (r : (List Int) × Bool × Int) : V := (.tup [(.agg [(.ints false .u64 r.1), (.bool r.2.1)]), (.int .i64 r.2.2)])
def z30.pack : List V → Option Pack
  | [(.str a0)] => some ⟨(List Int) × Bool × Int, z30.F a0, z30.enc⟩
  | _ => none
def z31.l0P  {R : Type} (rec : (Int × (List Int) × (List Int)) → Option R) (done : (Int × (List Int) × (List Int)) → Option R) : (Int × (List Int) × (List Int)) → Option R := fun x => match x with
  | (times1001, s1002, s1004) => (bif (decide (times1001 > (0 : Int))) then (bif (decide ((wr .i64 ((BitVec.ofInt (IntKind.bits .i64) times1001 &&& BitVec.ofInt (IntKind.bits .i64) (1 : Int)).toNat : Int)) = (1 : Int))) then ((z28.F s1004 s1002).bind fun r1005 => (bif (decide (times1001 > (1 : Int))) then ((z28.F s1002 s1002).bind fun r1008 => (rec ((Int.fdiv times1001 (2 ^ (min 1 (64 : Nat)))), r1008, r1005))) else (rec ((Int.fdiv times1001 (2 ^ (min 1 (64 : Nat)))), s1002, r1005)))) else (bif (decide (times1001 > (1 : Int))) then ((z28.F s1002 s1002).bind fun r1009 => (rec ((Int.fdiv times1001 (2 ^ (min 1 (64 : Nat)))), r1009, s1004))) else (rec ((Int.fdiv times1001 (2 ^ (min 1 (64 : Nat)))), s1002, s1004)))) else (done (times1001, s1002, s1004)))
def z31.l0  (x : (Int × (List Int) × (List Int))) : Option ((Int × (List Int) × (List Int))) := lfp (fun rec x => z31.l0P  rec some x) x
def z31.F (a0 : List Int) (a1 : Int) : Option ((List Int)) :=
  ((z26.F [(1 : Int)]).bind fun r1 => ((z31.l0 (a1, a0, r1)).bind fun o2 => (some o2.2.2)))
def z31.enc (r : (List Int)) : V := (.agg [(.ints false .u64 r)])
def z31.pack : List V → Option Pack
  | [(.agg [(.ints _ .u64 a0)]), (.int .i64 a1)] => some ⟨(List Int), z31.F a0 a1, z31.enc⟩
  | _ => none
def z32.F (a0 : Int) : Option ((List Int) × Int) :=
  (bif (decide (a0 < (0 : Int))) then (some ([], (2 : Int))) else (bif (decide (a0 > (4096 : Int))) then (some ([], (6 : Int))) else ((z26.F [(10 : Int)]).bind fun r1 => ((z31.F r1 a0).bind fun r2 => (some (r2, (0 : Int)))))))
def z32.enc (r : (List Int) × Int) : V := (.tup [(.agg [(.ints false .u64 r.1)]), (.int .i64 r.2)])
def z32.pack : List V → Option Pack
  | [(.int .i64 a0)] => some ⟨(List Int) × Int, z32.F a0, z32.enc⟩
  | _ => none
def z33.F  : Option ((List Int) × Bool) :=
  ((z32.F (30 : Int)).bind fun r1 => ((z9.F r1.1 false).bind fun r2 => (some (r2.1, r2.2))))
def z33.enc (r : (List Int) × Bool) : V := (.agg [(.ints false .u64 r.1), (.bool r.2)])
def z33.pack : List V → Option Pack
  | [] => some ⟨(List Int) × Bool, z33.F , z33.enc⟩
  | _ => none
def z34.F (a0 : List UInt8) : Option ((List Int) × Bool × Int) :=
  ((z30.F a0).bind fun r1 => (bif (!decide (r1.2.2 = (0 : Int))) then (some ([], false, r1.2.2)) else ((z8.F r1.1 r1.2.1).bind fun r2 => (bif (decide (r2 < (0 : Int))) then (some ([], false, (19 : Int))) else (z33.F.bind fun r3 => ((z22.F r1.1 r1.2.1 r3.1 r3.2).bind fun r4 => (bif (decide (r4 > (0 : Int))) then (some ([], false, (19 : Int))) else (some (r1.1, r1.2.1, (0 : Int))))))))))
def z34.enc (r : (List Int) × Bool × Int) : V := (.tup [(.agg [(.ints false .u64 r.1), (.bool r.2.1)]), (.int .i64 r.2.2)])
def z34.pack : List V → Option Pack
  | [(.str a0)] => some ⟨(List Int) × Bool × Int, z34.F a0, z34.enc⟩
  | _ => none
def z35.F (a0 : List Int) (a1 : Bool) : Option ((List Int) × Bool × (List Int)) :=
  (some (a0, a1, []))
def z35.enc (r : (List Int) × Bool × (List Int)) : V := (.agg [(.ints false .u64 r.1), (.bool r.2.1), (.ints false .u64 r.2.2)])
def z35.pack : List V → Option Pack
  | [(.agg [(.ints _ .u64 a0), (.bool a1)])] => some ⟨(List Int) × Bool × (List Int), z35.F a0 a1, z35.enc⟩
  | _ => none
def z36.F (a0 : Int) : Option ((List Int) × Bool) :=
  (bif (decide (a0 < (0 : Int))) then ((z26.F [(wr .u64 (0 - (wr .u64 a0)))]).bind fun r1 => ((z9.F r1 true).bind fun r2 => (some (r2.1, r2.2)))) else ((z26.F [(wr .u64 a0)]).bind fun r3 => ((z9.F r3 false).bind fun r4 => (some (r4.1, r4.2)))))
def z36.enc (r : (List Int) × Bool) : V := (.agg [(.ints false .u64 r.1), (.bool r.2)])
def z36.pack : List V → Option Pack
  | [(.int .i64 a0)] => some ⟨(List Int) × Bool, z36.F a0, z36.enc⟩
  | _ => none
def z37.F (a0 : List UInt8) : Option (Bool) :=
  (bif (!decide (a0 = ([] : List UInt8))) then ((z3.F a0 ([48, 49, 50, 51, 52, 53, 54, 55, 56, 57] : List UInt8)).bind fun r1 => (some (decide (r1 = ([] : List UInt8))))) else (some false))
def z37.enc (r : Bool) : V := (.bool r)
def z37.pack : List V → Option Pack
  | [(.str a0)] => some ⟨Bool, z37.F a0, z37.enc⟩
  | _ => none
def z38.j8 (j8 : List UInt8) (r1 : (List UInt8) × Bool) : Option ((List Int) × Bool × Int × Int) :=
  ((z29.F j8).bind fun r9 => ((z9.F r9.1 r1.2).bind fun r10 => (some (r10.1, r10.2, ((r1.1.drop 1).length : Int), (0 : Int)))))
def z38.j6 (j6 : Bool) (r1 : (List UInt8) × Bool) : Option ((List Int) × Bool × Int × Int) :=
  (bif j6 then (some ([], false, (0 : Int), (5 : Int))) else (bif (decide (((r1.1.drop 1).length : Int) > (64 : Int))) then (some ([], false, (0 : Int), (10 : Int))) else (if (r1.1.take 0).length + (r1.1.drop 1).length ≤ 9223372036854775807 then ((z4.F ((r1.1.take 0) ++ (r1.1.drop 1)) ([48] : List UInt8)).bind fun r7 => (bif (decide (r7 = ([] : List UInt8))) then (z38.j8 ([48] : List UInt8) r1) else (z38.j8 r7 r1))) else none)))
def z38.j4 (j4 : Bool) (r1 : (List UInt8) × Bool) : Option ((List Int) × Bool × Int × Int) :=
  (bif j4 then (some ([], false, (0 : Int), (5 : Int))) else (bif r1.2 then (if (r1.1.take 0).length + (r1.1.drop 1).length ≤ 9223372036854775807 then ((z3.F ((r1.1.take 0) ++ (r1.1.drop 1)) ([48] : List UInt8)).bind fun r5 => (z38.j6 (decide (r5 = ([] : List UInt8))) r1)) else none) else (z38.j6 false r1)))
def z38.j18 (j18 : List UInt8) (r1 : (List UInt8) × Bool) (r11 : Int) : Option ((List Int) × Bool × Int × Int) :=
  ((z29.F j18).bind fun r19 => ((z9.F r19.1 r1.2).bind fun r20 => (some (r20.1, r20.2, ((r1.1.drop ((wr .i64 (r11 + (1 : Int)))).toNat).length : Int), (0 : Int)))))
def z38.j16 (j16 : Bool) (r1 : (List UInt8) × Bool) (r11 : Int) : Option ((List Int) × Bool × Int × Int) :=
  (bif j16 then (some ([], false, (0 : Int), (5 : Int))) else (bif (decide (((r1.1.drop ((wr .i64 (r11 + (1 : Int)))).toNat).length : Int) > (64 : Int))) then (some ([], false, (0 : Int), (10 : Int))) else (if (r1.1.take (r11).toNat).length + (r1.1.drop ((wr .i64 (r11 + (1 : Int)))).toNat).length ≤ 9223372036854775807 then ((z4.F ((r1.1.take (r11).toNat) ++ (r1.1.drop ((wr .i64 (r11 + (1 : Int)))).toNat)) ([48] : List UInt8)).bind fun r17 => (bif (decide (r17 = ([] : List UInt8))) then (z38.j18 ([48] : List UInt8) r1 r11) else (z38.j18 r17 r1 r11))) else none)))
def z38.j14 (j14 : Bool) (r1 : (List UInt8) × Bool) (r11 : Int) : Option ((List Int) × Bool × Int × Int) :=
  (bif j14 then (some ([], false, (0 : Int), (5 : Int))) else (bif r1.2 then (if (r1.1.take (r11).toNat).length + (r1.1.drop ((wr .i64 (r11 + (1 : Int)))).toNat).length ≤ 9223372036854775807 then ((z3.F ((r1.1.take (r11).toNat) ++ (r1.1.drop ((wr .i64 (r11 + (1 : Int)))).toNat)) ([48] : List UInt8)).bind fun r15 => (z38.j16 (decide (r15 = ([] : List UInt8))) r1 r11)) else none) else (z38.j16 false r1 r11)))
def z38.j26 (j26 : List UInt8) (r1 : (List UInt8) × Bool) : Option ((List Int) × Bool × Int × Int) :=
  ((z29.F j26).bind fun r27 => ((z9.F r27.1 r1.2).bind fun r28 => (some (r28.1, r28.2, (0 : Int), (0 : Int)))))
def z38.j24 (r1 : (List UInt8) × Bool) : Option ((List Int) × Bool × Int × Int) :=
  (if r1.1.length + ([] : List UInt8).length ≤ 9223372036854775807 then ((z4.F (r1.1 ++ ([] : List UInt8)) ([48] : List UInt8)).bind fun r25 => (bif (decide (r25 = ([] : List UInt8))) then (z38.j26 ([48] : List UInt8) r1) else (z38.j26 r25 r1))) else none)
def z38.j22 (j22 : Bool) (r1 : (List UInt8) × Bool) : Option ((List Int) × Bool × Int × Int) :=
  (bif j22 then (some ([], false, (0 : Int), (5 : Int))) else (bif r1.2 then (if r1.1.length + ([] : List UInt8).length ≤ 9223372036854775807 then ((z3.F (r1.1 ++ ([] : List UInt8)) ([48] : List UInt8)).bind fun r23 => (bif (decide (r23 = ([] : List UInt8))) then (some ([], false, (0 : Int), (5 : Int))) else (z38.j24 r1))) else none) else (z38.j24 r1)))
def z38.F (a0 : List UInt8) : Option ((List Int) × Bool × Int × Int) :=
  (bif (decide ((a0.length : Int) > (4096 : Int))) then (some ([], false, (0 : Int), (7 : Int))) else ((z25.F a0 ([45] : List UInt8)).bind fun r1 => (bif (decide (([46] : List UInt8) = r1.1)) then (if (0 : Int) ≤ (0 : Int) ∧ (0 : Int) ≤ ((r1.1).length : Int) then (if (0 : Int) ≤ (1 : Int) ∧ (1 : Int) ≤ ((r1.1).length : Int) then ((z37.F (r1.1.take 0)).bind fun r2 => (bif (!r2) then (z38.j4 true r1) else ((z37.F (r1.1.drop 1)).bind fun r3 => (bif (!r3) then (z38.j4 true r1) else (bif (decide (((r1.1.take 0).length : Int) > (1 : Int))) then (if (0 : Int) ≤ (0 : Int) ∧ (0 : Int) < ((r1.1.take 0).length : Int) then (z38.j4 (decide ((((r1.1.take 0).getD 0 0).toNat : Int) = (48 : Int))) r1) else none) else (z38.j4 false r1)))))) else none) else none) else (if (0 : Int) ≤ (0 : Int) ∧ (0 : Int) < (([46] : List UInt8).length : Int) then ((z2.F r1.1 ((([46] : List UInt8).getD 0 0).toNat : Int)).bind fun r11 => (bif (decide (r11 ≥ (0 : Int))) then (if (0 : Int) ≤ r11 ∧ r11 ≤ ((r1.1).length : Int) then (if (0 : Int) ≤ (wr .i64 (r11 + (1 : Int))) ∧ (wr .i64 (r11 + (1 : Int))) ≤ ((r1.1).length : Int) then ((z37.F (r1.1.take (r11).toNat)).bind fun r12 => (bif (!r12) then (z38.j14 true r1 r11) else ((z37.F (r1.1.drop ((wr .i64 (r11 + (1 : Int)))).toNat)).bind fun r13 => (bif (!r13) then (z38.j14 true r1 r11) else (bif (decide (((r1.1.take (r11).toNat).length : Int) > (1 : Int))) then (if (0 : Int) ≤ (0 : Int) ∧ (0 : Int) < ((r1.1.take (r11).toNat).length : Int) then (z38.j14 (decide ((((r1.1.take (r11).toNat).getD 0 0).toNat : Int) = (48 : Int))) r1 r11) else none) else (z38.j14 false r1 r11)))))) else none) else none) else ((z37.F r1.1).bind fun r21 => (bif (!r21) then (z38.j22 true r1) else (bif (decide ((r1.1.length : Int) > (1 : Int))) then (if (0 : Int) ≤ (0 : Int) ∧ (0 : Int) < (r1.1.length : Int) then (z38.j22 (decide (((r1.1.getD 0 0).toNat : Int) = (48 : Int))) r1) else none) else (z38.j22 false r1)))))) else none))))
def z38.enc (r : (List Int) × Bool × Int × Int) : V := (.tup [(.agg [(.ints false .u64 r.1), (.bool r.2.1), (.int .i64 r.2.2.1)]), (.int .i64 r.2.2.2)])
def z38.pack : List V → Option Pack
  | [(.str a0)] => some ⟨(List Int) × Bool × Int × Int, z38.F a0, z38.enc⟩
  | _ => none
def z39.F (a0 : Int) : Option (Bool) :=
  (bif (decide (a0 < (0 : Int))) then (some true) else (some (decide (a0 > (64 : Int)))))
def z39.enc (r : Bool) : V := (.bool r)
def z39.pack : List V → Option Pack
  | [(.int .i64 a0)] => some ⟨Bool, z39.F a0, z39.enc⟩
  | _ => none
def z40.F (a0 : List Int) (a1 : Bool) (a2 : Int) : Option ((List Int) × Bool × Int × Int) :=
  ((z39.F a2).bind fun r1 => (bif r1 then (some ([], false, (0 : Int), (10 : Int))) else (some (a0, a1, a2, (0 : Int)))))
def z40.enc (r : (List Int) × Bool × Int × Int) : V := (.tup [(.agg [(.ints false .u64 r.1), (.bool r.2.1), (.int .i64 r.2.2.1)]), (.int .i64 r.2.2.2)])
def z40.pack : List V → Option Pack
  | [(.agg [(.ints _ .u64 a0), (.bool a1)]), (.int .i64 a2)] => some ⟨(List Int) × Bool × Int × Int, z40.F a0 a1 a2, z40.enc⟩
  | _ => none
def z41.F (a0 : List Int) (a1 : Bool) (a2 : Int) : Option ((List Int) × Bool) :=
  (some (a0, a1))
def z41.enc (r : (List Int) × Bool) : V := (.agg [(.ints false .u64 r.1), (.bool r.2)])
def z41.pack : List V → Option Pack
  | [(.agg [(.ints _ .u64 a0), (.bool a1), (.int .i64 a2)])] => some ⟨(List Int) × Bool, z41.F a0 a1 a2, z41.enc⟩
  | _ => none
def z42.F (a0 : List Int) (a1 : Bool) (a2 : List Int) (a3 : Bool) : Option ((List Int) × Bool) :=
  ((z28.F a0 a2).bind fun r1 => ((z9.F r1 (!decide (a1 = a3))).bind fun r2 => (some (r2.1, r2.2))))
def z42.enc (r : (List Int) × Bool) : V := (.agg [(.ints false .u64 r.1), (.bool r.2)])
def z42.pack : List V → Option Pack
  | [(.agg [(.ints _ .u64 a0), (.bool a1)]), (.agg [(.ints _ .u64 a2), (.bool a3)])] => some ⟨(List Int) × Bool, z42.F a0 a1 a2 a3, z42.enc⟩
  | _ => none
def z43.F (a0 : Int) : Option ((List Int) × Bool) :=
  ((z32.F a0).bind fun r1 => ((z9.F r1.1 false).bind fun r2 => (some (r2.1, r2.2))))
def z43.enc (r : (List Int) × Bool) : V := (.agg [(.ints false .u64 r.1), (.bool r.2)])
def z43.pack : List V → Option Pack
  | [(.int .i64 a0)] => some ⟨(List Int) × Bool, z43.F a0, z43.enc⟩
  | _ => none
def z44.F (a0 : List Int) (a1 : Bool) (a2 : Int) (a3 : Int) : Option ((List Int) × Bool) :=
  ((z43.F (wr .i64 (a3 - a2))).bind fun r1 => ((z42.F a0 a1 r1.1 r1.2).bind fun r2 => (some (r2.1, r2.2))))
def z44.enc (r : (List Int) × Bool) : V := (.agg [(.ints false .u64 r.1), (.bool r.2)])
def z44.pack : List V → Option Pack
  | [(.agg [(.ints _ .u64 a0), (.bool a1), (.int .i64 a2)]), (.int .i64 a3)] => some ⟨(List Int) × Bool, z44.F a0 a1 a2 a3, z44.enc⟩
  | _ => none
def z45.F (a0 : List Int) (a1 : Bool) (a2 : Int) (a3 : List Int) (a4 : Bool) (a5 : Int) : Option (Int) :=
  ((z44.F a0 a1 a2 (if a5 > a2 then a5 else a2)).bind fun r1 => ((z44.F a3 a4 a5 (if a5 > a2 then a5 else a2)).bind fun r2 => ((z22.F r1.1 r1.2 r2.1 r2.2).bind fun r3 => (some r3))))
def z45.enc (r : Int) : V := (.int .i64 r)
def z45.pack : List V → Option Pack
  | [(.agg [(.ints _ .u64 a0), (.bool a1), (.int .i64 a2)]), (.agg [(.ints _ .u64 a3), (.bool a4), (.int .i64 a5)])] => some ⟨Int, z45.F a0 a1 a2 a3 a4 a5, z45.enc⟩
  | _ => none
def z46.F (a0 : List Int) (a1 : Bool) (a2 : Int) : Option (Int) :=
  (some a2)
def z46.enc (r : Int) : V := (.int .i64 r)
def z46.pack : List V → Option Pack
  | [(.agg [(.ints _ .u64 a0), (.bool a1), (.int .i64 a2)])] => some ⟨Int, z46.F a0 a1 a2, z46.enc⟩
  | _ => none
def z47.F (a0 : List Int) (a1 : Bool) : Option ((List Int)) :=
  (some a0)
def z47.enc (r : (List Int)) : V := (.agg [(.ints false .u64 r)])
def z47.pack : List V → Option Pack
  | [(.agg [(.ints _ .u64 a0), (.bool a1)])] => some ⟨(List Int), z47.F a0 a1, z47.enc⟩
  | _ => none
def z48.F (a0 : List Int) : Option ((List Int)) :=
  (if (a0).length * 8 ≤ 140737488355328 then (some a0) else none)
def z48.enc (r : (List Int)) : V := (.ints false .u64 r)
def z48.pack : List V → Option Pack
  | [(.agg [(.ints _ .u64 a0)])] => some ⟨(List Int), z48.F a0, z48.enc⟩
  | _ => none
def z49.j8 (j7 : Int) (j8 : Int) : Option (Int) :=
  (if (0 : Int) ≤ (wr .u8 j7) ∧ (wr .u8 j7) < (([0, 1, 2, 2, 3, 3, 3, 3, 4, 4, 4, 4, 4, 4, 4, 4, 5, 5, 5, 5, 5, 5, 5, 5, 5, 5, 5, 5, 5, 5, 5, 5, 6, 6, 6, 6, 6, 6, 6, 6, 6, 6, 6, 6, 6, 6, 6, 6, 6, 6, 6, 6, 6, 6, 6, 6, 6, 6, 6, 6, 6, 6, 6, 6, 7, 7, 7, 7, 7, 7, 7, 7, 7, 7, 7, 7, 7, 7, 7, 7, 7, 7, 7, 7, 7, 7, 7, 7, 7, 7, 7, 7, 7, 7, 7, 7, 7, 7, 7, 7, 7, 7, 7, 7, 7, 7, 7, 7, 7, 7, 7, 7, 7, 7, 7, 7, 7, 7, 7, 7, 7, 7, 7, 7, 7, 7, 7, 7, 8, 8, 8, 8, 8, 8, 8, 8, 8, 8, 8, 8, 8, 8, 8, 8, 8, 8, 8, 8, 8, 8, 8, 8, 8, 8, 8, 8, 8, 8, 8, 8, 8, 8, 8, 8, 8, 8, 8, 8, 8, 8, 8, 8, 8, 8, 8, 8, 8, 8, 8, 8, 8, 8, 8, 8, 8, 8, 8, 8, 8, 8, 8, 8, 8, 8, 8, 8, 8, 8, 8, 8, 8, 8, 8, 8, 8, 8, 8, 8, 8, 8, 8, 8, 8, 8, 8, 8, 8, 8, 8, 8, 8, 8, 8, 8, 8, 8, 8, 8, 8, 8, 8, 8, 8, 8, 8, 8, 8, 8, 8, 8, 8, 8, 8, 8, 8, 8, 8, 8, 8, 8, 8, 8, 8, 8, 8, 8] : List UInt8).length : Int) then (some (wr .i64 (j8 + (wr .i64 ((([0, 1, 2, 2, 3, 3, 3, 3, 4, 4, 4, 4, 4, 4, 4, 4, 5, 5, 5, 5, 5, 5, 5, 5, 5, 5, 5, 5, 5, 5, 5, 5, 6, 6, 6, 6, 6, 6, 6, 6, 6, 6, 6, 6, 6, 6, 6, 6, 6, 6, 6, 6, 6, 6, 6, 6, 6, 6, 6, 6, 6, 6, 6, 6, 7, 7, 7, 7, 7, 7, 7, 7, 7, 7, 7, 7, 7, 7, 7, 7, 7, 7, 7, 7, 7, 7, 7, 7, 7, 7, 7, 7, 7, 7, 7, 7, 7, 7, 7, 7, 7, 7, 7, 7, 7, 7, 7, 7, 7, 7, 7, 7, 7, 7, 7, 7, 7, 7, 7, 7, 7, 7, 7, 7, 7, 7, 7, 7, 8, 8, 8, 8, 8, 8, 8, 8, 8, 8, 8, 8, 8, 8, 8, 8, 8, 8, 8, 8, 8, 8, 8, 8, 8, 8, 8, 8, 8, 8, 8, 8, 8, 8, 8, 8, 8, 8, 8, 8, 8, 8, 8, 8, 8, 8, 8, 8, 8, 8, 8, 8, 8, 8, 8, 8, 8, 8, 8, 8, 8, 8, 8, 8, 8, 8, 8, 8, 8, 8, 8, 8, 8, 8, 8, 8, 8, 8, 8, 8, 8, 8, 8, 8, 8, 8, 8, 8, 8, 8, 8, 8, 8, 8, 8, 8, 8, 8, 8, 8, 8, 8, 8, 8, 8, 8, 8, 8, 8, 8, 8, 8, 8, 8, 8, 8, 8, 8, 8, 8, 8, 8, 8, 8, 8, 8, 8, 8] : List UInt8).getD ((wr .u8 j7)).toNat 0).toNat : Int))))) else none)
def z49.j10 (j9 : Int) (j10 : Int) : Option (Int) :=
  (if (0 : Int) ≤ (wr .u8 j9) ∧ (wr .u8 j9) < (([0, 1, 2, 2, 3, 3, 3, 3, 4, 4, 4, 4, 4, 4, 4, 4, 5, 5, 5, 5, 5, 5, 5, 5, 5, 5, 5, 5, 5, 5, 5, 5, 6, 6, 6, 6, 6, 6, 6, 6, 6, 6, 6, 6, 6, 6, 6, 6, 6, 6, 6, 6, 6, 6, 6, 6, 6, 6, 6, 6, 6, 6, 6, 6, 7, 7, 7, 7, 7, 7, 7, 7, 7, 7, 7, 7, 7, 7, 7, 7, 7, 7, 7, 7, 7, 7, 7, 7, 7, 7, 7, 7, 7, 7, 7, 7, 7, 7, 7, 7, 7, 7, 7, 7, 7, 7, 7, 7, 7, 7, 7, 7, 7, 7, 7, 7, 7, 7, 7, 7, 7, 7, 7, 7, 7, 7, 7, 7, 8, 8, 8, 8, 8, 8, 8, 8, 8, 8, 8, 8, 8, 8, 8, 8, 8, 8, 8, 8, 8, 8, 8, 8, 8, 8, 8, 8, 8, 8, 8, 8, 8, 8, 8, 8, 8, 8, 8, 8, 8, 8, 8, 8, 8, 8, 8, 8, 8, 8, 8, 8, 8, 8, 8, 8, 8, 8, 8, 8, 8, 8, 8, 8, 8, 8, 8, 8, 8, 8, 8, 8, 8, 8, 8, 8, 8, 8, 8, 8, 8, 8, 8, 8, 8, 8, 8, 8, 8, 8, 8, 8, 8, 8, 8, 8, 8, 8, 8, 8, 8, 8, 8, 8, 8, 8, 8, 8, 8, 8, 8, 8, 8, 8, 8, 8, 8, 8, 8, 8, 8, 8, 8, 8, 8, 8, 8, 8] : List UInt8).length : Int) then (some (wr .i64 (j10 + (wr .i64 ((([0, 1, 2, 2, 3, 3, 3, 3, 4, 4, 4, 4, 4, 4, 4, 4, 5, 5, 5, 5, 5, 5, 5, 5, 5, 5, 5, 5, 5, 5, 5, 5, 6, 6, 6, 6, 6, 6, 6, 6, 6, 6, 6, 6, 6, 6, 6, 6, 6, 6, 6, 6, 6, 6, 6, 6, 6, 6, 6, 6, 6, 6, 6, 6, 7, 7, 7, 7, 7, 7, 7, 7, 7, 7, 7, 7, 7, 7, 7, 7, 7, 7, 7, 7, 7, 7, 7, 7, 7, 7, 7, 7, 7, 7, 7, 7, 7, 7, 7, 7, 7, 7, 7, 7, 7, 7, 7, 7, 7, 7, 7, 7, 7, 7, 7, 7, 7, 7, 7, 7, 7, 7, 7, 7, 7, 7, 7, 7, 8, 8, 8, 8, 8, 8, 8, 8, 8, 8, 8, 8, 8, 8, 8, 8, 8, 8, 8, 8, 8, 8, 8, 8, 8, 8, 8, 8, 8, 8, 8, 8, 8, 8, 8, 8, 8, 8, 8, 8, 8, 8, 8, 8, 8, 8, 8, 8, 8, 8, 8, 8, 8, 8, 8, 8, 8, 8, 8, 8, 8, 8, 8, 8, 8, 8, 8, 8, 8, 8, 8, 8, 8, 8, 8, 8, 8, 8, 8, 8, 8, 8, 8, 8, 8, 8, 8, 8, 8, 8, 8, 8, 8, 8, 8, 8, 8, 8, 8, 8, 8, 8, 8, 8, 8, 8, 8, 8, 8, 8, 8, 8, 8, 8, 8, 8, 8, 8, 8, 8, 8, 8, 8, 8, 8, 8, 8, 8] : List UInt8).getD ((wr .u8 j9)).toNat 0).toNat : Int))))) else none)
def z49.j2 (j1 : Int) (j2 : Int) : Option (Int) :=
  (bif (decide (j1 ≥ (65536 : Int))) then (bif (decide ((Int.fdiv j1 (2 ^ (min 16 (64 : Nat)))) ≥ (256 : Int))) then (z49.j8 (Int.fdiv (Int.fdiv j1 (2 ^ (min 16 (64 : Nat)))) (2 ^ (min 8 (64 : Nat)))) (wr .i64 ((wr .i64 (j2 + (16 : Int))) + (8 : Int)))) else (z49.j8 (Int.fdiv j1 (2 ^ (min 16 (64 : Nat)))) (wr .i64 (j2 + (16 : Int))))) else (bif (decide (j1 ≥ (256 : Int))) then (z49.j10 (Int.fdiv j1 (2 ^ (min 8 (64 : Nat)))) (wr .i64 (j2 + (8 : Int)))) else (z49.j10 j1 j2)))
def z49.F (a0 : Int) : Option (Int) :=
  (bif (decide (a0 ≥ (4294967296 : Int))) then (z49.j2 (Int.fdiv a0 (2 ^ (min 32 (64 : Nat)))) (32 : Int)) else (z49.j2 a0 (0 : Int)))
def z49.enc (r : Int) : V := (.int .i64 r)
def z49.pack : List V → Option Pack
  | [(.int .u64 a0)] => some ⟨Int, z49.F a0, z49.enc⟩
  | _ => none
def z50.F (a0 : Int) : Option (Int) :=
  ((z49.F a0).bind fun r1 => (some (wr .i64 ((64 : Int) - r1))))
def z50.enc (r : Int) : V := (.int .i64 r)
def z50.pack : List V → Option Pack
  | [(.int .u64 a0)] => some ⟨Int, z50.F a0, z50.enc⟩
  | _ => none
def z51.l0b8P (yn9005 : Int) (yn9006 : Int) (un9008 : Int) {R : Type} (rec : (Int × Int) → Option R) (done : (Int × Int) → Option R) : (Int × Int) → Option R := fun x => match x with
  | (q9010, rhat9011) => (bif (decide (q9010 ≥ (4294967296 : Int))) then (bif (decide ((wr .u64 (rhat9011 + yn9005)) ≥ (4294967296 : Int))) then (done ((wr .u64 (q9010 - (1 : Int))), (wr .u64 (rhat9011 + yn9005)))) else (rec ((wr .u64 (q9010 - (1 : Int))), (wr .u64 (rhat9011 + yn9005))))) else (bif (decide ((wr .u64 (q9010 * yn9006)) > (wr .u64 ((wr .u64 ((4294967296 : Int) * rhat9011)) + un9008)))) then (bif (decide ((wr .u64 (rhat9011 + yn9005)) ≥ (4294967296 : Int))) then (done ((wr .u64 (q9010 - (1 : Int))), (wr .u64 (rhat9011 + yn9005)))) else (rec ((wr .u64 (q9010 - (1 : Int))), (wr .u64 (rhat9011 + yn9005))))) else (done (q9010, rhat9011))))
def z51.l0b8 (yn9005 : Int) (yn9006 : Int) (un9008 : Int) (x : (Int × Int)) : Option ((Int × Int)) := lfp (fun rec x => z51.l0b8P yn9005 yn9006 un9008 rec some x) x
def z51.l2b8P (yn18005 : Int) (yn18006 : Int) (un18007 : Int) {R : Type} (rec : (Int × Int) → Option R) (done : (Int × Int) → Option R) : (Int × Int) → Option R := fun x => match x with
  | (rhat18009, q18011) => (bif (decide (q18011 ≥ (4294967296 : Int))) then (bif (decide ((wr .u64 (rhat18009 + yn18005)) ≥ (4294967296 : Int))) then (done ((wr .u64 (rhat18009 + yn18005)), (wr .u64 (q18011 - (1 : Int))))) else (rec ((wr .u64 (rhat18009 + yn18005)), (wr .u64 (q18011 - (1 : Int)))))) else (bif (decide ((wr .u64 (q18011 * yn18006)) > (wr .u64 ((wr .u64 ((4294967296 : Int) * rhat18009)) + un18007)))) then (bif (decide ((wr .u64 (rhat18009 + yn18005)) ≥ (4294967296 : Int))) then (done ((wr .u64 (rhat18009 + yn18005)), (wr .u64 (q18011 - (1 : Int))))) else (rec ((wr .u64 (rhat18009 + yn18005)), (wr .u64 (q18011 - (1 : Int)))))) else (done (rhat18009, q18011))))
def z51.l2b8 (yn18005 : Int) (yn18006 : Int) (un18007 : Int) (x : (Int × Int)) : Option ((Int × Int)) := lfp (fun rec x => z51.l2b8P yn18005 yn18006 un18007 rec some x) x
def z51.F (a0 : Int) (a1 : Int) (a2 : Int) : Option (Int × Int) :=
  (bif (decide (a2 = (0 : Int))) then none else (bif (decide (a2 ≤ a0)) then none else (bif (decide (a0 = (0 : Int))) then (if a2 = 0 then none else (if a2 = 0 then none else (some ((wr .u64 (Int.tdiv a1 a2)), (Int.tmod a1 a2))))) else ((z50.F a2).bind fun r1 => (if (0 : Int) ≤ (wr .u64 r1) then (if (0 : Int) ≤ (wr .u64 r1) then (if (0 : Int) ≤ (wr .u64 ((64 : Int) - (wr .u64 r1))) then (if (0 : Int) ≤ (wr .u64 r1) then (if (Int.fdiv (wr .u64 (a2 * 2 ^ (min ((wr .u64 r1)).toNat (64 : Nat)))) (2 ^ (min 32 (64 : Nat)))) = 0 then none else ((z51.l0b8 (Int.fdiv (wr .u64 (a2 * 2 ^ (min ((wr .u64 r1)).toNat (64 : Nat)))) (2 ^ (min 32 (64 : Nat)))) (wr .u64 ((BitVec.ofInt (IntKind.bits .u64) (wr .u64 (a2 * 2 ^ (min ((wr .u64 r1)).toNat (64 : Nat)))) &&& BitVec.ofInt (IntKind.bits .u64) (4294967295 : Int)).toNat : Int)) (Int.fdiv (wr .u64 (a1 * 2 ^ (min ((wr .u64 r1)).toNat (64 : Nat)))) (2 ^ (min 32 (64 : Nat)))) ((wr .u64 (Int.tdiv (wr .u64 ((BitVec.ofInt (IntKind.bits .u64) (wr .u64 (a0 * 2 ^ (min ((wr .u64 r1)).toNat (64 : Nat)))) ||| BitVec.ofInt (IntKind.bits .u64) (Int.fdiv a1 (2 ^ (min ((wr .u64 ((64 : Int) - (wr .u64 r1)))).toNat (64 : Nat))))).toNat : Int)) (Int.fdiv (wr .u64 (a2 * 2 ^ (min ((wr .u64 r1)).toNat (64 : Nat)))) (2 ^ (min 32 (64 : Nat)))))), (wr .u64 ((wr .u64 ((BitVec.ofInt (IntKind.bits .u64) (wr .u64 (a0 * 2 ^ (min ((wr .u64 r1)).toNat (64 : Nat)))) ||| BitVec.ofInt (IntKind.bits .u64) (Int.fdiv a1 (2 ^ (min ((wr .u64 ((64 : Int) - (wr .u64 r1)))).toNat (64 : Nat))))).toNat : Int)) - (wr .u64 ((wr .u64 (Int.tdiv (wr .u64 ((BitVec.ofInt (IntKind.bits .u64) (wr .u64 (a0 * 2 ^ (min ((wr .u64 r1)).toNat (64 : Nat)))) ||| BitVec.ofInt (IntKind.bits .u64) (Int.fdiv a1 (2 ^ (min ((wr .u64 ((64 : Int) - (wr .u64 r1)))).toNat (64 : Nat))))).toNat : Int)) (Int.fdiv (wr .u64 (a2 * 2 ^ (min ((wr .u64 r1)).toNat (64 : Nat)))) (2 ^ (min 32 (64 : Nat)))))) * (Int.fdiv (wr .u64 (a2 * 2 ^ (min ((wr .u64 r1)).toNat (64 : Nat)))) (2 ^ (min 32 (64 : Nat)))))))))).bind fun o2 => (if (Int.fdiv (wr .u64 (a2 * 2 ^ (min ((wr .u64 r1)).toNat (64 : Nat)))) (2 ^ (min 32 (64 : Nat)))) = 0 then none else ((z51.l2b8 (Int.fdiv (wr .u64 (a2 * 2 ^ (min ((wr .u64 r1)).toNat (64 : Nat)))) (2 ^ (min 32 (64 : Nat)))) (wr .u64 ((BitVec.ofInt (IntKind.bits .u64) (wr .u64 (a2 * 2 ^ (min ((wr .u64 r1)).toNat (64 : Nat)))) &&& BitVec.ofInt (IntKind.bits .u64) (4294967295 : Int)).toNat : Int)) (wr .u64 ((BitVec.ofInt (IntKind.bits .u64) (wr .u64 (a1 * 2 ^ (min ((wr .u64 r1)).toNat (64 : Nat)))) &&& BitVec.ofInt (IntKind.bits .u64) (4294967295 : Int)).toNat : Int)) ((wr .u64 ((wr .u64 ((wr .u64 ((wr .u64 ((wr .u64 ((BitVec.ofInt (IntKind.bits .u64) (wr .u64 (a0 * 2 ^ (min ((wr .u64 r1)).toNat (64 : Nat)))) ||| BitVec.ofInt (IntKind.bits .u64) (Int.fdiv a1 (2 ^ (min ((wr .u64 ((64 : Int) - (wr .u64 r1)))).toNat (64 : Nat))))).toNat : Int)) * (4294967296 : Int))) + (Int.fdiv (wr .u64 (a1 * 2 ^ (min ((wr .u64 r1)).toNat (64 : Nat)))) (2 ^ (min 32 (64 : Nat)))))) - (wr .u64 (o2.1 * (wr .u64 (a2 * 2 ^ (min ((wr .u64 r1)).toNat (64 : Nat)))))))) - (wr .u64 ((wr .u64 (Int.tdiv (wr .u64 ((wr .u64 ((wr .u64 ((wr .u64 ((BitVec.ofInt (IntKind.bits .u64) (wr .u64 (a0 * 2 ^ (min ((wr .u64 r1)).toNat (64 : Nat)))) ||| BitVec.ofInt (IntKind.bits .u64) (Int.fdiv a1 (2 ^ (min ((wr .u64 ((64 : Int) - (wr .u64 r1)))).toNat (64 : Nat))))).toNat : Int)) * (4294967296 : Int))) + (Int.fdiv (wr .u64 (a1 * 2 ^ (min ((wr .u64 r1)).toNat (64 : Nat)))) (2 ^ (min 32 (64 : Nat)))))) - (wr .u64 (o2.1 * (wr .u64 (a2 * 2 ^ (min ((wr .u64 r1)).toNat (64 : Nat)))))))) (Int.fdiv (wr .u64 (a2 * 2 ^ (min ((wr .u64 r1)).toNat (64 : Nat)))) (2 ^ (min 32 (64 : Nat)))))) * (Int.fdiv (wr .u64 (a2 * 2 ^ (min ((wr .u64 r1)).toNat (64 : Nat)))) (2 ^ (min 32 (64 : Nat)))))))), (wr .u64 (Int.tdiv (wr .u64 ((wr .u64 ((wr .u64 ((wr .u64 ((BitVec.ofInt (IntKind.bits .u64) (wr .u64 (a0 * 2 ^ (min ((wr .u64 r1)).toNat (64 : Nat)))) ||| BitVec.ofInt (IntKind.bits .u64) (Int.fdiv a1 (2 ^ (min ((wr .u64 ((64 : Int) - (wr .u64 r1)))).toNat (64 : Nat))))).toNat : Int)) * (4294967296 : Int))) + (Int.fdiv (wr .u64 (a1 * 2 ^ (min ((wr .u64 r1)).toNat (64 : Nat)))) (2 ^ (min 32 (64 : Nat)))))) - (wr .u64 (o2.1 * (wr .u64 (a2 * 2 ^ (min ((wr .u64 r1)).toNat (64 : Nat)))))))) (Int.fdiv (wr .u64 (a2 * 2 ^ (min ((wr .u64 r1)).toNat (64 : Nat)))) (2 ^ (min 32 (64 : Nat)))))))).bind fun o3 => (if (0 : Int) ≤ (wr .u64 r1) then (some ((wr .u64 ((wr .u64 (o2.1 * (4294967296 : Int))) + o3.2)), (Int.fdiv (wr .u64 ((wr .u64 ((wr .u64 ((wr .u64 ((wr .u64 ((wr .u64 ((wr .u64 ((BitVec.ofInt (IntKind.bits .u64) (wr .u64 (a0 * 2 ^ (min ((wr .u64 r1)).toNat (64 : Nat)))) ||| BitVec.ofInt (IntKind.bits .u64) (Int.fdiv a1 (2 ^ (min ((wr .u64 ((64 : Int) - (wr .u64 r1)))).toNat (64 : Nat))))).toNat : Int)) * (4294967296 : Int))) + (Int.fdiv (wr .u64 (a1 * 2 ^ (min ((wr .u64 r1)).toNat (64 : Nat)))) (2 ^ (min 32 (64 : Nat)))))) - (wr .u64 (o2.1 * (wr .u64 (a2 * 2 ^ (min ((wr .u64 r1)).toNat (64 : Nat)))))))) * (4294967296 : Int))) + (wr .u64 ((BitVec.ofInt (IntKind.bits .u64) (wr .u64 (a1 * 2 ^ (min ((wr .u64 r1)).toNat (64 : Nat)))) &&& BitVec.ofInt (IntKind.bits .u64) (4294967295 : Int)).toNat : Int)))) - (wr .u64 (o3.2 * (wr .u64 (a2 * 2 ^ (min ((wr .u64 r1)).toNat (64 : Nat)))))))) (2 ^ (min ((wr .u64 r1)).toNat (64 : Nat)))))) else none))))) else none) else none) else none) else none)))))
def z51.enc (r : Int × Int) : V := (.tup [(.int .u64 r.1), (.int .u64 r.2)])
def z51.pack : List V → Option Pack
  | [(.int .u64 a0), (.int .u64 a1), (.int .u64 a2)] => some ⟨Int × Int, z51.F a0 a1 a2, z51.enc⟩
  | _ => none
def z52.l0P (l1001 : List Int) (d1002 : Int) {R : Type} (rec : (Int × Int × (List Int)) → Option R) (done : (Int × Int × (List Int)) → Option R) : (Int × Int × (List Int)) → Option R := fun x => match x with
  | (rest1004, i1005, s1007) => (bif (decide (i1005 ≥ (0 : Int))) then (if (0 : Int) ≤ i1005 ∧ i1005 < (l1001.length : Int) then ((z51.F rest1004 (l1001.getD (i1005).toNat 0) d1002).bind fun r1008 => (if (0 : Int) ≤ i1005 ∧ i1005 < (s1007.length : Int) then (if (i1005).toNat < s1007.length then (rec (r1008.2, (wr .i64 (i1005 - (1 : Int))), (s1007.set (i1005).toNat r1008.1))) else none) else none)) else none) else (done (rest1004, i1005, s1007)))
def z52.l0 (l1001 : List Int) (d1002 : Int) (x : (Int × Int × (List Int))) : Option ((Int × Int × (List Int))) := lfp (fun rec x => z52.l0P l1001 d1002 rec some x) x
def z52.F (a0 : List Int) (a1 : Int) : Option ((List Int) × Int) :=
  (if 0 ≤ (((a0).length : Nat) : Int) ∧ (((a0).length : Nat) : Int) * 8 ≤ 140737488355328 then ((z52.l0 a0 a1 ((0 : Int), (wr .i64 ((((a0).length : Nat) : Int) - (1 : Int))), (List.replicate ((((a0).length : Nat) : Int)).toNat (0 : Int)))).bind fun o1 => (some (o1.2.2, o1.1))) else none)
def z52.enc (r : (List Int) × Int) : V := (.tup [(.ints false .u64 r.1), (.int .u64 r.2)])
def z52.pack : List V → Option Pack
  | [(.ints _ .u64 a0), (.int .u64 a1)] => some ⟨(List Int) × Int, z52.F a0 a1, z52.enc⟩
  | _ => none
def z53.F (a0 : List Int) (a1 : List Int) : Option ((List Int) × (List Int) × Int) :=
  ((z7.F a1).bind fun r1 => (bif r1 then (some ([], [], (8 : Int))) else ((z17.F a0 a1).bind fun r2 => (bif (decide (r2 < (0 : Int))) then (some ([], a0, (0 : Int))) else ((z48.F a0).bind fun r3 => ((z48.F a1).bind fun r4 => (bif (decide ((((r4).length : Nat) : Int) = (1 : Int))) then (if (0 : Int) ≤ (0 : Int) ∧ (0 : Int) < (r4.length : Int) then ((z52.F r3 (r4.getD 0 0)).bind fun r5 => ((z26.F r5.1).bind fun r6 => ((z26.F [r5.2]).bind fun r7 => (some (r6, r7, (0 : Int)))))) else none) else ((z5.F r3 r4).bind fun r8 => ((z26.F r8.1).bind fun r9 => ((z26.F r8.2).bind fun r10 => (some (r9, r10, (0 : Int)))))))))))))
def z53.enc (r : (List Int) × (List Int) × Int) : V := (.tup [(.agg [(.ints false .u64 r.1)]), (.agg [(.ints false .u64 r.2.1)]), (.int .i64 r.2.2)])
def z53.pack : List V → Option Pack
  | [(.agg [(.ints _ .u64 a0)]), (.agg [(.ints _ .u64 a1)])] => some ⟨(List Int) × (List Int) × Int, z53.F a0 a1, z53.enc⟩
  | _ => none
def z54.l0P  {R : Type} (rec : ((List Int) × (List Int)) → Option R) (done : ((List Int) × (List Int)) → Option R) : ((List Int) × (List Int)) → Option R := fun x => match x with
  | (s1001, s1002) => ((z7.F s1002).bind fun r1004 => (bif (!r1004) then ((z53.F s1001 s1002).bind fun r1005 => (rec (s1002, r1005.2.1))) else (done (s1001, s1002))))
def z54.l0  (x : ((List Int) × (List Int))) : Option (((List Int) × (List Int))) := lfp (fun rec x => z54.l0P  rec some x) x
def z54.F (a0 : List Int) (a1 : List Int) : Option ((List Int)) :=
  ((z54.l0 (a0, a1)).bind fun o1 => (some o1.1))
def z54.enc (r : (List Int)) : V := (.agg [(.ints false .u64 r)])
def z54.pack : List V → Option Pack
  | [(.agg [(.ints _ .u64 a0)]), (.agg [(.ints _ .u64 a1)])] => some ⟨(List Int), z54.F a0 a1, z54.enc⟩
  | _ => none
def z55.F (a0 : List Int) (a1 : Bool) (a2 : List Int) : Option ((List Int) × Bool × (List Int)) :=
  ((z47.F a0 a1).bind fun r1 => ((z54.F r1 a2).bind fun r2 => ((z47.F a0 a1).bind fun r3 => ((z53.F r3 r2).bind fun r4 => ((z53.F a2 r2).bind fun r5 => ((z26.F [(1 : Int)]).bind fun r6 => ((z18.F r5.1 r6).bind fun r7 => ((z8.F a0 a1).bind fun r8 => ((z9.F r4.1 (decide (r8 < (0 : Int)))).bind fun r9 => (some (r9.1, r9.2, r7.1)))))))))))
def z55.enc (r : (List Int) × Bool × (List Int)) : V := (.agg [(.ints false .u64 r.1), (.bool r.2.1), (.ints false .u64 r.2.2)])
def z55.pack : List V → Option Pack
  | [(.agg [(.ints _ .u64 a0), (.bool a1)]), (.agg [(.ints _ .u64 a2)])] => some ⟨(List Int) × Bool × (List Int), z55.F a0 a1 a2, z55.enc⟩
  | _ => none
def z56.j4 (a2 : List Int) (a3 : Bool) (j3 : List Int) (j4 : Bool) : Option ((List Int) × Bool × (List Int) × Int) :=
  ((z47.F a2 a3).bind fun r5 => ((z55.F j3 j4 r5).bind fun r6 => (some (r6.1, r6.2.1, r6.2.2, (0 : Int)))))
def z56.F (a0 : List Int) (a1 : Bool) (a2 : List Int) (a3 : Bool) : Option ((List Int) × Bool × (List Int) × Int) :=
  ((z8.F a2 a3).bind fun r1 => (bif (decide (r1 = (0 : Int))) then (some ([], false, [], (8 : Int))) else (bif (decide (r1 = (-1 : Int))) then ((z20.F a0 a1).bind fun r2 => (z56.j4 a2 a3 r2.1 r2.2)) else (z56.j4 a2 a3 a0 a1))))
def z56.enc (r : (List Int) × Bool × (List Int) × Int) : V := (.tup [(.agg [(.ints false .u64 r.1), (.bool r.2.1), (.ints false .u64 r.2.2.1)]), (.int .i64 r.2.2.2)])
def z56.pack : List V → Option Pack
  | [(.agg [(.ints _ .u64 a0), (.bool a1)]), (.agg [(.ints _ .u64 a2), (.bool a3)])] => some ⟨(List Int) × Bool × (List Int) × Int, z56.F a0 a1 a2 a3, z56.enc⟩
  | _ => none
def z57.F (a0 : List Int) (a1 : Bool) (a2 : Int) : Option ((List Int) × Bool × (List Int)) :=
  ((z43.F a2).bind fun r1 => ((z56.F a0 a1 r1.1 r1.2).bind fun r2 => (some (r2.1, r2.2.1, r2.2.2.1))))
def z57.enc (r : (List Int) × Bool × (List Int)) : V := (.agg [(.ints false .u64 r.1), (.bool r.2.1), (.ints false .u64 r.2.2)])
def z57.pack : List V → Option Pack
  | [(.agg [(.ints _ .u64 a0), (.bool a1), (.int .i64 a2)])] => some ⟨(List Int) × Bool × (List Int), z57.F a0 a1 a2, z57.enc⟩
  | _ => none
def z58.F (a0 : List Int) (a1 : Bool) (a2 : List Int) : Option ((List Int)) :=
  ((z26.F [(1 : Int)]).bind fun r1 => ((z12.F a2 r1).bind fun r2 => (some r2)))
def z58.enc (r : (List Int)) : V := (.agg [(.ints false .u64 r)])
def z58.pack : List V → Option Pack
  | [(.agg [(.ints _ .u64 a0), (.bool a1), (.ints _ .u64 a2)])] => some ⟨(List Int), z58.F a0 a1 a2, z58.enc⟩
  | _ => none
def z59.F (a0 : List Int) (a1 : Bool) (a2 : List Int) : Option ((List Int) × Bool) :=
  ((z58.F a0 a1 a2).bind fun r1 => ((z9.F r1 false).bind fun r2 => (some (r2.1, r2.2))))
def z59.enc (r : (List Int) × Bool) : V := (.agg [(.ints false .u64 r.1), (.bool r.2)])
def z59.pack : List V → Option Pack
  | [(.agg [(.ints _ .u64 a0), (.bool a1), (.ints _ .u64 a2)])] => some ⟨(List Int) × Bool, z59.F a0 a1 a2, z59.enc⟩
  | _ => none
def z60.F (a0 : List Int) (a1 : Bool) (a2 : List Int) (a3 : List Int) (a4 : Bool) (a5 : List Int) : Option ((List Int) × Bool × (List Int) × Int) :=
  ((z59.F a3 a4 a5).bind fun r1 => ((z42.F a0 a1 r1.1 r1.2).bind fun r2 => ((z59.F a0 a1 a2).bind fun r3 => ((z42.F r3.1 r3.2 a3 a4).bind fun r4 => ((z56.F r2.1 r2.2 r4.1 r4.2).bind fun r5 => (some (r5.1, r5.2.1, r5.2.2.1, r5.2.2.2)))))))
def z60.enc (r : (List Int) × Bool × (List Int) × Int) : V := (.tup [(.agg [(.ints false .u64 r.1), (.bool r.2.1), (.ints false .u64 r.2.2.1)]), (.int .i64 r.2.2.2)])
def z60.pack : List V → Option Pack
  | [(.agg [(.ints _ .u64 a0), (.bool a1), (.ints _ .u64 a2)]), (.agg [(.ints _ .u64 a3), (.bool a4), (.ints _ .u64 a5)])] => some ⟨(List Int) × Bool × (List Int) × Int, z60.F a0 a1 a2 a3 a4 a5, z60.enc⟩
  | _ => none
def z61.j8 (r1 : (List Int) × Bool × Int × Int) : Option ((List Int) × Bool × (List Int) × Int) :=
  ((z57.F r1.1 r1.2.1 r1.2.2.1).bind fun r9 => ((z36.F (100 : Int)).bind fun r10 => ((z35.F r10.1 r10.2).bind fun r11 => ((z60.F r9.1 r9.2.1 r9.2.2 r11.1 r11.2.1 r11.2.2).bind fun r12 => (some (r12.1, r12.2.1, r12.2.2.1, r12.2.2.2))))))
def z61.F (a0 : List UInt8) : Option ((List Int) × Bool × (List Int) × Int) :=
  ((z38.F a0).bind fun r1 => (bif (!decide (r1.2.2.2 = (0 : Int))) then (some ([], false, [], r1.2.2.2)) else ((z36.F (1000 : Int)).bind fun r2 => ((z40.F r2.1 r2.2 (0 : Int)).bind fun r3 => ((z41.F r1.1 r1.2.1 r1.2.2.1).bind fun r4 => ((z8.F r4.1 r4.2).bind fun r5 => (bif (decide (r5 < (0 : Int))) then (some ([], false, [], (18 : Int))) else ((z45.F r1.1 r1.2.1 r1.2.2.1 r3.1 r3.2.1 r3.2.2.1).bind fun r6 => (bif (decide (r6 > (0 : Int))) then (some ([], false, [], (18 : Int))) else ((z46.F r1.1 r1.2.1 r1.2.2.1).bind fun r7 => (bif (decide (r7 > (12 : Int))) then (some ([], false, [], (18 : Int))) else (z61.j8 r1))))))))))))
def z61.enc (r : (List Int) × Bool × (List Int) × Int) : V := (.tup [(.agg [(.ints false .u64 r.1), (.bool r.2.1), (.ints false .u64 r.2.2.1)]), (.int .i64 r.2.2.2)])
def z61.pack : List V → Option Pack
  | [(.str a0)] => some ⟨(List Int) × Bool × (List Int) × Int, z61.F a0, z61.enc⟩
  | _ => none
def z62.F  : Option ((List (List UInt8))) :=
  (some [([97, 110, 110, 117, 105, 116, 121] : List UInt8), ([108, 105, 110, 101, 97, 114] : List UInt8), ([98, 117, 108, 108, 101, 116] : List UInt8)])
def z62.enc (r : (List (List UInt8))) : V := (.strs false r)
def z62.pack : List V → Option Pack
  | [] => some ⟨(List (List UInt8)), z62.F , z62.enc⟩
  | _ => none
def z63.j1 (a0 : Int) : Option ((List UInt8)) :=
  (z62.F.bind fun r2 => (if (0 : Int) ≤ a0 ∧ a0 < (r2.length : Int) then (some (r2.getD (a0).toNat [])) else none))
def z63.F (a0 : Int) : Option ((List UInt8)) :=
  (bif (decide (a0 < (0 : Int))) then (some ([] : List UInt8)) else (bif (decide (a0 ≥ (3 : Int))) then (some ([] : List UInt8)) else (z63.j1 a0)))
def z63.enc (r : (List UInt8)) : V := (.str r)
def z63.pack : List V → Option Pack
  | [(.int .i64 a0)] => some ⟨(List UInt8), z63.F a0, z63.enc⟩
  | _ => none
def z64.F (a0 : Int) : Option (Bool) :=
  (bif (decide (a0 ≥ (0 : Int))) then (some (decide (a0 < (5 : Int)))) else (some false))
def z64.enc (r : Bool) : V := (.bool r)
def z64.pack : List V → Option Pack
  | [(.int .i64 a0)] => some ⟨Bool, z64.F a0, z64.enc⟩
  | _ => none
def z65.F  : Option ((List (List UInt8))) :=
  (some [([100, 111, 119, 110] : List UInt8), ([117, 112] : List UInt8), ([104, 97, 108, 102, 45, 117, 112] : List UInt8), ([104, 97, 108, 102, 45, 100, 111, 119, 110] : List UInt8), ([104, 97, 108, 102, 45, 101, 118, 101, 110] : List UInt8)])
def z65.enc (r : (List (List UInt8))) : V := (.strs false r)
def z65.pack : List V → Option Pack
  | [] => some ⟨(List (List UInt8)), z65.F , z65.enc⟩
  | _ => none
def z66.F (a0 : Int) : Option ((List UInt8)) :=
  ((z64.F a0).bind fun r1 => (bif (!r1) then (some ([] : List UInt8)) else (z65.F.bind fun r2 => (if (0 : Int) ≤ a0 ∧ a0 < (r2.length : Int) then (some (r2.getD (a0).toNat [])) else none))))
def z66.enc (r : (List UInt8)) : V := (.str r)
def z66.pack : List V → Option Pack
  | [(.int .i64 a0)] => some ⟨(List UInt8), z66.F a0, z66.enc⟩
  | _ => none
def z67.F (a0 : Int) : Option (Bool) :=
  (bif (decide (a0 ≥ (0 : Int))) then (some (decide (a0 < (3 : Int)))) else (some false))
def z67.enc (r : Bool) : V := (.bool r)
def z67.pack : List V → Option Pack
  | [(.int .i64 a0)] => some ⟨Bool, z67.F a0, z67.enc⟩
  | _ => none
def z68.F  : Option ((List (List UInt8))) :=
  (some [([116, 104, 105, 114, 116, 121] : List UInt8), ([102, 105, 120, 101, 100] : List UInt8), ([97, 99, 116, 117, 97, 108] : List UInt8)])
def z68.enc (r : (List (List UInt8))) : V := (.strs false r)
def z68.pack : List V → Option Pack
  | [] => some ⟨(List (List UInt8)), z68.F , z68.enc⟩
  | _ => none
def z69.F (a0 : Int) : Option ((List UInt8)) :=
  ((z67.F a0).bind fun r1 => (bif (!r1) then (some ([] : List UInt8)) else (z68.F.bind fun r2 => (if (0 : Int) ≤ a0 ∧ a0 < (r2.length : Int) then (some (r2.getD (a0).toNat [])) else none))))
def z69.enc (r : (List UInt8)) : V := (.str r)
def z69.pack : List V → Option Pack
  | [(.int .i64 a0)] => some ⟨(List UInt8), z69.F a0, z69.enc⟩
  | _ => none
def z70.F (a0 : List UInt8) (a1 : List UInt8) (a2 : Int) (a3 : Int) (a4 : Int) (a5 : Int) (a6 : Int) (a7 : Int) (a8 : Int) (a9 : Int) : Option (Bool) :=
  ((z63.F a2).bind fun r1 => (bif (decide (r1 = ([] : List UInt8))) then (some true) else ((z69.F a3).bind fun r2 => (bif (decide (r2 = ([] : List UInt8))) then (some true) else ((z66.F a4).bind fun r3 => (bif (decide (r3 = ([] : List UInt8))) then (some true) else (bif (decide (a8 < (1 : Int))) then (some true) else (bif (decide (a8 = (5 : Int))) then (some true) else (if a8 = 0 then none else (some (!decide ((Int.tmod (12 : Int) a8) = (0 : Int)))))))))))))
def z70.enc (r : Bool) : V := (.bool r)
def z70.pack : List V → Option Pack
  | [(.agg [(.str a0), (.str a1), (.int .i64 a2), (.int .i64 a3), (.int .i64 a4), (.int .i64 a5), (.int .i64 a6), (.int .i64 a7), (.int .i64 a8), (.int .i64 a9)])] => some ⟨Bool, z70.F a0 a1 a2 a3 a4 a5 a6 a7 a8 a9, z70.enc⟩
  | _ => none
def z71.F (a0 : Int) : Option (Bool) :=
  (bif (decide (a0 ≥ (1 : Int))) then (some (decide (a0 ≤ (9999 : Int)))) else (some false))
def z71.enc (r : Bool) : V := (.bool r)
def z71.pack : List V → Option Pack
  | [(.int .i64 a0)] => some ⟨Bool, z71.F a0, z71.enc⟩
  | _ => none
def z72.F (a0 : Int) : Option (Bool) :=
  ((z71.F a0).bind fun r1 => (bif r1 then (bif (decide ((Int.tmod a0 (4 : Int)) = (0 : Int))) then (bif (!decide ((Int.tmod a0 (100 : Int)) = (0 : Int))) then (some true) else (some (decide ((Int.tmod a0 (400 : Int)) = (0 : Int))))) else (some (decide ((Int.tmod a0 (400 : Int)) = (0 : Int))))) else (some false)))
def z72.enc (r : Bool) : V := (.bool r)
def z72.pack : List V → Option Pack
  | [(.int .i64 a0)] => some ⟨Bool, z72.F a0, z72.enc⟩
  | _ => none
def z73.j10 (a1 : Int) : Option (Int) :=
  (if (0 : Int) ≤ (wr .i64 (a1 - (1 : Int))) ∧ (wr .i64 (a1 - (1 : Int))) < (12 : Int) then (V.asInt .i64 (([(.int .i64 (31 : Int)), (.int .i64 (28 : Int)), (.int .i64 (31 : Int)), (.int .i64 (30 : Int)), (.int .i64 (31 : Int)), (.int .i64 (30 : Int)), (.int .i64 (31 : Int)), (.int .i64 (31 : Int)), (.int .i64 (30 : Int)), (.int .i64 (31 : Int)), (.int .i64 (30 : Int)), (.int .i64 (31 : Int))] : List V).getD ((wr .i64 (a1 - (1 : Int)))).toNat .undef) fun c11 => (some c11)) else none)
def z73.F (a0 : Int) (a1 : Int) : Option (Int) :=
  ((z71.F a0).bind fun r1 => (bif (!r1) then (some (0 : Int)) else (bif (decide (a1 < (1 : Int))) then (some (0 : Int)) else (bif (decide (a1 > (12 : Int))) then (some (0 : Int)) else (bif (decide (a1 = (2 : Int))) then ((z72.F a0).bind fun r9 => (bif r9 then (some (29 : Int)) else (z73.j10 a1))) else (z73.j10 a1))))))
def z73.enc (r : Int) : V := (.int .i64 r)
def z73.pack : List V → Option Pack
  | [(.int .i64 a0), (.int .i64 a1)] => some ⟨Int, z73.F a0 a1, z73.enc⟩
  | _ => none
def z74.F (a0 : Int) (a1 : Int) (a2 : Int) : Option (Int) :=
  (bif (decide (a2 < (1 : Int))) then (some (11 : Int)) else ((z73.F a0 a1).bind fun r1 => (bif (decide (a2 > r1)) then (some (11 : Int)) else (some (0 : Int)))))
def z74.enc (r : Int) : V := (.int .i64 r)
def z74.pack : List V → Option Pack
  | [(.agg [(.int .i64 a0), (.int .i64 a1), (.int .i64 a2)])] => some ⟨Int, z74.F a0 a1 a2, z74.enc⟩
  | _ => none
def z75.j3 (a0 : Int) (a1 : Int) (a3 : Int) (a2 : Int) : Option (Int × Int × Int × Int) :=
  ((z73.F (wr .i64 (Int.tdiv (wr .i64 ((wr .i64 ((wr .i64 ((wr .i64 ((12 : Int) * a0)) + a1)) - (1 : Int))) + a3)) (12 : Int))) (wr .i64 ((Int.tmod (wr .i64 ((wr .i64 ((wr .i64 ((wr .i64 ((12 : Int) * a0)) + a1)) - (1 : Int))) + a3)) (12 : Int)) + (1 : Int)))).bind fun r4 => (some ((wr .i64 (Int.tdiv (wr .i64 ((wr .i64 ((wr .i64 ((wr .i64 ((12 : Int) * a0)) + a1)) - (1 : Int))) + a3)) (12 : Int))), (wr .i64 ((Int.tmod (wr .i64 ((wr .i64 ((wr .i64 ((wr .i64 ((12 : Int) * a0)) + a1)) - (1 : Int))) + a3)) (12 : Int)) + (1 : Int))), (if r4 < a2 then r4 else a2), (0 : Int))))
def z75.j2 (a0 : Int) (a1 : Int) (a3 : Int) (a2 : Int) : Option (Int × Int × Int × Int) :=
  (bif (decide ((wr .i64 ((wr .i64 ((wr .i64 ((wr .i64 ((12 : Int) * a0)) + a1)) - (1 : Int))) + a3)) < (12 : Int))) then (some ((0 : Int), (0 : Int), (0 : Int), (11 : Int))) else (bif (decide ((wr .i64 (Int.tdiv (wr .i64 ((wr .i64 ((wr .i64 ((wr .i64 ((12 : Int) * a0)) + a1)) - (1 : Int))) + a3)) (12 : Int))) > (9999 : Int))) then (some ((0 : Int), (0 : Int), (0 : Int), (11 : Int))) else (z75.j3 a0 a1 a3 a2)))
def z75.F (a0 : Int) (a1 : Int) (a2 : Int) (a3 : Int) : Option (Int × Int × Int × Int) :=
  ((z74.F a0 a1 a2).bind fun r1 => (bif (!decide (r1 = (0 : Int))) then (some ((0 : Int), (0 : Int), (0 : Int), r1)) else (bif (decide (a3 < (-119988 : Int))) then (some ((0 : Int), (0 : Int), (0 : Int), (11 : Int))) else (bif (decide (a3 > (119988 : Int))) then (some ((0 : Int), (0 : Int), (0 : Int), (11 : Int))) else (z75.j2 a0 a1 a3 a2)))))
def z75.enc (r : Int × Int × Int × Int) : V := (.tup [(.agg [(.int .i64 r.1), (.int .i64 r.2.1), (.int .i64 r.2.2.1)]), (.int .i64 r.2.2.2)])
def z75.pack : List V → Option Pack
  | [(.agg [(.int .i64 a0), (.int .i64 a1), (.int .i64 a2)]), (.int .i64 a3)] => some ⟨Int × Int × Int × Int, z75.F a0 a1 a2 a3, z75.enc⟩
  | _ => none
def z76.F (a0 : List UInt8) (a1 : List UInt8) (a2 : Int) (a3 : Int) (a4 : Int) (a5 : Int) (a6 : Int) (a7 : Int) (a8 : Int) (a9 : Int) : Option (Int) :=
  ((z34.F a0).bind fun r1 => (bif (!decide (r1.2.2 = (0 : Int))) then (some r1.2.2) else ((z8.F r1.1 r1.2.1).bind fun r2 => (bif (decide (r2 = (0 : Int))) then (some (19 : Int)) else ((z61.F a1).bind fun r3 => (bif (!decide (r3.2.2.2 = (0 : Int))) then (some r3.2.2.2) else ((z70.F a0 a1 a2 a3 a4 a5 a6 a7 a8 a9).bind fun r4 => (bif r4 then (some (2 : Int)) else (bif (decide (a9 < (1 : Int))) then (some (6 : Int)) else (bif (decide (a9 > (1200 : Int))) then (some (6 : Int)) else ((z75.F a5 a6 a7 (wr .i64 (a8 * a9))).bind fun r8 => (some r8.2.2.2))))))))))))
def z76.enc (r : Int) : V := (.int .i64 r)
def z76.pack : List V → Option Pack
  | [(.agg [(.str a0), (.str a1), (.int .i64 a2), (.int .i64 a3), (.int .i64 a4), (.int .i64 a5), (.int .i64 a6), (.int .i64 a7), (.int .i64 a8), (.int .i64 a9)])] => some ⟨Int, z76.F a0 a1 a2 a3 a4 a5 a6 a7 a8 a9, z76.enc⟩
  | _ => none
def z77.l0b4P (length5002 : Int) {R : Type} (rec : (Int × Int × (List Int)) → Option R) (done : (Int × Int × (List Int)) → Option R) : (Int × Int × (List Int)) → Option R := fun x => match x with
  | (n5001, i5004, s5005) => (bif (decide (n5001 > (0 : Int))) then (if (0 : Int) ≤ (wr .i64 (i5004 - (1 : Int))) ∧ (wr .i64 (i5004 - (1 : Int))) < (20 : Int) then (if ((wr .i64 (i5004 - (1 : Int)))).toNat < s5005.length then (rec ((wr .u64 (Int.tdiv n5001 (10 : Int))), (wr .i64 (i5004 - (1 : Int))), (s5005.set ((wr .i64 (i5004 - (1 : Int)))).toNat (wr .u8 (wr .u64 ((48 : Int) + (Int.tmod n5001 (10 : Int)))))))) else none) else none) else (bif (decide ((wr .i64 ((20 : Int) - i5004)) < length5002)) then (if (0 : Int) ≤ (wr .i64 (i5004 - (1 : Int))) ∧ (wr .i64 (i5004 - (1 : Int))) < (20 : Int) then (if ((wr .i64 (i5004 - (1 : Int)))).toNat < s5005.length then (rec ((wr .u64 (Int.tdiv n5001 (10 : Int))), (wr .i64 (i5004 - (1 : Int))), (s5005.set ((wr .i64 (i5004 - (1 : Int)))).toNat (wr .u8 (wr .u64 ((48 : Int) + (Int.tmod n5001 (10 : Int)))))))) else none) else none) else (done (n5001, i5004, s5005))))
def z77.l0b4 (length5002 : Int) (x : (Int × Int × (List Int))) : Option ((Int × Int × (List Int))) := lfp (fun rec x => z77.l0b4P length5002 rec some x) x
def z77.F (a0 : Int) (a1 : Int) : Option ((List UInt8)) :=
  ((z77.l0b4 a1 (a0, (20 : Int), (List.replicate 20 (0 : Int)))).bind fun o1 => (if (o1.2.2).length = 20 then (if (0 : Int) ≤ o1.2.1 ∧ o1.2.1 ≤ (20 : Int) then (some (((o1.2.2.drop (o1.2.1).toNat).take (20 - (o1.2.1).toNat)).map fun n => UInt8.ofNat n.toNat)) else none) else none))
def z77.enc (r : (List UInt8)) : V := (.str r)
def z77.pack : List V → Option Pack
  | [(.int .u64 a0), (.int .i64 a1)] => some ⟨(List UInt8), z77.F a0 a1, z77.enc⟩
  | _ => none
def z78.l2P (t2003 : List Int) (t2004 : Int) {R : Type} (rec : (Int × Int) → Option R) (done : (Int × Int) → Option R) : (Int × Int) → Option R := fun x => match x with
  | (low2002, t2005) => (bif (decide (t2005 < t2004)) then (if (0 : Int) ≤ t2005 ∧ t2005 < (t2003.length : Int) then (rec ((t2003.getD (t2005).toNat 0), (wr .i64 (t2005 + (1 : Int))))) else none) else (done (low2002, t2005)))
def z78.l2 (t2003 : List Int) (t2004 : Int) (x : (Int × Int)) : Option ((Int × Int)) := lfp (fun rec x => z78.l2P t2003 t2004 rec some x) x
def z78.j1010a {R : Type} (rec : ((List Int) × (List (List UInt8))) → Option R) (done : ((List Int) × (List (List UInt8))) → Option R) (o1008 : Int × Int) (j1010 : Int) (s1003 : List (List UInt8)) (r1006 : (List Int) × (List Int) × Int) : Option R :=
  ((z77.F o1008.1 j1010).bind fun r1011 => (if ((s1003).length + ([r1011]).length) * 16 ≤ 140737488355328 then (rec (r1006.1, (s1003 ++ [r1011]))) else none))
def z78.l0P  {R : Type} (rec : ((List Int) × (List (List UInt8))) → Option R) (done : ((List Int) × (List (List UInt8))) → Option R) : ((List Int) × (List (List UInt8))) → Option R := fun x => match x with
  | (s1002, s1003) => ((z7.F s1002).bind fun r1004 => (bif (!r1004) then ((z26.F [(1000000000000000000 : Int)]).bind fun r1005 => ((z53.F s1002 r1005).bind fun r1006 => ((z48.F r1006.2.1).bind fun r1007 => ((z78.l2 r1007 (((r1007).length : Nat) : Int) ((0 : Int), (0 : Int))).bind fun o1008 => ((z7.F r1006.1).bind fun r1009 => (bif r1009 then (z78.j1010a rec done o1008 (1 : Int) s1003 r1006) else (z78.j1010a rec done o1008 (18 : Int) s1003 r1006))))))) else (done (s1002, s1003))))
def z78.l0  (x : ((List Int) × (List (List UInt8)))) : Option (((List Int) × (List (List UInt8)))) := lfp (fun rec x => z78.l0P  rec some x) x
def z78.l4P (s3003 : List (List UInt8)) {R : Type} (rec : (Int × (List Int)) → Option R) (done : (Int × (List Int)) → Option R) : (Int × (List Int)) → Option R := fun x => match x with
  | (i3002, s3004) => (bif (decide (i3002 ≥ (0 : Int))) then (if (0 : Int) ≤ i3002 ∧ i3002 < (s3003.length : Int) then (if (i3002).toNat < s3003.length then (if ((s3004).length + (((s3003.getD (i3002).toNat []).map fun c => (c.toNat : Int))).length) * 1 ≤ 140737488355328 then (rec ((wr .i64 (i3002 - (1 : Int))), (s3004 ++ ((s3003.getD (i3002).toNat []).map fun c => (c.toNat : Int))))) else none) else none) else none) else (done (i3002, s3004)))
def z78.l4 (s3003 : List (List UInt8)) (x : (Int × (List Int))) : Option ((Int × (List Int))) := lfp (fun rec x => z78.l4P s3003 rec some x) x
def z78.F (a0 : List Int) : Option ((List UInt8)) :=
  ((z7.F a0).bind fun r1 => (bif r1 then (some ([48] : List UInt8)) else ((z78.l0 (a0, [])).bind fun o2 => (bif (decide ((wr .i64 ((((o2.2).length : Nat) : Int) - (1 : Int))) ≥ (0 : Int))) then (if (0 : Int) ≤ (wr .i64 ((((o2.2).length : Nat) : Int) - (1 : Int))) ∧ (wr .i64 ((((o2.2).length : Nat) : Int) - (1 : Int))) < (o2.2.length : Int) then (if ((wr .i64 ((((o2.2).length : Nat) : Int) - (1 : Int)))).toNat < o2.2.length then (if (([] : List Int).length + (((o2.2.getD ((wr .i64 ((((o2.2).length : Nat) : Int) - (1 : Int)))).toNat []).map fun c => (c.toNat : Int))).length) * 1 ≤ 140737488355328 then ((z78.l4 o2.2 ((wr .i64 ((wr .i64 ((((o2.2).length : Nat) : Int) - (1 : Int))) - (1 : Int))), ([] ++ ((o2.2.getD ((wr .i64 ((((o2.2).length : Nat) : Int) - (1 : Int)))).toNat []).map fun c => (c.toNat : Int))))).bind fun o3 => (if 0 < (o3.2).length then (if (((o3.2).length : Nat) : Int) = (o3.2.length : Int) ∧ 0 < o3.2.length ∧ o3.2.all isByte = true then (some (o3.2.map fun n => UInt8.ofNat n.toNat)) else none) else none)) else none) else none) else none) else none))))
def z78.enc (r : (List UInt8)) : V := (.str r)
def z78.pack : List V → Option Pack
  | [(.agg [(.ints _ .u64 a0)])] => some ⟨(List UInt8), z78.F a0, z78.enc⟩
  | _ => none
def z79.F (a0 : List Int) (a1 : Bool) : Option ((List UInt8)) :=
  (bif a1 then ((z78.F a0).bind fun r1 => (if ([45] : List UInt8).length + r1.length ≤ 9223372036854775807 then (some (([45] : List UInt8) ++ r1)) else none)) else ((z78.F a0).bind fun r2 => (some r2)))
def z79.enc (r : (List UInt8)) : V := (.str r)
def z79.pack : List V → Option Pack
  | [(.agg [(.ints _ .u64 a0), (.bool a1)])] => some ⟨(List UInt8), z79.F a0 a1, z79.enc⟩
  | _ => none
def z80.F (a0 : List Int) (a1 : Bool) (a2 : List Int) : Option ((List UInt8)) :=
  ((z7.F a2).bind fun r1 => (bif r1 then ((z79.F a0 a1).bind fun r2 => (some r2)) else ((z79.F a0 a1).bind fun r3 => (if r3.length + ([47] : List UInt8).length ≤ 9223372036854775807 then ((z58.F a0 a1 a2).bind fun r4 => ((z78.F r4).bind fun r5 => (if (r3 ++ ([47] : List UInt8)).length + r5.length ≤ 9223372036854775807 then (some ((r3 ++ ([47] : List UInt8)) ++ r5)) else none))) else none))))
def z80.enc (r : (List UInt8)) : V := (.str r)
def z80.pack : List V → Option Pack
  | [(.agg [(.ints _ .u64 a0), (.bool a1), (.ints _ .u64 a2)])] => some ⟨(List UInt8), z80.F a0 a1 a2, z80.enc⟩
  | _ => none
def z81.l0P (s1001 : List (List UInt8)) (v1002 : List UInt8) (t1004 : Int) {R : Type} (rec : Int → Option R) (done : ((Int) ⊕ (Int)) → Option R) : Int → Option R := fun t1005 => (bif (decide (t1005 < t1004)) then (if (0 : Int) ≤ t1005 ∧ t1005 < (s1001.length : Int) then (bif (decide (v1002 = (s1001.getD (t1005).toNat []))) then (done (.inr t1005)) else (rec (wr .i64 (t1005 + (1 : Int))))) else none) else (done (.inl t1005)))
def z81.l0 (s1001 : List (List UInt8)) (v1002 : List UInt8) (t1004 : Int) (x : Int) : Option (((Int) ⊕ (Int))) := lfp (fun rec x => z81.l0P s1001 v1002 t1004 rec some x) x
def z81.F (a0 : List (List UInt8)) (a1 : List UInt8) : Option (Int) :=
  ((z81.l0 a0 a1 (((a0).length : Nat) : Int) (0 : Int)).bind fun o1 => match o1 with | .inl p2 => (some (-1 : Int)) | .inr q3 => (some q3))
def z81.enc (r : Int) : V := (.int .i64 r)
def z81.pack : List V → Option Pack
  | [(.strs _ a0), (.str a1)] => some ⟨Int, z81.F a0 a1, z81.enc⟩
  | _ => none
def z82.F (a0 : List UInt8) : Option (Int × Bool) :=
  (z62.F.bind fun r1 => ((z81.F r1 a0).bind fun r2 => (some ((if (0 : Int) > r2 then (0 : Int) else r2), (decide (r2 ≥ (0 : Int)))))))
def z82.enc (r : Int × Bool) : V := (.tup [(.int .i64 r.1), (.bool r.2)])
def z82.pack : List V → Option Pack
  | [(.str a0)] => some ⟨Int × Bool, z82.F a0, z82.enc⟩
  | _ => none
def z83.F  : Option (Bool) :=
  ((z61.F ([52, 46, 50, 53] : List UInt8)).bind fun r1 => ((z61.F ([49, 48, 48, 48, 46, 49] : List UInt8)).bind fun r2 => ((z34.F ([45, 49] : List UInt8)).bind fun r3 => ((z82.F ([108, 105, 110, 101, 97, 114] : List UInt8)).bind fun r4 => (bif (decide (r1.2.2.2 = (0 : Int))) then ((z80.F r1.1 r1.2.1 r1.2.2.1).bind fun r5 => (bif (decide (r5 = ([49, 55, 47, 52, 48, 48] : List UInt8))) then (bif (decide (r2.2.2.2 = (18 : Int))) then (bif (decide (r3.2.2 = (19 : Int))) then (bif (decide (r4.1 = (1 : Int))) then (bif r4.2 then ((z76.F ([49, 48, 48] : List UInt8) ([53] : List UInt8) (0 : Int) (0 : Int) (0 : Int) (2024 : Int) (1 : Int) (1 : Int) (1 : Int) (12 : Int)).bind fun r6 => (bif (decide (r6 = (0 : Int))) then ((z76.F ([] : List UInt8) ([] : List UInt8) (0 : Int) (0 : Int) (0 : Int) (0 : Int) (0 : Int) (0 : Int) (0 : Int) (0 : Int)).bind fun r7 => (some (decide (r7 = (5 : Int))))) else (some false))) else (some false)) else (some false)) else (some false)) else (some false)) else (some false))) else (some false))))))
def z83.enc (r : Bool) : V := (.bool r)
def z83.pack : List V → Option Pack
  | [] => some ⟨Bool, z83.F , z83.enc⟩
  | _ => none
def z84.l0b6P (s7001 : List UInt8) (t7005 : List (List UInt8)) (t7006 : Int) {R : Type} (rec : (Int × Int) → Option R) (done : ((Int × Int) ⊕ (Bool)) → Option R) : (Int × Int) → Option R := fun x => match x with
  | (at7004, t7007) => (bif (decide (t7007 < t7006)) then (if (0 : Int) ≤ t7007 ∧ t7007 < (t7005.length : Int) then ((z82.F (t7005.getD (t7007).toNat [])).bind fun r7008 => (bif (!decide (r7008.1 = t7007)) then (done (.inr false)) else (bif (!r7008.2) then (done (.inr false)) else ((z63.F t7007).bind fun r7009 => (bif (!decide (r7009 = (t7005.getD (t7007).toNat []))) then (done (.inr false)) else (bif (decide ((t7005.getD (t7007).toNat []) = s7001)) then (rec (t7007, (wr .i64 (t7007 + (1 : Int))))) else (rec (at7004, (wr .i64 (t7007 + (1 : Int))))))))))) else none) else (done (.inl (at7004, t7007))))
def z84.l0b6 (s7001 : List UInt8) (t7005 : List (List UInt8)) (t7006 : Int) (x : (Int × Int)) : Option (((Int × Int) ⊕ (Bool))) := lfp (fun rec x => z84.l0b6P s7001 t7005 t7006 rec some x) x
def z84.F (a0 : List UInt8) (a1 : Int) : Option (Bool) :=
  ((z84.l0b6 a0 [([97, 110, 110, 117, 105, 116, 121] : List UInt8), ([108, 105, 110, 101, 97, 114] : List UInt8), ([98, 117, 108, 108, 101, 116] : List UInt8)] ((([([97, 110, 110, 117, 105, 116, 121] : List UInt8), ([108, 105, 110, 101, 97, 114] : List UInt8), ([98, 117, 108, 108, 101, 116] : List UInt8)]).length : Nat) : Int) ((-1 : Int), (0 : Int))).bind fun o1 => match o1 with | .inl p2 => ((z82.F a0).bind fun r4 => (z83.F.bind fun r5 => (bif r5 then (bif (decide (r4.2 = (decide (p2.1 ≥ (0 : Int))))) then (bif (decide (r4.1 = (if (0 : Int) > p2.1 then (0 : Int) else p2.1))) then (bif (decide (a1 ≥ (0 : Int))) then (bif (decide (a1 < (3 : Int))) then (some true) else ((z63.F a1).bind fun r6 => (some (decide (r6 = ([] : List UInt8)))))) else ((z63.F a1).bind fun r7 => (some (decide (r7 = ([] : List UInt8)))))) else (some false)) else (some false)) else (some false)))) | .inr q3 => (some q3))
def z84.enc (r : Bool) : V := (.bool r)
def z84.pack : List V → Option Pack
  | [(.str a0), (.int .i64 a1)] => some ⟨Bool, z84.F a0 a1, z84.enc⟩
  | _ => none
end
end Go.Proofs.YtgjncgiekniniaaGreatDoor.A
end
section
set_option linter.unusedVariables false
set_option linter.unusedSimpArgs false
set_option maxRecDepth 100000
namespace Go.Proofs.YtgjncgiekniniaaGreatDoor.A
open Go
noncomputable section
def z10.C : Ctx where
  T := tab
def z10.dec : V → Option (Int)
  | (.int .u64 x0) => some x0
  | _ => none
theorem z10.link (a0 : List Int) (a1 : Int) : z10.C.evTop 184 (ifun Tryz.f184) [(.agg [(.ints false .u64 a0)]), (.int .i64 a1)] z10.dec = z10.F a0 a1 := by kernel_rfl
def z12.l0sh : Env × Store := (.undef :: .undef :: (.ptr 0 0) :: (.ptr 1 0) :: (.ptr 2 0) :: (.sref 3 0) :: (.int .u64 (0 : Int)) :: un 11 ((.int .i64 (0 : Int)) :: (.int .i64 (0 : Int)) :: un 19 []), [(.cells 37 [(.ints false .u64 [])]), (.cells 37 [(.ints false .u64 [])]), (.cells 37 [(.ints false .u64 [])]), (.arr 0 false 79 (.ints false .u64 []))])
def z12.l0out0 (carry1001 : Int) (t1002 : Int) (t1003 : Int) (s1004 : List Int) (s1005 : List Int) (s1006 : List Int) (s1007 : List Int) (o : Int × Int × (List Int)) : X × Env × Store := ((.exit 0), fillSt z12.l0sh [.i o.1, .i t1002, .i o.2.1, .li s1004, .li s1005, .li s1006, .li o.2.2])
def z12.l0pack : List Leaf → Option LPack
  | [.i carry1001, .i t1002, .i t1003, .li s1004, .li s1005, .li s1006, .li s1007] => some (.one _ (z12.l0 t1002 s1004 s1005 (carry1001, t1003, s1007)) (z12.l0out0 carry1001 t1002 t1003 s1004 s1005 s1006 s1007))
  | _ => none
def z12.C : Ctx where
  T := tab
  draws := fun f i => match f, i with | 99, 6 => ([(24, [(5, 0)], 0), (25, [(7, 0)], 0), (26, [(2, 0)], 0), (27, [(7, 0)], 0), (28, [(25, 3), (26, 4)], 12), (29, [(3, 0)], 0), (30, [(7, 0)], 0), (31, [(28, 6), (29, 7)], 124), (32, [(6, 16)], 0), (33, [(27, 5), (30, 8), (31, 9)], 508), (23, [(32, 10)], 1020), (34, [(22, 11)], 2044), (35, [(22, 11)], 2044), (36, [(23, 1), (24, 2)], 4095), (0, [(35, 14), (33, 12)], 12287), (7, [(34, 13)], 32767)], 68715282496) | _, _ => ([], 0)
  call := fun g args => match g with | 184 => z10.pack args | 183 => z0.pack args | 185 => z11.pack args | _ => none
  keep := fun f i => match f, i with | 99, 0 => ([2, 3, 4, 5, 6, 18, 19], [0, 1, 2, 3], []) | _, _ => ([], [], [])
  keepE := fun f i => match f, i with | 99, 0 => ([2, 3, 4, 5, 6, 18, 19], [0, 1, 2, 3], []) | _, _ => ([], [], [])
  keepR := fun f i => match f, i with | 99, 0 => ([4], [0, 1, 2, 3], [4]) | _, _ => ([], [], [])
  L := fun f i b st => match f, i, b with | 99, 0, 0 => (matchSt z12.l0sh st).bind z12.l0pack | _, _, _ => none
def z12.dec : V → Option ((List Int))
  | (.agg [(.ints _ .u64 x0)]) => some x0
  | _ => none
theorem z12.l0_link (R : Type) (k : Env × Store → Option R) (d : X × Env × Store → Option R) (carry1001 : Int) (t1002 : Int) (t1003 : Int) (s1004 : List Int) (s1005 : List Int) (s1006 : List Int) (s1007 : List Int) :
    z12.C.loopP 99 0 (loopAt 0 (ifun Tryz.f99).body) 4 k d (fillSt z12.l0sh [.i carry1001, .i t1002, .i t1003, .li s1004, .li s1005, .li s1006, .li s1007]) =
    z12.l0P t1002 s1004 s1005 (fun x' => k (fillSt z12.l0sh [.i x'.1, .i t1002, .i x'.2.1, .li s1004, .li s1005, .li s1006, .li x'.2.2])) (fun o => d (z12.l0out0 carry1001 t1002 t1003 s1004 s1005 s1006 s1007 o)) (carry1001, t1003, s1007) := by kernel_rfl
theorem z12.link (a0 : List Int) (a1 : List Int) : z12.C.evTop 99 (ifun Tryz.f99) [(.agg [(.ints false .u64 a0)]), (.agg [(.ints false .u64 a1)])] z12.dec = z12.F a0 a1 := by kernel_rfl
def z13.C : Ctx where
  T := tab
def z13.dec : V → Option (Bool)
  | (.bool x0) => some x0
  | _ => none
theorem z13.link (a0 : Int) : z13.C.evTop 212 (ifun Tryz.f212) [(.int .i64 a0)] z13.dec = z13.F a0 := by kernel_rfl
def z14.C : Ctx where
  T := tab
  call := fun g args => match g with | 212 => z13.pack args | _ => none
def z14.dec : V → Option (Int)
  | (.int .i64 x0) => some x0
  | _ => none
theorem z14.link (a0 : Int) (a1 : Int) : z14.C.evTop 146 (ifun Tryz.f146) [(.int .i64 a0), (.int .i64 a1)] z14.dec = z14.F a0 a1 := by kernel_rfl
def z17.l0sh : Env × Store := (.undef :: .undef :: (.ptr 0 0) :: (.ptr 1 0) :: (.int .i64 (0 : Int)) :: .undef :: (.int .i64 (0 : Int)) :: un 33 [], [(.cells 37 [(.ints false .u64 [])]), (.cells 37 [(.ints false .u64 [])])])
def z17.l0so1 : Env × Store := (un 4 ((.int .i64 (0 : Int)) :: un 35 []), [(.cells 37 [(.ints false .u64 [])]), (.cells 37 [(.ints false .u64 [])])])
def z17.l0out0 (t1001 : Int) (i1002 : Int) (s1003 : List Int) (s1004 : List Int) (o : Int) : X × Env × Store := ((.exit 0), fillSt z17.l0sh [.i t1001, .i o, .li s1003, .li s1004])
def z17.l0out1 (t1001 : Int) (i1002 : Int) (s1003 : List Int) (s1004 : List Int) (o : Int) : X × Env × Store := (.ret, fillSt z17.l0so1 [.i o, .li s1003, .li s1004])
def z17.l0pack : List Leaf → Option LPack
  | [.i t1001, .i i1002, .li s1003, .li s1004] => some (.two _ _ (z17.l0 s1003 s1004 i1002) (z17.l0out0 t1001 i1002 s1003 s1004) (z17.l0out1 t1001 i1002 s1003 s1004))
  | _ => none
def z17.C : Ctx where
  T := tab
  draws := fun f i => match f, i with | 186, 7 => ([(27, [(2, 0)], 0), (28, [(26, 1)], 1), (29, [(6, 0)], 0), (30, [(27, 2), (28, 3)], 7), (31, [(29, 4)], 15), (32, [(3, 0)], 0), (33, [(31, 6)], 32), (34, [(6, 0)], 0), (35, [(32, 7), (33, 8)], 224), (36, [(34, 9)], 480), (37, [(30, 5), (35, 10)], 1023), (8, [(36, 11)], 2047)], 137371844736) | _, _ => ([], 0)
  call := fun g args => match g with | 146 => z14.pack args | 245 => z16.pack args | _ => none
  keep := fun f i => match f, i with | 186, 0 => ([2, 3, 4, 6], [0, 1], []) | _, _ => ([], [], [])
  keepE := fun f i => match f, i with | 186, 0 => ([2, 3, 4, 6], [0, 1], []) | _, _ => ([], [], [])
  keepR := fun f i => match f, i with | 186, 0 => ([4], [0, 1], [4]) | _, _ => ([], [], [])
  L := fun f i b st => match f, i, b with | 186, 0, 0 => (matchSt z17.l0sh st).bind z17.l0pack | _, _, _ => none
def z17.dec : V → Option (Int)
  | (.int .i64 x0) => some x0
  | _ => none
theorem z17.l0_link (R : Type) (k : Env × Store → Option R) (d : X × Env × Store → Option R) (t1001 : Int) (i1002 : Int) (s1003 : List Int) (s1004 : List Int) :
    z17.C.loopP 186 0 (loopAt 0 (ifun Tryz.f186).body) 2 k d (fillSt z17.l0sh [.i t1001, .i i1002, .li s1003, .li s1004]) =
    z17.l0P s1003 s1004 (fun x' => k (fillSt z17.l0sh [.i t1001, .i x', .li s1003, .li s1004])) (fun o => match o with | .inl o => d (z17.l0out0 t1001 i1002 s1003 s1004 o) | .inr o => d (z17.l0out1 t1001 i1002 s1003 s1004 o)) i1002 := by kernel_rfl
theorem z17.link (a0 : List Int) (a1 : List Int) : z17.C.evTop 186 (ifun Tryz.f186) [(.agg [(.ints false .u64 a0)]), (.agg [(.ints false .u64 a1)])] z17.dec = z17.F a0 a1 := by kernel_rfl
def z20.C : Ctx where
  T := tab
  call := fun g args => match g with | 91 => z9.pack args | _ => none
def z20.dec : V → Option ((List Int) × Bool)
  | (.agg [(.ints _ .u64 x0), (.bool x1)]) => some (x0, x1)
  | _ => none
theorem z20.link (a0 : List Int) (a1 : Bool) : z20.C.evTop 110 (ifun Tryz.f110) [(.agg [(.ints false .u64 a0), (.bool a1)])] z20.dec = z20.F a0 a1 := by kernel_rfl
def z23.C : Ctx where
  T := tab
def z23.dec : V → Option (Bool)
  | (.bool x0) => some x0
  | _ => none
theorem z23.link (a0 : List UInt8) (a1 : List UInt8) : z23.C.evTop 260 (ifun Tryz.f260) [(.str a0), (.str a1)] z23.dec = z23.F a0 a1 := by kernel_rfl
def z34.C : Ctx where
  T := tab
  draws := fun f i => match f, i with | 36, 4 => ([(18, [(4, 0)], 0), (19, [(17, 1)], 1), (20, [(18, 2)], 3), (21, [(19, 3)], 7), (22, [(4, 0), (20, 4)], 15), (23, [(20, 4)], 15), (24, [(21, 5), (22, 6), (20, 4)], 63), (25, [(23, 7), (20, 4)], 127), (26, [(20, 4), (24, 8)], 255), (17, [(25, 9)], 511)], 67043328) | _, _ => ([], 0)
  call := fun g args => match g with | 76 => z30.pack args | 28 => z8.pack args | 114 => z33.pack args | 74 => z22.pack args | _ => none
def z34.dec : V → Option ((List Int) × Bool × Int)
  | (.tup [(.agg [(.ints _ .u64 x0), (.bool x1)]), (.int .i64 x2)]) => some (x0, x1, x2)
  | _ => none
theorem z34.link (a0 : List UInt8) : z34.C.evTop 36 (ifun Tryz.f36) [(.str a0)] z34.dec = z34.F a0 := by kernel_rfl
def z41.C : Ctx where
  T := tab
def z41.dec : V → Option ((List Int) × Bool)
  | (.agg [(.ints _ .u64 x0), (.bool x1)]) => some (x0, x1)
  | _ => none
theorem z41.link (a0 : List Int) (a1 : Bool) (a2 : Int) : z41.C.evTop 120 (ifun Tryz.f120) [(.agg [(.ints false .u64 a0), (.bool a1), (.int .i64 a2)])] z41.dec = z41.F a0 a1 a2 := by kernel_rfl
def z42.C : Ctx where
  T := tab
  draws := fun f i => match f, i with | 156, 1 => ([(6, [(2, 0)], 0), (7, [(5, 1)], 1), (8, [(3, 0)], 0), (9, [(7, 3)], 4), (10, [(6, 2), (8, 4)], 15), (11, [(2, 0)], 0), (12, [(10, 6)], 32), (13, [(3, 0)], 0), (14, [(12, 8)], 128), (15, [(11, 7), (13, 9)], 480), (16, [(9, 5), (14, 10)], 1023), (0, [(4, 0), (15, 11)], 2047)], 65504) | _, _ => ([], 0)
  call := fun g args => match g with | 164 => z28.pack args | 91 => z9.pack args | _ => none
def z42.dec : V → Option ((List Int) × Bool)
  | (.agg [(.ints _ .u64 x0), (.bool x1)]) => some (x0, x1)
  | _ => none
theorem z42.link (a0 : List Int) (a1 : Bool) (a2 : List Int) (a3 : Bool) : z42.C.evTop 156 (ifun Tryz.f156) [(.agg [(.ints false .u64 a0), (.bool a1)]), (.agg [(.ints false .u64 a2), (.bool a3)])] z42.dec = z42.F a0 a1 a2 a3 := by kernel_rfl
def z44.C : Ctx where
  T := tab
  draws := fun f i => match f, i with | 203, 1 => ([(6, [(2, 0)], 0), (7, [(5, 1)], 1), (8, [(1, 0)], 0), (9, [(2, 0)], 0), (10, [(8, 4)], 8), (11, [(7, 3), (9, 5)], 28), (12, [(10, 6)], 60), (13, [(6, 2), (11, 7)], 127), (0, [(4, 0), (12, 8)], 255)], 8160) | _, _ => ([], 0)
  call := fun g args => match g with | 204 => z43.pack args | 156 => z42.pack args | _ => none
def z44.dec : V → Option ((List Int) × Bool)
  | (.agg [(.ints _ .u64 x0), (.bool x1)]) => some (x0, x1)
  | _ => none
theorem z44.link (a0 : List Int) (a1 : Bool) (a2 : Int) (a3 : Int) : z44.C.evTop 203 (ifun Tryz.f203) [(.agg [(.ints false .u64 a0), (.bool a1), (.int .i64 a2)]), (.int .i64 a3)] z44.dec = z44.F a0 a1 a2 a3 := by kernel_rfl
def z47.C : Ctx where
  T := tab
def z47.dec : V → Option ((List Int))
  | (.agg [(.ints _ .u64 x0)]) => some x0
  | _ => none
theorem z47.link (a0 : List Int) (a1 : Bool) : z47.C.evTop 92 (ifun Tryz.f92) [(.agg [(.ints false .u64 a0), (.bool a1)])] z47.dec = z47.F a0 a1 := by kernel_rfl
def z51.l0b8sh : Env × Store := (.undef :: .undef :: (.int .u64 (0 : Int)) :: un 3 ((.int .u64 (0 : Int)) :: (.int .u64 (0 : Int)) :: (.int .u64 (0 : Int)) :: (.int .u64 (0 : Int)) :: (.int .u64 (0 : Int)) :: (.int .u64 (0 : Int)) :: .undef :: (.int .u64 (0 : Int)) :: (.int .u64 (0 : Int)) :: (.int .u64 (0 : Int)) :: (.int .u64 (0 : Int)) :: un 118 []), [])
def z51.l0b8out0 (y9001 : Int) (quo9002 : Int) (rem9003 : Int) (s9004 : Int) (yn9005 : Int) (yn9006 : Int) (un9007 : Int) (un9008 : Int) (un9009 : Int) (q9010 : Int) (rhat9011 : Int) (o : Int × Int) : X × Env × Store := ((.exit 0), fillSt z51.l0b8sh [.i y9001, .i quo9002, .i rem9003, .i s9004, .i yn9005, .i yn9006, .i un9007, .i un9008, .i un9009, .i o.1, .i o.2])
def z51.l0b8pack : List Leaf → Option LPack
  | [.i y9001, .i quo9002, .i rem9003, .i s9004, .i yn9005, .i yn9006, .i un9007, .i un9008, .i un9009, .i q9010, .i rhat9011] => some (.one _ (z51.l0b8 yn9005 yn9006 un9008 (q9010, rhat9011)) (z51.l0b8out0 y9001 quo9002 rem9003 s9004 yn9005 yn9006 un9007 un9008 un9009 q9010 rhat9011))
  | _ => none
def z51.l2b8sh : Env × Store := (.undef :: .undef :: (.int .u64 (0 : Int)) :: un 3 ((.int .u64 (0 : Int)) :: (.int .u64 (0 : Int)) :: (.int .u64 (0 : Int)) :: (.int .u64 (0 : Int)) :: (.int .u64 (0 : Int)) :: un 3 ((.int .u64 (0 : Int)) :: (.int .u64 (0 : Int)) :: (.int .u64 (0 : Int)) :: (.int .u64 (0 : Int)) :: (.int .u64 (0 : Int)) :: un 116 [])), [])
def z51.l2b8out0 (y18001 : Int) (quo18002 : Int) (rem18003 : Int) (s18004 : Int) (yn18005 : Int) (yn18006 : Int) (un18007 : Int) (q18008 : Int) (rhat18009 : Int) (un18010 : Int) (q18011 : Int) (o : Int × Int) : X × Env × Store := ((.exit 2), fillSt z51.l2b8sh [.i y18001, .i quo18002, .i rem18003, .i s18004, .i yn18005, .i yn18006, .i un18007, .i q18008, .i o.1, .i un18010, .i o.2])
def z51.l2b8pack : List Leaf → Option LPack
  | [.i y18001, .i quo18002, .i rem18003, .i s18004, .i yn18005, .i yn18006, .i un18007, .i q18008, .i rhat18009, .i un18010, .i q18011] => some (.one _ (z51.l2b8 yn18005 yn18006 un18007 (rhat18009, q18011)) (z51.l2b8out0 y18001 quo18002 rem18003 s18004 yn18005 yn18006 un18007 q18008 rhat18009 un18010 q18011))
  | _ => none
def z51.C : Ctx where
  T := tab
  draws := fun f i => match f, i with | 261, 6 => ([(29, [(1, 0)], 0), (30, [(2, 0)], 0), (31, [(28, 1), (29, 2)], 3), (32, [(1, 0)], 0), (33, [(2, 0)], 0), (34, [(31, 4), (32, 5)], 24), (7, [(30, 3)], 7), (8, [(33, 6)], 127)], 16911433920) | _, _ => ([], 0)
  call := fun g args => match g with | 262 => z50.pack args | _ => none
  keep := fun f i => match f, i with | 261, 0 => ([2, 6, 7, 8, 9, 10, 11, 13, 14, 15, 16, 105, 106, 107, 108, 109, 110, 111, 112], [], []) | 261, 2 => ([2, 6, 7, 8, 9, 10, 14, 15, 16, 17, 18], [], []) | _, _ => ([], [], [])
  keepE := fun f i => match f, i with | 261, 0 => ([2, 6, 7, 8, 9, 10, 11, 13, 14, 15, 16, 105, 106, 107, 108, 109, 110, 111, 112], [], []) | 261, 2 => ([2, 6, 7, 8, 9, 10, 14, 15, 16, 17, 18], [], []) | _, _ => ([], [], [])
  keepR := fun f i => match f, i with | 261, 0 => ([6, 7], [], [6, 7]) | 261, 2 => ([6, 7], [], [6, 7]) | _, _ => ([], [], [])
  L := fun f i b st => match f, i, b with | 261, 0, 0 => (matchSt z51.l0b8sh st).bind z51.l0b8pack | 261, 2, 0 => (matchSt z51.l2b8sh st).bind z51.l2b8pack | _, _, _ => none
def z51.dec : V → Option (Int × Int)
  | (.tup [(.int .u64 x0), (.int .u64 x1)]) => some (x0, x1)
  | _ => none
theorem z51.l0b8_link (R : Type) (k : Env × Store → Option R) (d : X × Env × Store → Option R) (y9001 : Int) (quo9002 : Int) (rem9003 : Int) (s9004 : Int) (yn9005 : Int) (yn9006 : Int) (un9007 : Int) (un9008 : Int) (un9009 : Int) (q9010 : Int) (rhat9011 : Int) :
    z51.C.loopP 261 0 (loopAt 0 (ifun Tryz.f261).body) 0 k d (fillSt z51.l0b8sh [.i y9001, .i quo9002, .i rem9003, .i s9004, .i yn9005, .i yn9006, .i un9007, .i un9008, .i un9009, .i q9010, .i rhat9011]) =
    z51.l0b8P yn9005 yn9006 un9008 (fun x' => k (fillSt z51.l0b8sh [.i y9001, .i quo9002, .i rem9003, .i s9004, .i yn9005, .i yn9006, .i un9007, .i un9008, .i un9009, .i x'.1, .i x'.2])) (fun o => d (z51.l0b8out0 y9001 quo9002 rem9003 s9004 yn9005 yn9006 un9007 un9008 un9009 q9010 rhat9011 o)) (q9010, rhat9011) := by kernel_rfl
theorem z51.l2b8_link (R : Type) (k : Env × Store → Option R) (d : X × Env × Store → Option R) (y18001 : Int) (quo18002 : Int) (rem18003 : Int) (s18004 : Int) (yn18005 : Int) (yn18006 : Int) (un18007 : Int) (q18008 : Int) (rhat18009 : Int) (un18010 : Int) (q18011 : Int) :
    z51.C.loopP 261 2 (loopAt 2 (ifun Tryz.f261).body) 0 k d (fillSt z51.l2b8sh [.i y18001, .i quo18002, .i rem18003, .i s18004, .i yn18005, .i yn18006, .i un18007, .i q18008, .i rhat18009, .i un18010, .i q18011]) =
    z51.l2b8P yn18005 yn18006 un18007 (fun x' => k (fillSt z51.l2b8sh [.i y18001, .i quo18002, .i rem18003, .i s18004, .i yn18005, .i yn18006, .i un18007, .i q18008, .i x'.1, .i un18010, .i x'.2])) (fun o => d (z51.l2b8out0 y18001 quo18002 rem18003 s18004 yn18005 yn18006 un18007 q18008 rhat18009 un18010 q18011 o)) (rhat18009, q18011) := by kernel_rfl
theorem z51.link (a0 : Int) (a1 : Int) (a2 : Int) : z51.C.evTop 261 (ifun Tryz.f261) [(.int .u64 a0), (.int .u64 a1), (.int .u64 a2)] z51.dec = z51.F a0 a1 a2 := by kernel_rfl
def z52.l0sh : Env × Store := ((.ints false .u64 []) :: (.int .u64 (0 : Int)) :: .undef :: .undef :: (.sref 0 0) :: (.int .u64 (0 : Int)) :: (.sref 1 0) :: (.int .u64 (0 : Int)) :: (.int .i64 (0 : Int)) :: un 25 [], [(.arr 0 true 79 (.ints false .u64 [])), (.arr 0 false 79 (.ints false .u64 []))])
def z52.l0out0 (l1001 : List Int) (d1002 : Int) (t1003 : Int) (rest1004 : Int) (i1005 : Int) (s1006 : List Int) (s1007 : List Int) (o : Int × Int × (List Int)) : X × Env × Store := ((.exit 0), fillSt z52.l0sh [.li l1001, .i d1002, .i t1003, .i o.1, .i o.2.1, .li s1006, .li o.2.2])
def z52.l0pack : List Leaf → Option LPack
  | [.li l1001, .i d1002, .i t1003, .i rest1004, .i i1005, .li s1006, .li s1007] => some (.one _ (z52.l0 l1001 d1002 (rest1004, i1005, s1007)) (z52.l0out0 l1001 d1002 t1003 rest1004 i1005 s1006 s1007))
  | _ => none
def z52.C : Ctx where
  T := tab
  call := fun g args => match g with | 261 => z51.pack args | _ => none
  keep := fun f i => match f, i with | 224, 0 => ([0, 1, 4, 5, 6, 7, 8], [0, 1], []) | _, _ => ([], [], [])
  keepE := fun f i => match f, i with | 224, 0 => ([0, 1, 4, 5, 6, 7, 8], [0, 1], []) | _, _ => ([], [], [])
  keepR := fun f i => match f, i with | 224, 0 => ([4, 5], [0, 1], [4, 5]) | _, _ => ([], [], [])
  L := fun f i b st => match f, i, b with | 224, 0, 0 => (matchSt z52.l0sh st).bind z52.l0pack | _, _, _ => none
def z52.dec : V → Option ((List Int) × Int)
  | (.tup [(.ints _ .u64 x0), (.int .u64 x1)]) => some (x0, x1)
  | _ => none
theorem z52.l0_link (R : Type) (k : Env × Store → Option R) (d : X × Env × Store → Option R) (l1001 : List Int) (d1002 : Int) (t1003 : Int) (rest1004 : Int) (i1005 : Int) (s1006 : List Int) (s1007 : List Int) :
    z52.C.loopP 224 0 (loopAt 0 (ifun Tryz.f224).body) 2 k d (fillSt z52.l0sh [.li l1001, .i d1002, .i t1003, .i rest1004, .i i1005, .li s1006, .li s1007]) =
    z52.l0P l1001 d1002 (fun x' => k (fillSt z52.l0sh [.li l1001, .i d1002, .i t1003, .i x'.1, .i x'.2.1, .li s1006, .li x'.2.2])) (fun o => d (z52.l0out0 l1001 d1002 t1003 rest1004 i1005 s1006 s1007 o)) (rest1004, i1005, s1007) := by kernel_rfl
theorem z52.link (a0 : List Int) (a1 : Int) : z52.C.evTop 224 (ifun Tryz.f224) [(.ints false .u64 a0), (.int .u64 a1)] z52.dec = z52.F a0 a1 := by kernel_rfl
def z55.C : Ctx where
  T := tab
  draws := fun f i => match f, i with | 163, 1 => ([(15, [(2, 0)], 0), (16, [(14, 1)], 1), (17, [(3, 0)], 0), (18, [(15, 2), (16, 3)], 7), (6, [], 0), (0, [(5, 5), (17, 4)], 31)], 245792) | 163, 2 => ([(20, [(2, 0)], 0), (21, [(19, 1)], 1), (22, [(5, 0)], 0), (23, [(20, 2), (21, 3)], 7), (19, [(22, 4)], 15), (24, [(18, 5)], 31), (25, [(18, 5)], 31), (26, [(18, 5)], 31), (7, [], 0), (8, [], 0), (0, [(6, 9), (23, 6)], 831), (0, [(7, 10), (24, 7)], 1919), (9, [(25, 8)], 4095)], 66847168) | 163, 4 => ([(35, [(9, 0)], 0), (36, [], 0), (37, [(35, 2)], 2), (38, [(34, 1), (36, 3)], 7), (34, [(37, 4)], 15), (39, [(33, 5)], 31), (40, [(33, 5)], 31), (13, [], 0), (0, [(12, 8), (38, 6)], 191), (14, [(39, 7)], 511)], 1090921705472) | 163, 5 => ([(41, [(6, 0)], 0), (42, [(2, 0)], 0), (43, [(41, 2)], 2), (44, [(42, 3)], 6), (45, [(40, 1), (43, 4)], 15), (46, [(12, 0)], 0), (47, [(44, 5), (45, 6)], 63), (0, [(4, 0), (46, 7)], 127)], 139637976727552) | _, _ => ([], 0)
  call := fun g args => match g with | 92 => z47.pack args | 226 => z54.pack args | 162 => z53.pack args | 158 => z26.pack args | 100 => z18.pack args | 28 => z8.pack args | 91 => z9.pack args | _ => none
def z55.dec : V → Option ((List Int) × Bool × (List Int))
  | (.agg [(.ints _ .u64 x0), (.bool x1), (.ints _ .u64 x2)]) => some (x0, x1, x2)
  | _ => none
theorem z55.link (a0 : List Int) (a1 : Bool) (a2 : List Int) : z55.C.evTop 163 (ifun Tryz.f163) [(.agg [(.ints false .u64 a0), (.bool a1)]), (.agg [(.ints false .u64 a2)])] z55.dec = z55.F a0 a1 a2 := by kernel_rfl
def z59.C : Ctx where
  T := tab
  call := fun g args => match g with | 130 => z58.pack args | 91 => z9.pack args | _ => none
def z59.dec : V → Option ((List Int) × Bool)
  | (.agg [(.ints _ .u64 x0), (.bool x1)]) => some (x0, x1)
  | _ => none
theorem z59.link (a0 : List Int) (a1 : Bool) (a2 : List Int) : z59.C.evTop 157 (ifun Tryz.f157) [(.agg [(.ints false .u64 a0), (.bool a1), (.ints false .u64 a2)])] z59.dec = z59.F a0 a1 a2 := by kernel_rfl
def z64.C : Ctx where
  T := tab
def z64.dec : V → Option (Bool)
  | (.bool x0) => some x0
  | _ => none
theorem z64.link (a0 : Int) : z64.C.evTop 214 (ifun Tryz.f214) [(.int .i64 a0)] z64.dec = z64.F a0 := by kernel_rfl
def z66.C : Ctx where
  T := tab
  call := fun g args => match g with | 214 => z64.pack args | 215 => z65.pack args | _ => none
def z66.dec : V → Option ((List UInt8))
  | (.str x0) => some x0
  | _ => none
theorem z66.link (a0 : Int) : z66.C.evTop 149 (ifun Tryz.f149) [(.int .i64 a0)] z66.dec = z66.F a0 := by kernel_rfl
def z68.C : Ctx where
  T := tab
def z68.dec : V → Option ((List (List UInt8)))
  | (.strs _ x0) => some x0
  | _ => none
theorem z68.link  : z68.C.evTop 257 (ifun Tryz.f257) [] z68.dec = z68.F  := by kernel_rfl
def z77.l0b4sh : Env × Store := ((.int .u64 (0 : Int)) :: (.int .i64 (0 : Int)) :: .undef :: .undef :: (.str ([] : List UInt8)) :: (.ptr 0 0) :: (.int .i64 (0 : Int)) :: un 21 [], [(.arr 0 false 321 (.ints false .u8 []))])
def z77.l0b4out0 (n5001 : Int) (length5002 : Int) (t5003 : List UInt8) (i5004 : Int) (s5005 : List Int) (o : Int × Int × (List Int)) : X × Env × Store := ((.exit 0), fillSt z77.l0b4sh [.i o.1, .i length5002, .s t5003, .i o.2.1, .li o.2.2])
def z77.l0b4pack : List Leaf → Option LPack
  | [.i n5001, .i length5002, .s t5003, .i i5004, .li s5005] => some (.one _ (z77.l0b4 length5002 (n5001, i5004, s5005)) (z77.l0b4out0 n5001 length5002 t5003 i5004 s5005))
  | _ => none
def z77.C : Ctx where
  T := tab
  keep := fun f i => match f, i with | 189, 0 => ([0, 1, 4, 5, 6], [0], []) | _, _ => ([], [], [])
  keepE := fun f i => match f, i with | 189, 0 => ([0, 1, 4, 5, 6], [0], []) | _, _ => ([], [], [])
  keepR := fun f i => match f, i with | 189, 0 => ([4], [0], [4]) | _, _ => ([], [], [])
  L := fun f i b st => match f, i, b with | 189, 0, 0 => (matchSt z77.l0b4sh st).bind z77.l0b4pack | _, _, _ => none
def z77.dec : V → Option ((List UInt8))
  | (.str x0) => some x0
  | _ => none
theorem z77.l0b4_link (R : Type) (k : Env × Store → Option R) (d : X × Env × Store → Option R) (n5001 : Int) (length5002 : Int) (t5003 : List UInt8) (i5004 : Int) (s5005 : List Int) :
    z77.C.loopP 189 0 (loopAt 0 (ifun Tryz.f189).body) 1 k d (fillSt z77.l0b4sh [.i n5001, .i length5002, .s t5003, .i i5004, .li s5005]) =
    z77.l0b4P length5002 (fun x' => k (fillSt z77.l0b4sh [.i x'.1, .i length5002, .s t5003, .i x'.2.1, .li x'.2.2])) (fun o => d (z77.l0b4out0 n5001 length5002 t5003 i5004 s5005 o)) (n5001, i5004, s5005) := by kernel_rfl
theorem z77.link (a0 : Int) (a1 : Int) : z77.C.evTop 189 (ifun Tryz.f189) [(.int .u64 a0), (.int .i64 a1)] z77.dec = z77.F a0 a1 := by kernel_rfl
def z81.l0sh : Env × Store := ((.strs false []) :: (.str ([] : List UInt8)) :: .undef :: .undef :: (.int .i64 (0 : Int)) :: .undef :: .undef :: (.int .i64 (0 : Int)) :: (.int .i64 (0 : Int)) :: un 10 [], [])
def z81.l0so1 : Env × Store := (un 4 ((.int .i64 (0 : Int)) :: un 14 []), [])
def z81.l0out0 (s1001 : List (List UInt8)) (v1002 : List UInt8) (t1003 : Int) (t1004 : Int) (t1005 : Int) (o : Int) : X × Env × Store := ((.exit 0), fillSt z81.l0sh [.ls s1001, .s v1002, .i t1003, .i t1004, .i o])
def z81.l0out1 (s1001 : List (List UInt8)) (v1002 : List UInt8) (t1003 : Int) (t1004 : Int) (t1005 : Int) (o : Int) : X × Env × Store := (.ret, fillSt z81.l0so1 [.i o])
def z81.l0pack : List Leaf → Option LPack
  | [.ls s1001, .s v1002, .i t1003, .i t1004, .i t1005] => some (.two _ _ (z81.l0 s1001 v1002 t1004 t1005) (z81.l0out0 s1001 v1002 t1003 t1004 t1005) (z81.l0out1 s1001 v1002 t1003 t1004 t1005))
  | _ => none
def z81.C : Ctx where
  T := tab
  keep := fun f i => match f, i with | 136, 0 => ([0, 1, 4, 7, 8], [], []) | _, _ => ([], [], [])
  keepE := fun f i => match f, i with | 136, 0 => ([0, 1, 4, 7, 8], [], []) | _, _ => ([], [], [])
  keepR := fun f i => match f, i with | 136, 0 => ([4], [], [4]) | _, _ => ([], [], [])
  L := fun f i b st => match f, i, b with | 136, 0, 0 => (matchSt z81.l0sh st).bind z81.l0pack | _, _, _ => none
def z81.dec : V → Option (Int)
  | (.int .i64 x0) => some x0
  | _ => none
theorem z81.l0_link (R : Type) (k : Env × Store → Option R) (d : X × Env × Store → Option R) (s1001 : List (List UInt8)) (v1002 : List UInt8) (t1003 : Int) (t1004 : Int) (t1005 : Int) :
    z81.C.loopP 136 0 (loopAt 0 (ifun Tryz.f136).body) 0 k d (fillSt z81.l0sh [.ls s1001, .s v1002, .i t1003, .i t1004, .i t1005]) =
    z81.l0P s1001 v1002 t1004 (fun x' => k (fillSt z81.l0sh [.ls s1001, .s v1002, .i t1003, .i t1004, .i x'])) (fun o => match o with | .inl o => d (z81.l0out0 s1001 v1002 t1003 t1004 t1005 o) | .inr o => d (z81.l0out1 s1001 v1002 t1003 t1004 t1005 o)) t1005 := by kernel_rfl
theorem z81.link (a0 : List (List UInt8)) (a1 : List UInt8) : z81.C.evTop 136 (ifun Tryz.f136) [(.strs false a0), (.str a1)] z81.dec = z81.F a0 a1 := by kernel_rfl
def z83.C : Ctx where
  T := tab
  call := fun g args => match g with | 38 => z61.pack args | 36 => z34.pack args | 46 => z82.pack args | 41 => z80.pack args | 44 => z76.pack args | _ => none
def z83.dec : V → Option (Bool)
  | (.bool x0) => some x0
  | _ => none
theorem z83.link  : z83.C.evTop 40 (ifun Tryz.f40) [] z83.dec = z83.F  := by kernel_rfl
def z84.l0b6sh : Env × Store := ((.str ([] : List UInt8)) :: (.int .i64 (0 : Int)) :: .undef :: .undef :: (.bool false) :: (.int .i64 (0 : Int)) :: un 6 ((.strs false []) :: (.int .i64 (0 : Int)) :: (.int .i64 (0 : Int)) :: un 58 []), [])
def z84.l0b6so1 : Env × Store := (un 4 ((.bool false) :: un 68 []), [])
def z84.l0b6out0 (s7001 : List UInt8) (n7002 : Int) (t7003 : Bool) (at7004 : Int) (t7005 : List (List UInt8)) (t7006 : Int) (t7007 : Int) (o : Int × Int) : X × Env × Store := ((.exit 0), fillSt z84.l0b6sh [.s s7001, .i n7002, .b t7003, .i o.1, .ls t7005, .i t7006, .i o.2])
def z84.l0b6out1 (s7001 : List UInt8) (n7002 : Int) (t7003 : Bool) (at7004 : Int) (t7005 : List (List UInt8)) (t7006 : Int) (t7007 : Int) (o : Bool) : X × Env × Store := (.ret, fillSt z84.l0b6so1 [.b o])
def z84.l0b6pack : List Leaf → Option LPack
  | [.s s7001, .i n7002, .b t7003, .i at7004, .ls t7005, .i t7006, .i t7007] => some (.two _ _ (z84.l0b6 s7001 t7005 t7006 (at7004, t7007)) (z84.l0b6out0 s7001 n7002 t7003 at7004 t7005 t7006 t7007) (z84.l0b6out1 s7001 n7002 t7003 at7004 t7005 t7006 t7007))
  | _ => none
def z84.C : Ctx where
  T := tab
  call := fun g args => match g with | 46 => z82.pack args | 47 => z63.pack args | 40 => z83.pack args | _ => none
  keep := fun f i => match f, i with | 7, 0 => ([0, 1, 4, 5, 12, 13, 14, 49, 50, 51, 52, 55, 56, 57, 58, 61, 62, 63, 64, 65, 66, 67, 68, 69, 70, 71], [], []) | _, _ => ([], [], [])
  keepE := fun f i => match f, i with | 7, 0 => ([0, 1, 4, 5, 12, 13, 14, 49, 50, 51, 52, 55, 56, 57, 58, 61, 62, 63, 64, 65, 66, 67, 68, 69, 70, 71], [], []) | _, _ => ([], [], [])
  keepR := fun f i => match f, i with | 7, 0 => ([4], [], [4]) | _, _ => ([], [], [])
  L := fun f i b st => match f, i, b with | 7, 0, 0 => (matchSt z84.l0b6sh st).bind z84.l0b6pack | _, _, _ => none
def z84.dec : V → Option (Bool)
  | (.bool x0) => some x0
  | _ => none
theorem z84.l0b6_link (R : Type) (k : Env × Store → Option R) (d : X × Env × Store → Option R) (s7001 : List UInt8) (n7002 : Int) (t7003 : Bool) (at7004 : Int) (t7005 : List (List UInt8)) (t7006 : Int) (t7007 : Int) :
    z84.C.loopP 7 0 (loopAt 0 (ifun Tryz.f7).body) 0 k d (fillSt z84.l0b6sh [.s s7001, .i n7002, .b t7003, .i at7004, .ls t7005, .i t7006, .i t7007]) =
    z84.l0b6P s7001 t7005 t7006 (fun x' => k (fillSt z84.l0b6sh [.s s7001, .i n7002, .b t7003, .i x'.1, .ls t7005, .i t7006, .i x'.2])) (fun o => match o with | .inl o => d (z84.l0b6out0 s7001 n7002 t7003 at7004 t7005 t7006 t7007 o) | .inr o => d (z84.l0b6out1 s7001 n7002 t7003 at7004 t7005 t7006 t7007 o)) (at7004, t7007) := by kernel_rfl
theorem z84.link (a0 : List UInt8) (a1 : Int) : z84.C.evTop 7 (ifun Tryz.f7) [(.str a0), (.int .i64 a1)] z84.dec = z84.F a0 a1 := by kernel_rfl
end
end Go.Proofs.YtgjncgiekniniaaGreatDoor.A
end
section
set_option linter.unusedVariables false
set_option linter.unusedSimpArgs false
set_option maxRecDepth 100000
namespace Go.Proofs.YtgjncgiekniniaaGreatDoor.A
open Go
noncomputable section
def z8.C : Ctx where
  T := tab
  call := fun g args => match g with | 104 => z7.pack args | _ => none
def z8.dec : V → Option (Int)
  | (.int .i64 x0) => some x0
  | _ => none
theorem z8.link (a0 : List Int) (a1 : Bool) : z8.C.evTop 28 (ifun Tryz.f28) [(.agg [(.ints false .u64 a0), (.bool a1)])] z8.dec = z8.F a0 a1 := by kernel_rfl
def z9.C : Ctx where
  T := tab
  draws := fun f i => match f, i with | 91, 1 => ([(6, [(2, 0)], 0), (7, [(1, 0)], 0), (8, [(6, 2)], 2), (9, [(2, 0), (7, 3)], 6), (10, [(8, 4), (7, 3)], 14), (11, [(9, 5), (7, 3)], 30), (12, [(7, 3), (10, 6)], 62), (13, [(5, 1), (11, 7)], 127), (0, [(4, 0), (12, 8)], 255)], 8160) | _, _ => ([], 0)
  call := fun g args => match g with | 104 => z7.pack args | _ => none
def z9.dec : V → Option ((List Int) × Bool)
  | (.agg [(.ints _ .u64 x0), (.bool x1)]) => some (x0, x1)
  | _ => none
theorem z9.link (a0 : List Int) (a1 : Bool) : z9.C.evTop 91 (ifun Tryz.f91) [(.agg [(.ints false .u64 a0)]), (.bool a1)] z9.dec = z9.F a0 a1 := by kernel_rfl
def z11.l0b6sh : Env × Store := ((.ints false .u64 []) :: .undef :: (.ptr 0 0) :: (.int .i64 (0 : Int)) :: un 19 [], [(.cells 37 [(.ints false .u64 [])])])
def z11.l0b6out0 (l7001 : List Int) (n7002 : Int) (s7003 : List Int) (o : Int) : X × Env × Store := ((.exit 0), fillSt z11.l0b6sh [.li l7001, .i o, .li s7003])
def z11.l0b6pack : List Leaf → Option LPack
  | [.li l7001, .i n7002, .li s7003] => some (.one _ (z11.l0b6 l7001 n7002) (z11.l0b6out0 l7001 n7002 s7003))
  | _ => none
def z11.C : Ctx where
  T := tab
  keep := fun f i => match f, i with | 185, 0 => ([0, 2, 3], [0], []) | _, _ => ([], [], [])
  keepE := fun f i => match f, i with | 185, 0 => ([0, 2, 3], [0], []) | _, _ => ([], [], [])
  keepR := fun f i => match f, i with | 185, 0 => ([2], [0], [2]) | _, _ => ([], [], [])
  L := fun f i b st => match f, i, b with | 185, 0, 0 => (matchSt z11.l0b6sh st).bind z11.l0b6pack | _, _, _ => none
def z11.dec : V → Option ((List Int))
  | (.agg [(.ints _ .u64 x0)]) => some x0
  | _ => none
theorem z11.l0b6_link (R : Type) (k : Env × Store → Option R) (d : X × Env × Store → Option R) (l7001 : List Int) (n7002 : Int) (s7003 : List Int) :
    z11.C.loopP 185 0 (loopAt 0 (ifun Tryz.f185).body) 1 k d (fillSt z11.l0b6sh [.li l7001, .i n7002, .li s7003]) =
    z11.l0b6P l7001 (fun x' => k (fillSt z11.l0b6sh [.li l7001, .i x', .li s7003])) (fun o => d (z11.l0b6out0 l7001 n7002 s7003 o)) n7002 := by kernel_rfl
theorem z11.link (a0 : List Int) : z11.C.evTop 185 (ifun Tryz.f185) [(.ints false .u64 a0)] z11.dec = z11.F a0 := by kernel_rfl
def z16.C : Ctx where
  T := tab
  call := fun g args => match g with | 273 => z15.pack args | _ => none
def z16.dec : V → Option (Int)
  | (.int .i64 x0) => some x0
  | _ => none
theorem z16.link (a0 : Int) (a1 : Int) : z16.C.evTop 245 (ifun Tryz.f245) [(.int .u64 a0), (.int .u64 a1)] z16.dec = z16.F a0 a1 := by kernel_rfl
def z21.C : Ctx where
  T := tab
  draws := fun f i => match f, i with | 90, 1 => ([(6, [(2, 0)], 0), (7, [(3, 0)], 0), (8, [(6, 2)], 2), (9, [(5, 1), (7, 3)], 7), (0, [(4, 0), (8, 4)], 15)], 480) | _, _ => ([], 0)
  call := fun g args => match g with | 110 => z20.pack args | 24 => z19.pack args | _ => none
def z21.dec : V → Option ((List Int) × Bool)
  | (.agg [(.ints _ .u64 x0), (.bool x1)]) => some (x0, x1)
  | _ => none
theorem z21.link (a0 : List Int) (a1 : Bool) (a2 : List Int) (a3 : Bool) : z21.C.evTop 90 (ifun Tryz.f90) [(.agg [(.ints false .u64 a0), (.bool a1)]), (.agg [(.ints false .u64 a2), (.bool a3)])] z21.dec = z21.F a0 a1 a2 a3 := by kernel_rfl
def z27.C : Ctx where
  T := tab
def z27.dec : V → Option (Int × Int)
  | (.tup [(.int .u64 x0), (.int .u64 x1)]) => some (x0, x1)
  | _ => none
theorem z27.link (a0 : Int) (a1 : Int) : z27.C.evTop 268 (ifun Tryz.f268) [(.int .u64 a0), (.int .u64 a1)] z27.dec = z27.F a0 a1 := by kernel_rfl
def z28.l0ash : Env × Store := (.undef :: (.int .u64 (0 : Int)) :: (.sview 3 0 0 0) :: (.ptr 4 0) :: .undef :: .undef :: (.int .u64 (0 : Int)) :: un 6 ((.ints false .u64 []) :: (.int .i64 (0 : Int)) :: (.int .i64 (0 : Int)) :: un 44 []), [(.cells 37 [(.ints false .u64 [])]), .dead, (.cells 37 [(.ints false .u64 [])]), (.arr 0 false 79 (.ints false .u64 [])), (.cells 37 [(.ints false .u64 [])])])
def z28.l0aout0 (x2001 : Int) (l2002 : Nat) (l2003 : Nat) (carry2004 : Int) (t2005 : List Int) (t2006 : Int) (t2007 : Int) (s2008 : List Int) (s2009 : List Int) (s2010 : List Int) (s2011 : List Int) (o : Int × Int × (List Int)) : X × Env × Store := ((.exit 0), fillSt z28.l0ash [.i x2001, .n l2002, .n l2003, .i o.1, .li t2005, .i t2006, .i o.2.1, .li s2008, .li s2009, .li o.2.2, .li s2011])
def z28.l0apack : List Leaf → Option LPack
  | [.i x2001, .n l2002, .n l2003, .i carry2004, .li t2005, .i t2006, .i t2007, .li s2008, .li s2009, .li s2010, .li s2011] => some (.one _ (z28.l0a x2001 l2002 l2003 t2005 t2006 (carry2004, t2007, s2010)) (z28.l0aout0 x2001 l2002 l2003 carry2004 t2005 t2006 t2007 s2008 s2009 s2010 s2011))
  | _ => none
def z28.l0sh : Env × Store := (.undef :: .undef :: (.ptr 0 0) :: .undef :: (.ptr 2 0) :: (.sref 3 0) :: un 12 ((.ints false .u64 []) :: (.int .i64 (0 : Int)) :: (.int .i64 (0 : Int)) :: un 13 []), [(.cells 37 [(.ints false .u64 [])]), .dead, (.cells 37 [(.ints false .u64 [])]), (.arr 0 false 79 (.ints false .u64 []))])
def z28.l0out0 (t1001 : List Int) (t1002 : Int) (t1003 : Int) (s1004 : List Int) (s1005 : List Int) (s1006 : List Int) (o : Int × (List Int)) : X × Env × Store := ((.exit 0), fillSt z28.l0sh [.li t1001, .i t1002, .i o.1, .li s1004, .li s1005, .li o.2])
def z28.l0pack : List Leaf → Option LPack
  | [.li t1001, .i t1002, .i t1003, .li s1004, .li s1005, .li s1006] => some (.one _ (z28.l0 t1001 t1002 s1004 (t1003, s1006)) (z28.l0out0 t1001 t1002 t1003 s1004 s1005 s1006))
  | _ => none
def z28.C : Ctx where
  T := tab
  draws := fun f i => match f, i with | 164, 5 => ([(26, [(2, 0)], 0), (27, [(7, 0)], 0), (28, [(5, 0)], 0), (29, [(6, 0)], 0), (30, [(27, 3), (28, 4)], 12), (31, [(25, 1), (26, 2), (29, 5)], 31)], 2113929216) | _, _ => ([], 0)
  call := fun g args => match g with | 268 => z27.pack args | 183 => z0.pack args | 185 => z11.pack args | _ => none
  inl := fun g => match g with | 227 => some (ifun Tryz.f227) | _ => none
  keep := fun f i => match f, i with | 227, 0 => ([1, 2, 3, 6, 13, 14, 15], List.range 64, []) | 164, 0 => ([2, 4, 5, 18, 19, 20], [0, 2, 3], []) | _, _ => ([], [], [])
  keepE := fun f i => match f, i with | 227, 0 => ([1, 2, 3, 6, 13, 14, 15], List.range 64, []) | 164, 0 => ([2, 4, 5, 18, 19, 20], [0, 2, 3], []) | _, _ => ([], [], [])
  keepR := fun f i => match f, i with | 227, 0 => ([], List.range 64, []) | 164, 0 => ([4], [0, 2, 3], [4]) | _, _ => ([], [], [])
  L := fun f i b st => match f, i, b with | 227, 0, 4 => (matchSt z28.l0ash st).bind z28.l0apack | 164, 0, 0 => (matchSt z28.l0sh st).bind z28.l0pack | _, _, _ => none
def z28.dec : V → Option ((List Int))
  | (.agg [(.ints _ .u64 x0)]) => some x0
  | _ => none
theorem z28.l0a_link (R : Type) (k : Env × Store → Option R) (d : X × Env × Store → Option R) (x2001 : Int) (l2002 : Nat) (l2003 : Nat) (carry2004 : Int) (t2005 : List Int) (t2006 : Int) (t2007 : Int) (s2008 : List Int) (s2009 : List Int) (s2010 : List Int) (s2011 : List Int) :
    z28.C.loopPI (z28.C.inlK 0) 227 0 4 (loopAt 0 (ifun Tryz.f227).body) 5 k d (fillSt z28.l0ash [.i x2001, .n l2002, .n l2003, .i carry2004, .li t2005, .i t2006, .i t2007, .li s2008, .li s2009, .li s2010, .li s2011]) =
    z28.l0aP x2001 l2002 l2003 t2005 t2006 (fun x' => k (fillSt z28.l0ash [.i x2001, .n l2002, .n l2003, .i x'.1, .li t2005, .i t2006, .i x'.2.1, .li s2008, .li s2009, .li x'.2.2, .li s2011])) (fun o => d (z28.l0aout0 x2001 l2002 l2003 carry2004 t2005 t2006 t2007 s2008 s2009 s2010 s2011 o)) (carry2004, t2007, s2010) := by kernel_rfl
theorem z28.l0_link (R : Type) (k : Env × Store → Option R) (d : X × Env × Store → Option R) (t1001 : List Int) (t1002 : Int) (t1003 : Int) (s1004 : List Int) (s1005 : List Int) (s1006 : List Int) :
    z28.C.loopP 164 0 (loopAt 0 (ifun Tryz.f164).body) 4 k d (fillSt z28.l0sh [.li t1001, .i t1002, .i t1003, .li s1004, .li s1005, .li s1006]) =
    z28.l0P t1001 t1002 s1004 (fun x' => k (fillSt z28.l0sh [.li t1001, .i t1002, .i x'.1, .li s1004, .li s1005, .li x'.2])) (fun o => d (z28.l0out0 t1001 t1002 t1003 s1004 s1005 s1006 o)) (t1003, s1006) := by kernel_rfl
theorem z28.link (a0 : List Int) (a1 : List Int) : z28.C.evTop 164 (ifun Tryz.f164) [(.agg [(.ints false .u64 a0)]), (.agg [(.ints false .u64 a1)])] z28.dec = z28.F a0 a1 := by kernel_rfl
def z30.C : Ctx where
  T := tab
  call := fun g args => match g with | 160 => z25.pack args | 161 => z29.pack args | 104 => z7.pack args | 91 => z9.pack args | _ => none
def z30.dec : V → Option ((List Int) × Bool × Int)
  | (.tup [(.agg [(.ints _ .u64 x0), (.bool x1)]), (.int .i64 x2)]) => some (x0, x1, x2)
  | _ => none
theorem z30.link (a0 : List UInt8) : z30.C.evTop 76 (ifun Tryz.f76) [(.str a0)] z30.dec = z30.F a0 := by kernel_rfl
def z40.C : Ctx where
  T := tab
  call := fun g args => match g with | 202 => z39.pack args | _ => none
def z40.dec : V → Option ((List Int) × Bool × Int × Int)
  | (.tup [(.agg [(.ints _ .u64 x0), (.bool x1), (.int .i64 x2)]), (.int .i64 x3)]) => some (x0, x1, x2, x3)
  | _ => none
theorem z40.link (a0 : List Int) (a1 : Bool) (a2 : Int) : z40.C.evTop 119 (ifun Tryz.f119) [(.agg [(.ints false .u64 a0), (.bool a1)]), (.int .i64 a2)] z40.dec = z40.F a0 a1 a2 := by kernel_rfl
def z45.C : Ctx where
  T := tab
  draws := fun f i => match f, i with | 121, 2 => ([(12, [(2, 0)], 0), (13, [(5, 0)], 0), (14, [(11, 1), (12, 2)], 3), (15, [(3, 0)], 0), (16, [(5, 0)], 0), (17, [(14, 4), (15, 5)], 31), (18, [(13, 3), (16, 6)], 63), (5, [(17, 7)], 127)], 260112) | _, _ => ([], 0)
  call := fun g args => match g with | 203 => z44.pack args | 74 => z22.pack args | _ => none
def z45.dec : V → Option (Int)
  | (.int .i64 x0) => some x0
  | _ => none
theorem z45.link (a0 : List Int) (a1 : Bool) (a2 : Int) (a3 : List Int) (a4 : Bool) (a5 : Int) : z45.C.evTop 121 (ifun Tryz.f121) [(.agg [(.ints false .u64 a0), (.bool a1), (.int .i64 a2)]), (.agg [(.ints false .u64 a3), (.bool a4), (.int .i64 a5)])] z45.dec = z45.F a0 a1 a2 a3 a4 a5 := by kernel_rfl
def z46.C : Ctx where
  T := tab
def z46.dec : V → Option (Int)
  | (.int .i64 x0) => some x0
  | _ => none
theorem z46.link (a0 : List Int) (a1 : Bool) (a2 : Int) : z46.C.evTop 122 (ifun Tryz.f122) [(.agg [(.ints false .u64 a0), (.bool a1), (.int .i64 a2)])] z46.dec = z46.F a0 a1 a2 := by kernel_rfl
def z50.C : Ctx where
  T := tab
  call := fun g args => match g with | 280 => z49.pack args | _ => none
def z50.dec : V → Option (Int)
  | (.int .i64 x0) => some x0
  | _ => none
theorem z50.link (a0 : Int) : z50.C.evTop 262 (ifun Tryz.f262) [(.int .u64 a0)] z50.dec = z50.F a0 := by kernel_rfl
def z57.C : Ctx where
  T := tab
  draws := fun f i => match f, i with | 123, 1 => ([(7, [(1, 0)], 0), (8, [(6, 1)], 1), (9, [(1, 0)], 0), (10, [(8, 3)], 4), (11, [(9, 4)], 12), (12, [(7, 2), (10, 5)], 31), (6, [(11, 6)], 63), (13, [(5, 7)], 127), (14, [(5, 7)], 127), (4, [], 0), (0, [(3, 10), (12, 8)], 767), (5, [(13, 9)], 2047)], 16376) | _, _ => ([], 0)
  call := fun g args => match g with | 204 => z43.pack args | 176 => z56.pack args | _ => none
def z57.dec : V → Option ((List Int) × Bool × (List Int))
  | (.agg [(.ints _ .u64 x0), (.bool x1), (.ints _ .u64 x2)]) => some (x0, x1, x2)
  | _ => none
theorem z57.link (a0 : List Int) (a1 : Bool) (a2 : Int) : z57.C.evTop 123 (ifun Tryz.f123) [(.agg [(.ints false .u64 a0), (.bool a1), (.int .i64 a2)])] z57.dec = z57.F a0 a1 a2 := by kernel_rfl
def z62.C : Ctx where
  T := tab
def z62.dec : V → Option ((List (List UInt8)))
  | (.strs _ x0) => some x0
  | _ => none
theorem z62.link  : z62.C.evTop 137 (ifun Tryz.f137) [] z62.dec = z62.F  := by kernel_rfl
def z67.C : Ctx where
  T := tab
def z67.dec : V → Option (Bool)
  | (.bool x0) => some x0
  | _ => none
theorem z67.link (a0 : Int) : z67.C.evTop 228 (ifun Tryz.f228) [(.int .i64 a0)] z67.dec = z67.F a0 := by kernel_rfl
def z70.C : Ctx where
  T := tab
  call := fun g args => match g with | 47 => z63.pack args | 209 => z69.pack args | 149 => z66.pack args | _ => none
def z70.dec : V → Option (Bool)
  | (.bool x0) => some x0
  | _ => none
theorem z70.link (a0 : List UInt8) (a1 : List UInt8) (a2 : Int) (a3 : Int) (a4 : Int) (a5 : Int) (a6 : Int) (a7 : Int) (a8 : Int) (a9 : Int) : z70.C.evTop 133 (ifun Tryz.f133) [(.agg [(.str a0), (.str a1), (.int .i64 a2), (.int .i64 a3), (.int .i64 a4), (.int .i64 a5), (.int .i64 a6), (.int .i64 a7), (.int .i64 a8), (.int .i64 a9)])] z70.dec = z70.F a0 a1 a2 a3 a4 a5 a6 a7 a8 a9 := by kernel_rfl
def z71.C : Ctx where
  T := tab
def z71.dec : V → Option (Bool)
  | (.bool x0) => some x0
  | _ => none
theorem z71.link (a0 : Int) : z71.C.evTop 258 (ifun Tryz.f258) [(.int .i64 a0)] z71.dec = z71.F a0 := by kernel_rfl
def z75.C : Ctx where
  T := tab
  draws := fun f i => match f, i with | 134, 10 => ([(48, [(8, 0)], 0), (49, [(47, 1)], 1), (50, [(8, 0)], 0), (51, [(49, 3)], 4), (52, [(8, 0)], 0), (53, [(51, 5)], 16), (54, [(50, 4), (52, 6)], 60), (55, [(48, 2), (53, 7)], 127), (56, [(8, 0)], 255), (0, [(55, 9), (54, 8)], 511)], 71916856549572608) | _, _ => ([], 0)
  call := fun g args => match g with | 142 => z74.pack args | 210 => z73.pack args | _ => none
def z75.dec : V → Option (Int × Int × Int × Int)
  | (.tup [(.agg [(.int .i64 x0), (.int .i64 x1), (.int .i64 x2)]), (.int .i64 x3)]) => some (x0, x1, x2, x3)
  | _ => none
theorem z75.link (a0 : Int) (a1 : Int) (a2 : Int) (a3 : Int) : z75.C.evTop 134 (ifun Tryz.f134) [(.agg [(.int .i64 a0), (.int .i64 a1), (.int .i64 a2)]), (.int .i64 a3)] z75.dec = z75.F a0 a1 a2 a3 := by kernel_rfl
def z82.C : Ctx where
  T := tab
  call := fun g args => match g with | 137 => z62.pack args | 136 => z81.pack args | _ => none
def z82.dec : V → Option (Int × Bool)
  | (.tup [(.int .i64 x0), (.bool x1)]) => some (x0, x1)
  | _ => none
theorem z82.link (a0 : List UInt8) : z82.C.evTop 46 (ifun Tryz.f46) [(.str a0)] z82.dec = z82.F a0 := by kernel_rfl
end
end Go.Proofs.YtgjncgiekniniaaGreatDoor.A
end
section
set_option linter.unusedVariables false
set_option linter.unusedSimpArgs false
set_option maxRecDepth 100000
namespace Go.Proofs.YtgjncgiekniniaaGreatDoor.A
open Go
noncomputable section
def z7.C : Ctx where
  T := tab
def z7.dec : V → Option (Bool)
  | (.bool x0) => some x0
  | _ => none
theorem z7.link (a0 : List Int) : z7.C.evTop 104 (ifun Tryz.f104) [(.agg [(.ints false .u64 a0)])] z7.dec = z7.F a0 := by kernel_rfl
def z15.C : Ctx where
  T := tab
def z15.dec : V → Option (Bool)
  | (.bool x0) => some x0
  | _ => none
theorem z15.link (a0 : Int) : z15.C.evTop 273 (ifun Tryz.f273) [(.int .u64 a0)] z15.dec = z15.F a0 := by kernel_rfl
def z24.C : Ctx where
  T := tab
  call := fun g args => match g with | 260 => z23.pack args | _ => none
def z24.dec : V → Option ((List UInt8) × Bool)
  | (.tup [(.str x0), (.bool x1)]) => some (x0, x1)
  | _ => none
theorem z24.link (a0 : List UInt8) (a1 : List UInt8) : z24.C.evTop 223 (ifun Tryz.f223) [(.str a0), (.str a1)] z24.dec = z24.F a0 a1 := by kernel_rfl
def z25.C : Ctx where
  T := tab
  call := fun g args => match g with | 223 => z24.pack args | _ => none
def z25.dec : V → Option ((List UInt8) × Bool)
  | (.tup [(.str x0), (.bool x1)]) => some (x0, x1)
  | _ => none
theorem z25.link (a0 : List UInt8) (a1 : List UInt8) : z25.C.evTop 160 (ifun Tryz.f160) [(.str a0), (.str a1)] z25.dec = z25.F a0 a1 := by kernel_rfl
def z33.C : Ctx where
  T := tab
  call := fun g args => match g with | 195 => z32.pack args | 91 => z9.pack args | _ => none
def z33.dec : V → Option ((List Int) × Bool)
  | (.agg [(.ints _ .u64 x0), (.bool x1)]) => some (x0, x1)
  | _ => none
theorem z33.link  : z33.C.evTop 114 (ifun Tryz.f114) [] z33.dec = z33.F  := by kernel_rfl
def z37.C : Ctx where
  T := tab
  call := fun g args => match g with | 200 => z3.pack args | _ => none
def z37.dec : V → Option (Bool)
  | (.bool x0) => some x0
  | _ => none
theorem z37.link (a0 : List UInt8) : z37.C.evTop 199 (ifun Tryz.f199) [(.str a0)] z37.dec = z37.F a0 := by kernel_rfl
def z39.C : Ctx where
  T := tab
def z39.dec : V → Option (Bool)
  | (.bool x0) => some x0
  | _ => none
theorem z39.link (a0 : Int) : z39.C.evTop 202 (ifun Tryz.f202) [(.int .i64 a0)] z39.dec = z39.F a0 := by kernel_rfl
def z43.C : Ctx where
  T := tab
  call := fun g args => match g with | 195 => z32.pack args | 91 => z9.pack args | _ => none
def z43.dec : V → Option ((List Int) × Bool)
  | (.agg [(.ints _ .u64 x0), (.bool x1)]) => some (x0, x1)
  | _ => none
theorem z43.link (a0 : Int) : z43.C.evTop 204 (ifun Tryz.f204) [(.int .i64 a0)] z43.dec = z43.F a0 := by kernel_rfl
def z48.C : Ctx where
  T := tab
  prim := fun g => match g with | 222 => some (cloneP (.ints true .u64 []) 79 8) | _ => none
def z48.dec : V → Option ((List Int))
  | (.ints _ .u64 x0) => some x0
  | _ => none
theorem z48.link (a0 : List Int) : z48.C.evTop 188 (ifun Tryz.f188) [(.agg [(.ints false .u64 a0)])] z48.dec = z48.F a0 := by kernel_rfl
def z56.C : Ctx where
  T := tab
  draws := fun f i => match f, i with | 176, 6 => ([(16, [(2, 0)], 0), (17, [(3, 0)], 0), (18, [(16, 2)], 2), (19, [(15, 1), (17, 3)], 7), (0, [(4, 0), (18, 4)], 15), (6, [], 31)], 491552) | _, _ => ([], 0)
  call := fun g args => match g with | 28 => z8.pack args | 110 => z20.pack args | 92 => z47.pack args | 163 => z55.pack args | _ => none
def z56.dec : V → Option ((List Int) × Bool × (List Int) × Int)
  | (.tup [(.agg [(.ints _ .u64 x0), (.bool x1), (.ints _ .u64 x2)]), (.int .i64 x3)]) => some (x0, x1, x2, x3)
  | _ => none
theorem z56.link (a0 : List Int) (a1 : Bool) (a2 : List Int) (a3 : Bool) : z56.C.evTop 176 (ifun Tryz.f176) [(.agg [(.ints false .u64 a0), (.bool a1)]), (.agg [(.ints false .u64 a2), (.bool a3)])] z56.dec = z56.F a0 a1 a2 a3 := by kernel_rfl
def z60.C : Ctx where
  T := tab
  draws := fun f i => match f, i with | 124, 1 => ([(7, [(2, 0)], 0), (8, [(6, 1)], 1), (9, [(3, 0)], 0), (10, [(8, 3)], 4), (11, [(7, 2), (9, 4)], 15), (12, [(2, 0)], 0), (13, [(11, 6)], 63), (14, [(3, 0)], 0), (15, [(13, 8)], 128), (16, [(12, 7), (14, 9)], 511), (17, [(10, 5), (15, 10)], 1023), (18, [(16, 11)], 2047), (19, [(16, 11)], 2047), (0, [(4, 0), (17, 12)], 8191), (6, [(18, 13)], 16383)], 524256) | _, _ => ([], 0)
  call := fun g args => match g with | 157 => z59.pack args | 156 => z42.pack args | 176 => z56.pack args | _ => none
def z60.dec : V → Option ((List Int) × Bool × (List Int) × Int)
  | (.tup [(.agg [(.ints _ .u64 x0), (.bool x1), (.ints _ .u64 x2)]), (.int .i64 x3)]) => some (x0, x1, x2, x3)
  | _ => none
theorem z60.link (a0 : List Int) (a1 : Bool) (a2 : List Int) (a3 : List Int) (a4 : Bool) (a5 : List Int) : z60.C.evTop 124 (ifun Tryz.f124) [(.agg [(.ints false .u64 a0), (.bool a1), (.ints false .u64 a2)]), (.agg [(.ints false .u64 a3), (.bool a4), (.ints false .u64 a5)])] z60.dec = z60.F a0 a1 a2 a3 a4 a5 := by kernel_rfl
def z69.C : Ctx where
  T := tab
  call := fun g args => match g with | 228 => z67.pack args | 257 => z68.pack args | _ => none
def z69.dec : V → Option ((List UInt8))
  | (.str x0) => some x0
  | _ => none
theorem z69.link (a0 : Int) : z69.C.evTop 209 (ifun Tryz.f209) [(.int .i64 a0)] z69.dec = z69.F a0 := by kernel_rfl
def z74.C : Ctx where
  T := tab
  draws := fun f i => match f, i with | 142, 1 => ([(4, [(1, 0)], 0), (5, [(3, 1)], 1), (6, [(4, 2)], 3), (7, [(5, 3)], 7), (8, [(1, 0), (6, 4)], 15), (9, [(7, 5), (6, 4)], 31), (10, [(1, 0), (6, 4)], 15), (11, [(9, 7), (6, 4)], 79), (12, [(1, 0), (6, 4)], 15), (13, [(11, 9), (6, 4)], 271), (14, [(10, 8), (12, 10), (6, 4)], 975), (15, [(8, 6), (13, 11), (6, 4)], 2047), (16, [(6, 4), (14, 12)], 4095)], 65528) | _, _ => ([], 0)
  call := fun g args => match g with | 210 => z73.pack args | _ => none
def z74.dec : V → Option (Int)
  | (.int .i64 x0) => some x0
  | _ => none
theorem z74.link (a0 : Int) (a1 : Int) (a2 : Int) : z74.C.evTop 142 (ifun Tryz.f142) [(.agg [(.int .i64 a0), (.int .i64 a1), (.int .i64 a2)])] z74.dec = z74.F a0 a1 a2 := by kernel_rfl
def z76.C : Ctx where
  T := tab
  call := fun g args => match g with | 36 => z34.pack args | 28 => z8.pack args | 38 => z61.pack args | 133 => z70.pack args | 134 => z75.pack args | _ => none
def z76.dec : V → Option (Int)
  | (.int .i64 x0) => some x0
  | _ => none
theorem z76.link (a0 : List UInt8) (a1 : List UInt8) (a2 : Int) (a3 : Int) (a4 : Int) (a5 : Int) (a6 : Int) (a7 : Int) (a8 : Int) (a9 : Int) : z76.C.evTop 44 (ifun Tryz.f44) [(.agg [(.str a0), (.str a1), (.int .i64 a2), (.int .i64 a3), (.int .i64 a4), (.int .i64 a5), (.int .i64 a6), (.int .i64 a7), (.int .i64 a8), (.int .i64 a9)])] z76.dec = z76.F a0 a1 a2 a3 a4 a5 a6 a7 a8 a9 := by kernel_rfl
end
end Go.Proofs.YtgjncgiekniniaaGreatDoor.A
end
section
set_option linter.unusedVariables false
set_option linter.unusedSimpArgs false
set_option maxRecDepth 100000
namespace Go.Proofs.YtgjncgiekniniaaGreatDoor.A
open Go
noncomputable section
def z18.l0sh : Env × Store := (.undef :: .undef :: (.ptr 0 0) :: (.ptr 1 0) :: (.ptr 2 0) :: (.bool false) :: (.sref 3 0) :: (.int .u64 (0 : Int)) :: un 11 ((.int .i64 (0 : Int)) :: (.int .i64 (0 : Int)) :: un 21 []), [(.cells 37 [(.ints false .u64 [])]), (.cells 37 [(.ints false .u64 [])]), (.cells 37 [(.ints false .u64 [])]), (.arr 0 false 79 (.ints false .u64 []))])
def z18.l0out0 (t1001 : Bool) (borrow1002 : Int) (t1003 : Int) (t1004 : Int) (s1005 : List Int) (s1006 : List Int) (s1007 : List Int) (s1008 : List Int) (o : Int × Int × (List Int)) : X × Env × Store := ((.exit 0), fillSt z18.l0sh [.b t1001, .i o.1, .i t1003, .i o.2.1, .li s1005, .li s1006, .li s1007, .li o.2.2])
def z18.l0pack : List Leaf → Option LPack
  | [.b t1001, .i borrow1002, .i t1003, .i t1004, .li s1005, .li s1006, .li s1007, .li s1008] => some (.one _ (z18.l0 t1003 s1005 s1006 (borrow1002, t1004, s1008)) (z18.l0out0 t1001 borrow1002 t1003 t1004 s1005 s1006 s1007 s1008))
  | _ => none
def z18.C : Ctx where
  T := tab
  draws := fun f i => match f, i with | 100, 8 => ([(25, [(6, 0)], 0), (26, [(8, 0)], 0), (27, [(2, 0)], 0), (28, [(26, 3)], 4), (29, [(8, 0)], 0), (30, [(27, 4), (28, 5)], 28), (31, [(29, 6)], 60), (32, [(3, 0)], 0), (33, [(8, 0)], 0), (34, [(31, 8), (32, 9)], 384), (35, [(7, 18)], 0), (36, [(30, 7), (33, 10), (34, 11)], 2044), (24, [(35, 12)], 4092), (37, [(23, 13)], 8188), (38, [(23, 13)], 8188), (39, [(24, 1), (25, 2)], 16383), (0, [(38, 16), (36, 14)], 49151), (8, [(37, 15)], 131071)], 549747425408) | _, _ => ([], 0)
  call := fun g args => match g with | 186 => z17.pack args | 184 => z10.pack args | 187 => z1.pack args | 185 => z11.pack args | _ => none
  keep := fun f i => match f, i with | 100, 0 => ([2, 3, 4, 5, 6, 7, 19, 20], [0, 1, 2, 3], []) | _, _ => ([], [], [])
  keepE := fun f i => match f, i with | 100, 0 => ([2, 3, 4, 5, 6, 7, 19, 20], [0, 1, 2, 3], []) | _, _ => ([], [], [])
  keepR := fun f i => match f, i with | 100, 0 => ([4, 5], [0, 1, 2, 3], [4, 5]) | _, _ => ([], [], [])
  L := fun f i b st => match f, i, b with | 100, 0, 0 => (matchSt z18.l0sh st).bind z18.l0pack | _, _, _ => none
def z18.dec : V → Option ((List Int) × Bool)
  | (.tup [(.agg [(.ints _ .u64 x0)]), (.bool x1)]) => some (x0, x1)
  | _ => none
theorem z18.l0_link (R : Type) (k : Env × Store → Option R) (d : X × Env × Store → Option R) (t1001 : Bool) (borrow1002 : Int) (t1003 : Int) (t1004 : Int) (s1005 : List Int) (s1006 : List Int) (s1007 : List Int) (s1008 : List Int) :
    z18.C.loopP 100 0 (loopAt 0 (ifun Tryz.f100).body) 4 k d (fillSt z18.l0sh [.b t1001, .i borrow1002, .i t1003, .i t1004, .li s1005, .li s1006, .li s1007, .li s1008]) =
    z18.l0P t1003 s1005 s1006 (fun x' => k (fillSt z18.l0sh [.b t1001, .i x'.1, .i t1003, .i x'.2.1, .li s1005, .li s1006, .li s1007, .li x'.2.2])) (fun o => d (z18.l0out0 t1001 borrow1002 t1003 t1004 s1005 s1006 s1007 s1008 o)) (borrow1002, t1004, s1008) := by kernel_rfl
theorem z18.link (a0 : List Int) (a1 : List Int) : z18.C.evTop 100 (ifun Tryz.f100) [(.agg [(.ints false .u64 a0)]), (.agg [(.ints false .u64 a1)])] z18.dec = z18.F a0 a1 := by kernel_rfl
def z19.C : Ctx where
  T := tab
  draws := fun f i => match f, i with | 24, 2 => ([(15, [(2, 0)], 0), (16, [(14, 1)], 1), (17, [(3, 0)], 0), (18, [(16, 3)], 4), (19, [(15, 2), (17, 4)], 15), (20, [(2, 0)], 0), (21, [(19, 6)], 32), (22, [(18, 5), (20, 7)], 127), (0, [(4, 0), (21, 8)], 255)], 4177920) | _, _ => ([], 0)
  call := fun g args => match g with | 99 => z12.pack args | 91 => z9.pack args | 100 => z18.pack args | _ => none
def z19.dec : V → Option ((List Int) × Bool)
  | (.agg [(.ints _ .u64 x0), (.bool x1)]) => some (x0, x1)
  | _ => none
theorem z19.link (a0 : List Int) (a1 : Bool) (a2 : List Int) (a3 : Bool) : z19.C.evTop 24 (ifun Tryz.f24) [(.agg [(.ints false .u64 a0), (.bool a1)]), (.agg [(.ints false .u64 a2), (.bool a3)])] z19.dec = z19.F a0 a1 a2 a3 := by kernel_rfl
def z22.C : Ctx where
  T := tab
  call := fun g args => match g with | 90 => z21.pack args | 28 => z8.pack args | _ => none
def z22.dec : V → Option (Int)
  | (.int .i64 x0) => some x0
  | _ => none
theorem z22.link (a0 : List Int) (a1 : Bool) (a2 : List Int) (a3 : Bool) : z22.C.evTop 74 (ifun Tryz.f74) [(.agg [(.ints false .u64 a0), (.bool a1)]), (.agg [(.ints false .u64 a2), (.bool a3)])] z22.dec = z22.F a0 a1 a2 a3 := by kernel_rfl
def z26.C : Ctx where
  T := tab
  call := fun g args => match g with | 185 => z11.pack args | _ => none
  prim := fun g => match g with | 222 => some (cloneP (.ints true .u64 []) 79 8) | _ => none
def z26.dec : V → Option ((List Int))
  | (.agg [(.ints _ .u64 x0)]) => some x0
  | _ => none
theorem z26.link (a0 : List Int) : z26.C.evTop 158 (ifun Tryz.f158) [(.ints false .u64 a0)] z26.dec = z26.F a0 := by kernel_rfl
def z29.l2sh : Env × Store := ((.str ([] : List UInt8)) :: .undef :: (.ptr 0 0) :: (.int .i64 (0 : Int)) :: (.ptr 1 0) :: .undef :: (.int .i64 (0 : Int)) :: (.int .u64 (0 : Int)) :: un 39 ((.ptr 2 0) :: un 21 []), [(.cells 37 [(.ints false .u64 [])]), (.cells 37 [(.ints false .u64 [])]), (.siter ([] : List UInt8) 0)])
def z29.l2out0 (s2001 : List UInt8) (t2002 : Int) (k2003 : Int) (part2004 : Int) (s2005 : List Int) (s2006 : List Int) (s2007 : List UInt8) (s2008 : Nat) (o : Int × Nat) : X × Env × Store := ((.exit 2), fillSt z29.l2sh [.s s2001, .i t2002, .i k2003, .i o.1, .li s2005, .li s2006, .s s2007, .n o.2])
def z29.l2pack : List Leaf → Option LPack
  | [.s s2001, .i t2002, .i k2003, .i part2004, .li s2005, .li s2006, .s s2007, .n s2008] => some (.one _ (z29.l2 s2007 (part2004, s2008)) (z29.l2out0 s2001 t2002 k2003 part2004 s2005 s2006 s2007 s2008))
  | _ => none
def z29.l2ash : Env × Store := ((.str ([] : List UInt8)) :: .undef :: (.ptr 0 0) :: (.int .i64 (0 : Int)) :: (.ptr 1 0) :: .undef :: (.int .i64 (0 : Int)) :: (.int .u64 (0 : Int)) :: un 33 ((.int .i64 (0 : Int)) :: (.bool false) :: un 4 ((.ptr 2 0) :: un 21 [])), [(.cells 37 [(.ints false .u64 [])]), (.cells 37 [(.ints false .u64 [])]), (.siter ([] : List UInt8) 0)])
def z29.l2aout0 (s3001 : List UInt8) (t3002 : Int) (k3003 : Int) (part3004 : Int) (t3005 : Int) (t3006 : Bool) (s3007 : List Int) (s3008 : List Int) (s3009 : List UInt8) (s3010 : Nat) (o : Int × Nat) : X × Env × Store := ((.exit 2), fillSt z29.l2ash [.s s3001, .i t3002, .i k3003, .i o.1, .i t3005, .b t3006, .li s3007, .li s3008, .s s3009, .n o.2])
def z29.l2apack : List Leaf → Option LPack
  | [.s s3001, .i t3002, .i k3003, .i part3004, .i t3005, .b t3006, .li s3007, .li s3008, .s s3009, .n s3010] => some (.one _ (z29.l2a s3009 (part3004, s3010)) (z29.l2aout0 s3001 t3002 k3003 part3004 t3005 t3006 s3007 s3008 s3009 s3010))
  | _ => none
def z29.l0aash : Env × Store := ((.str ([] : List UInt8)) :: .undef :: (.ptr 0 0) :: (.int .i64 (0 : Int)) :: (.ptr 1 0) :: (.bool false) :: un 63 [], [(.cells 37 [(.ints false .u64 [])]), (.cells 37 [(.ints false .u64 [])])])
def z29.l0aaout0 (s5001 : List UInt8) (t5002 : Int) (first5003 : Bool) (s5004 : List Int) (s5005 : List Int) (o : (List UInt8) × Bool × (List Int)) : X × Env × Store := ((.exit 0), fillSt z29.l0aash [.s o.1, .i t5002, .b o.2.1, .li s5004, .li o.2.2])
def z29.l0aapack : List Leaf → Option LPack
  | [.s s5001, .i t5002, .b first5003, .li s5004, .li s5005] => some (.one _ (z29.l0aa (s5001, first5003, s5005)) (z29.l0aaout0 s5001 t5002 first5003 s5004 s5005))
  | _ => none
def z29.C : Ctx where
  T := tab
  draws := fun f i => match f, i with | 161, 17 => ([(58, [(4, 0)], 0), (59, [], 0), (60, [(58, 2)], 2), (61, [(57, 1), (59, 3)], 7), (62, [(7, 0)], 0), (63, [(61, 5)], 16), (64, [(62, 6)], 63), (65, [(60, 4), (63, 7)], 127), (0, [(4, 0), (64, 8)], 255)], 36749372959343247360) | _, _ => ([], 0)
  call := fun g args => match g with | 200 => z3.pack args | 158 => z26.pack args | 164 => z28.pack args | 99 => z12.pack args | _ => none
  keep := fun f i => match f, i with | 161, 2 => ([0, 2, 3, 4, 6, 7, 41, 42, 47], [0, 1, 2], []) | 161, 0 => ([0, 2, 3, 4, 5], [0, 1], []) | _, _ => ([], [], [])
  keepE := fun f i => match f, i with | 161, 2 => ([0, 2, 3, 4, 6, 7, 41, 42, 47], [0, 1, 2], []) | 161, 0 => ([0, 2, 3, 4, 5], [0, 1], []) | _, _ => ([], [], [])
  keepR := fun f i => match f, i with | 161, 2 => ([2, 3], [0, 1, 2], [2, 3]) | 161, 0 => ([2, 3], [0, 1], [2, 3]) | _, _ => ([], [], [])
  L := fun f i b st => match f, i, b with | 161, 2, 0 => (orP ((matchSt z29.l2sh st).bind z29.l2pack) ((matchSt z29.l2ash st).bind z29.l2apack)) | 161, 0, 0 => (matchSt z29.l0aash st).bind z29.l0aapack | _, _, _ => none
def z29.dec : V → Option ((List Int) × Int)
  | (.tup [(.agg [(.ints _ .u64 x0)]), (.int .i64 x1)]) => some (x0, x1)
  | _ => none
theorem z29.l2_link (R : Type) (k : Env × Store → Option R) (d : X × Env × Store → Option R) (s2001 : List UInt8) (t2002 : Int) (k2003 : Int) (part2004 : Int) (s2005 : List Int) (s2006 : List Int) (s2007 : List UInt8) (s2008 : Nat) :
    z29.C.loopP 161 2 (loopAt 2 (ifun Tryz.f161).body) 3 k d (fillSt z29.l2sh [.s s2001, .i t2002, .i k2003, .i part2004, .li s2005, .li s2006, .s s2007, .n s2008]) =
    z29.l2P s2007 (fun x' => k (fillSt z29.l2sh [.s s2001, .i t2002, .i k2003, .i x'.1, .li s2005, .li s2006, .s s2007, .n x'.2])) (fun o => d (z29.l2out0 s2001 t2002 k2003 part2004 s2005 s2006 s2007 s2008 o)) (part2004, s2008) := by kernel_rfl
theorem z29.l2a_link (R : Type) (k : Env × Store → Option R) (d : X × Env × Store → Option R) (s3001 : List UInt8) (t3002 : Int) (k3003 : Int) (part3004 : Int) (t3005 : Int) (t3006 : Bool) (s3007 : List Int) (s3008 : List Int) (s3009 : List UInt8) (s3010 : Nat) :
    z29.C.loopP 161 2 (loopAt 2 (ifun Tryz.f161).body) 3 k d (fillSt z29.l2ash [.s s3001, .i t3002, .i k3003, .i part3004, .i t3005, .b t3006, .li s3007, .li s3008, .s s3009, .n s3010]) =
    z29.l2aP s3009 (fun x' => k (fillSt z29.l2ash [.s s3001, .i t3002, .i k3003, .i x'.1, .i t3005, .b t3006, .li s3007, .li s3008, .s s3009, .n x'.2])) (fun o => d (z29.l2aout0 s3001 t3002 k3003 part3004 t3005 t3006 s3007 s3008 s3009 s3010 o)) (part3004, s3010) := by kernel_rfl
theorem z29.l0aa_link (R : Type) (k : Env × Store → Option R) (d : X × Env × Store → Option R) (s5001 : List UInt8) (t5002 : Int) (first5003 : Bool) (s5004 : List Int) (s5005 : List Int) :
    z29.C.loopP 161 0 (loopAt 0 (ifun Tryz.f161).body) 2 k d (fillSt z29.l0aash [.s s5001, .i t5002, .b first5003, .li s5004, .li s5005]) =
    z29.l0aaP  (fun x' => k (fillSt z29.l0aash [.s x'.1, .i t5002, .b x'.2.1, .li s5004, .li x'.2.2])) (fun o => d (z29.l0aaout0 s5001 t5002 first5003 s5004 s5005 o)) (s5001, first5003, s5005) := by kernel_rfl
theorem z29.link (a0 : List UInt8) : z29.C.evTop 161 (ifun Tryz.f161) [(.str a0)] z29.dec = z29.F a0 := by kernel_rfl
def z31.l0sh : Env × Store := (.undef :: (.int .i64 (0 : Int)) :: (.ptr 0 0) :: .undef :: (.ptr 1 0) :: (.ptr 2 0) :: un 18 [], [(.cells 37 [(.ints false .u64 [])]), (.cells 37 [(.ints false .u64 [])]), (.cells 37 [(.ints false .u64 [])])])
def z31.l0out0 (times1001 : Int) (s1002 : List Int) (s1003 : List Int) (s1004 : List Int) (o : Int × (List Int) × (List Int)) : X × Env × Store := ((.exit 0), fillSt z31.l0sh [.i o.1, .li o.2.1, .li s1003, .li o.2.2])
def z31.l0pack : List Leaf → Option LPack
  | [.i times1001, .li s1002, .li s1003, .li s1004] => some (.one _ (z31.l0 (times1001, s1002, s1004)) (z31.l0out0 times1001 s1002 s1003 s1004))
  | _ => none
def z31.C : Ctx where
  T := tab
  call := fun g args => match g with | 158 => z26.pack args | 164 => z28.pack args | _ => none
  keep := fun f i => match f, i with | 247, 0 => ([1, 2, 4, 5], [0, 1, 2], []) | _, _ => ([], [], [])
  keepE := fun f i => match f, i with | 247, 0 => ([1, 2, 4, 5], [0, 1, 2], []) | _, _ => ([], [], [])
  keepR := fun f i => match f, i with | 247, 0 => ([4], [0, 1, 2], [4]) | _, _ => ([], [], [])
  L := fun f i b st => match f, i, b with | 247, 0, 0 => (matchSt z31.l0sh st).bind z31.l0pack | _, _, _ => none
def z31.dec : V → Option ((List Int))
  | (.agg [(.ints _ .u64 x0)]) => some x0
  | _ => none
theorem z31.l0_link (R : Type) (k : Env × Store → Option R) (d : X × Env × Store → Option R) (times1001 : Int) (s1002 : List Int) (s1003 : List Int) (s1004 : List Int) :
    z31.C.loopP 247 0 (loopAt 0 (ifun Tryz.f247).body) 3 k d (fillSt z31.l0sh [.i times1001, .li s1002, .li s1003, .li s1004]) =
    z31.l0P  (fun x' => k (fillSt z31.l0sh [.i x'.1, .li x'.2.1, .li s1003, .li x'.2.2])) (fun o => d (z31.l0out0 times1001 s1002 s1003 s1004 o)) (times1001, s1002, s1004) := by kernel_rfl
theorem z31.link (a0 : List Int) (a1 : Int) : z31.C.evTop 247 (ifun Tryz.f247) [(.agg [(.ints false .u64 a0)]), (.int .i64 a1)] z31.dec = z31.F a0 a1 := by kernel_rfl
def z32.C : Ctx where
  T := tab
  call := fun g args => match g with | 158 => z26.pack args | 247 => z31.pack args | _ => none
def z32.dec : V → Option ((List Int) × Int)
  | (.tup [(.agg [(.ints _ .u64 x0)]), (.int .i64 x1)]) => some (x0, x1)
  | _ => none
theorem z32.link (a0 : Int) : z32.C.evTop 195 (ifun Tryz.f195) [(.int .i64 a0)] z32.dec = z32.F a0 := by kernel_rfl
def z35.C : Ctx where
  T := tab
def z35.dec : V → Option ((List Int) × Bool × (List Int))
  | (.agg [(.ints _ .u64 x0), (.bool x1), (.ints _ .u64 x2)]) => some (x0, x1, x2)
  | _ => none
theorem z35.link (a0 : List Int) (a1 : Bool) : z35.C.evTop 68 (ifun Tryz.f68) [(.agg [(.ints false .u64 a0), (.bool a1)])] z35.dec = z35.F a0 a1 := by kernel_rfl
def z36.C : Ctx where
  T := tab
  call := fun g args => match g with | 158 => z26.pack args | 91 => z9.pack args | _ => none
def z36.dec : V → Option ((List Int) × Bool)
  | (.agg [(.ints _ .u64 x0), (.bool x1)]) => some (x0, x1)
  | _ => none
theorem z36.link (a0 : Int) : z36.C.evTop 69 (ifun Tryz.f69) [(.int .i64 a0)] z36.dec = z36.F a0 := by kernel_rfl
def z38.C : Ctx where
  T := tab
  draws := fun f i => match f, i with | 248, 3 => ([(14, [(0, 0)], 0), (15, [(7, 0)], 0), (16, [(13, 1), (14, 2)], 3), (17, [(0, 0)], 0), (18, [(7, 0)], 0), (19, [(1, 0)], 0), (20, [(18, 6)], 32), (21, [(17, 5), (19, 7)], 112), (22, [(16, 4), (20, 8)], 248), (5, [(15, 3)], 7), (6, [(21, 9)], 1023), (7, [], 2047)], 4186224) | _, _ => ([], 0)
  call := fun g args => match g with | 160 => z25.pack args | 199 => z37.pack args | 200 => z3.pack args | 201 => z4.pack args | 161 => z29.pack args | 91 => z9.pack args | 290 => z2.pack args | _ => none
  inl := fun g => match g with | 198 => some (ifun Tryz.f198) | 248 => some (ifun Tryz.f248) | 275 => some (ifun Tryz.f275) | 283 => some (ifun Tryz.f283) | _ => none
  rank := fun g => match g with | 198 => 3 | 248 => 2 | 275 => 1 | _ => 0
def z38.dec : V → Option ((List Int) × Bool × Int × Int)
  | (.tup [(.agg [(.ints _ .u64 x0), (.bool x1), (.int .i64 x2)]), (.int .i64 x3)]) => some (x0, x1, x2, x3)
  | _ => none
theorem z38.link (a0 : List UInt8) : z38.C.evTop 118 (ifun Tryz.f118) [(.str a0)] z38.dec = z38.F a0 := by kernel_rfl
def z49.C : Ctx where
  T := tab
def z49.dec : V → Option (Int)
  | (.int .i64 x0) => some x0
  | _ => none
theorem z49.link (a0 : Int) : z49.C.evTop 280 (ifun Tryz.f280) [(.int .u64 a0)] z49.dec = z49.F a0 := by kernel_rfl
def z53.C : Ctx where
  T := tab
  draws := fun f i => match f, i with | 162, 4 => ([(22, [], 0), (23, [(2, 0)], 0), (0, [(4, 0), (21, 1)], 1), (0, [(5, 0), (22, 2)], 7), (7, [], 15)], 6291520) | 162, 5 => ([(24, [(2, 0)], 0), (25, [(23, 1)], 1), (26, [(3, 0)], 0), (27, [(25, 3)], 7), (8, [(24, 2)], 15), (9, [(26, 4)], 31)], 125829504) | _, _ => ([], 0)
  call := fun g args => match g with | 104 => z7.pack args | 186 => z17.pack args | 188 => z48.pack args | 224 => z52.pack args | 158 => z26.pack args | 225 => z5.pack args | _ => none
def z53.dec : V → Option ((List Int) × (List Int) × Int)
  | (.tup [(.agg [(.ints _ .u64 x0)]), (.agg [(.ints _ .u64 x1)]), (.int .i64 x2)]) => some (x0, x1, x2)
  | _ => none
theorem z53.link (a0 : List Int) (a1 : List Int) : z53.C.evTop 162 (ifun Tryz.f162) [(.agg [(.ints false .u64 a0)]), (.agg [(.ints false .u64 a1)])] z53.dec = z53.F a0 a1 := by kernel_rfl
def z54.l0sh : Env × Store := (.undef :: .undef :: (.ptr 0 0) :: (.ptr 1 0) :: (.ptr 2 0) :: un 16 [], [(.cells 37 [(.ints false .u64 [])]), (.cells 37 [(.ints false .u64 [])]), (.cells 37 [(.ints false .u64 [])])])
def z54.l0out0 (s1001 : List Int) (s1002 : List Int) (s1003 : List Int) (o : (List Int) × (List Int)) : X × Env × Store := ((.exit 0), fillSt z54.l0sh [.li o.1, .li o.2, .li s1003])
def z54.l0pack : List Leaf → Option LPack
  | [.li s1001, .li s1002, .li s1003] => some (.one _ (z54.l0 (s1001, s1002)) (z54.l0out0 s1001 s1002 s1003))
  | _ => none
def z54.C : Ctx where
  T := tab
  draws := fun f i => match f, i with | 226, 3 => ([(19, [(3, 0)], 0), (20, [(6, 0)], 0), (0, [(2, 0), (18, 1)], 1), (0, [(3, 0), (19, 2)], 7)], 786432) | _, _ => ([], 0)
  call := fun g args => match g with | 104 => z7.pack args | 162 => z53.pack args | _ => none
  keep := fun f i => match f, i with | 226, 0 => ([2, 3, 4], [0, 1, 2], []) | _, _ => ([], [], [])
  keepE := fun f i => match f, i with | 226, 0 => ([2, 3, 4], [0, 1, 2], []) | _, _ => ([], [], [])
  keepR := fun f i => match f, i with | 226, 0 => ([4], [0, 1, 2], [4]) | _, _ => ([], [], [])
  L := fun f i b st => match f, i, b with | 226, 0, 0 => (matchSt z54.l0sh st).bind z54.l0pack | _, _, _ => none
def z54.dec : V → Option ((List Int))
  | (.agg [(.ints _ .u64 x0)]) => some x0
  | _ => none
theorem z54.l0_link (R : Type) (k : Env × Store → Option R) (d : X × Env × Store → Option R) (s1001 : List Int) (s1002 : List Int) (s1003 : List Int) :
    z54.C.loopP 226 0 (loopAt 0 (ifun Tryz.f226).body) 3 k d (fillSt z54.l0sh [.li s1001, .li s1002, .li s1003]) =
    z54.l0P  (fun x' => k (fillSt z54.l0sh [.li x'.1, .li x'.2, .li s1003])) (fun o => d (z54.l0out0 s1001 s1002 s1003 o)) (s1001, s1002) := by kernel_rfl
theorem z54.link (a0 : List Int) (a1 : List Int) : z54.C.evTop 226 (ifun Tryz.f226) [(.agg [(.ints false .u64 a0)]), (.agg [(.ints false .u64 a1)])] z54.dec = z54.F a0 a1 := by kernel_rfl
def z58.C : Ctx where
  T := tab
  draws := fun f i => match f, i with | 130, 1 => ([(4, [(1, 0)], 0), (5, [(3, 1)], 1), (6, [], 0), (7, [(5, 3)], 4), (8, [(4, 2), (6, 4)], 15), (0, [(2, 0), (7, 5)], 31)], 248) | _, _ => ([], 0)
  call := fun g args => match g with | 158 => z26.pack args | 99 => z12.pack args | _ => none
def z58.dec : V → Option ((List Int))
  | (.agg [(.ints _ .u64 x0)]) => some x0
  | _ => none
theorem z58.link (a0 : List Int) (a1 : Bool) (a2 : List Int) : z58.C.evTop 130 (ifun Tryz.f130) [(.agg [(.ints false .u64 a0), (.bool a1), (.ints false .u64 a2)])] z58.dec = z58.F a0 a1 a2 := by kernel_rfl
def z61.C : Ctx where
  T := tab
  call := fun g args => match g with | 118 => z38.pack args | 69 => z36.pack args | 119 => z40.pack args | 120 => z41.pack args | 28 => z8.pack args | 121 => z45.pack args | 122 => z46.pack args | 123 => z57.pack args | 68 => z35.pack args | 124 => z60.pack args | _ => none
def z61.dec : V → Option ((List Int) × Bool × (List Int) × Int)
  | (.tup [(.agg [(.ints _ .u64 x0), (.bool x1), (.ints _ .u64 x2)]), (.int .i64 x3)]) => some (x0, x1, x2, x3)
  | _ => none
theorem z61.link (a0 : List UInt8) : z61.C.evTop 38 (ifun Tryz.f38) [(.str a0)] z61.dec = z61.F a0 := by kernel_rfl
def z63.C : Ctx where
  T := tab
  call := fun g args => match g with | 137 => z62.pack args | _ => none
def z63.dec : V → Option ((List UInt8))
  | (.str x0) => some x0
  | _ => none
theorem z63.link (a0 : Int) : z63.C.evTop 47 (ifun Tryz.f47) [(.int .i64 a0)] z63.dec = z63.F a0 := by kernel_rfl
def z65.C : Ctx where
  T := tab
def z65.dec : V → Option ((List (List UInt8)))
  | (.strs _ x0) => some x0
  | _ => none
theorem z65.link  : z65.C.evTop 215 (ifun Tryz.f215) [] z65.dec = z65.F  := by kernel_rfl
def z72.C : Ctx where
  T := tab
  call := fun g args => match g with | 258 => z71.pack args | _ => none
def z72.dec : V → Option (Bool)
  | (.bool x0) => some x0
  | _ => none
theorem z72.link (a0 : Int) : z72.C.evTop 259 (ifun Tryz.f259) [(.int .i64 a0)] z72.dec = z72.F a0 := by kernel_rfl
def z73.C : Ctx where
  T := tab
  call := fun g args => match g with | 258 => z71.pack args | 259 => z72.pack args | _ => none
def z73.dec : V → Option (Int)
  | (.int .i64 x0) => some x0
  | _ => none
theorem z73.link (a0 : Int) (a1 : Int) : z73.C.evTop 210 (ifun Tryz.f210) [(.int .i64 a0), (.int .i64 a1)] z73.dec = z73.F a0 a1 := by kernel_rfl
def z78.l2sh : Env × Store := (.undef :: (.ptr 0 0) :: (.str ([] : List UInt8)) :: (.sref 1 0) :: (.ptr 2 0) :: .undef :: .undef :: (.int .u64 (0 : Int)) :: un 19 ((.ints false .u64 []) :: (.int .i64 (0 : Int)) :: (.int .i64 (0 : Int)) :: un 27 []), [(.cells 37 [(.ints false .u64 [])]), (.arr 0 true 9 (.strs false [])), (.cells 37 [(.ints false .u64 [])]), .dead])
def z78.l2out0 (t2001 : List UInt8) (low2002 : Int) (t2003 : List Int) (t2004 : Int) (t2005 : Int) (s2006 : List Int) (s2007 : List (List UInt8)) (s2008 : List Int) (o : Int × Int) : X × Env × Store := ((.exit 2), fillSt z78.l2sh [.s t2001, .i o.1, .li t2003, .i t2004, .i o.2, .li s2006, .ls s2007, .li s2008])
def z78.l2pack : List Leaf → Option LPack
  | [.s t2001, .i low2002, .li t2003, .i t2004, .i t2005, .li s2006, .ls s2007, .li s2008] => some (.one _ (z78.l2 t2003 t2004 (low2002, t2005)) (z78.l2out0 t2001 low2002 t2003 t2004 t2005 s2006 s2007 s2008))
  | _ => none
def z78.l0sh : Env × Store := (.undef :: (.ptr 0 0) :: (.str ([] : List UInt8)) :: (.sref 1 0) :: un 53 [], [(.cells 37 [(.ints false .u64 [])]), (.arr 0 true 9 (.strs false []))])
def z78.l0out0 (t1001 : List UInt8) (s1002 : List Int) (s1003 : List (List UInt8)) (o : (List Int) × (List (List UInt8))) : X × Env × Store := ((.exit 0), fillSt z78.l0sh [.s t1001, .li o.1, .ls o.2])
def z78.l0pack : List Leaf → Option LPack
  | [.s t1001, .li s1002, .ls s1003] => some (.one _ (z78.l0 (s1002, s1003)) (z78.l0out0 t1001 s1002 s1003))
  | _ => none
def z78.l4sh : Env × Store := (.undef :: .undef :: (.str ([] : List UInt8)) :: (.sref 1 0) :: un 7 ((.ptr 2 0) :: (.int .i64 (0 : Int)) :: un 44 []), [.dead, (.arr 0 true 9 (.strs false [])), (.cells 274 [(.ptr 2 0), (.sref 3 0)]), (.arr 0 true 5 (.ints false .u8 []))])
def z78.l4out0 (t3001 : List UInt8) (i3002 : Int) (s3003 : List (List UInt8)) (s3004 : List Int) (o : Int × (List Int)) : X × Env × Store := ((.exit 4), fillSt z78.l4sh [.s t3001, .i o.1, .ls s3003, .li o.2])
def z78.l4pack : List Leaf → Option LPack
  | [.s t3001, .i i3002, .ls s3003, .li s3004] => some (.one _ (z78.l4 s3003 (i3002, s3004)) (z78.l4out0 t3001 i3002 s3003 s3004))
  | _ => none
def z78.C : Ctx where
  T := tab
  draws := fun f i => match f, i with | 101, 5 => ([(20, [(1, 0)], 0), (21, [], 0), (22, [(20, 2)], 2), (23, [(19, 1), (21, 3)], 7), (19, [(22, 4)], 15), (24, [(18, 5)], 31), (25, [(18, 5)], 31), (26, [(18, 5)], 31), (5, [], 0), (6, [], 0), (0, [(4, 9), (23, 6)], 831), (0, [(5, 10), (24, 7)], 1919), (7, [(25, 8)], 4095)], 66846832) | 191, 1 => ([(4, [(0, 0)], 0), (5, [(3, 1)], 1), (6, [(4, 2)], 3), (7, [(5, 3)], 7), (8, [(6, 4)], 15), (9, [(0, 0)], 0), (10, [(8, 6)], 32), (11, [(9, 7)], 96), (12, [(10, 8)], 224), (13, [(11, 9)], 480), (14, [(7, 5), (12, 10)], 1023), (3, [(13, 11)], 2047)], 16380) | _, _ => ([], 0)
  call := fun g args => match g with | 104 => z7.pack args | 158 => z26.pack args | 162 => z53.pack args | 188 => z48.pack args | 189 => z77.pack args | _ => none
  inl := fun g => match g with | 191 => some (ifun Tryz.f191) | 190 => some (ifun Tryz.f190) | _ => none
  rank := fun g => match g with | 190 => 1 | _ => 0
  prim := fun g => match g with | 246 => some (copyP 274) | _ => none
  keep := fun f i => match f, i with | 101, 2 => ([1, 2, 3, 4, 7, 27, 28, 29], [0, 1, 2], []) | 101, 0 => ([1, 2, 3], [0, 1], []) | 101, 4 => ([2, 3, 11, 12], [1, 2, 3], []) | _, _ => ([], [], [])
  keepE := fun f i => match f, i with | 101, 2 => ([1, 2, 3, 4, 7, 27, 28, 29], [0, 1, 2], []) | 101, 0 => ([1, 2, 3], [0, 1], []) | 101, 4 => ([2, 3, 11, 12], [1, 2, 3], []) | _, _ => ([], [], [])
  keepR := fun f i => match f, i with | 101, 2 => ([2], [0, 1, 2], [2]) | 101, 0 => ([2], [0, 1], [2]) | 101, 4 => ([2], [1, 2, 3], [2]) | _, _ => ([], [], [])
  unroll := fun f i => match f, i with | 101, 4 => 1 | _, _ => 0
  L := fun f i b st => match f, i, b with | 101, 2, 0 => (matchSt z78.l2sh st).bind z78.l2pack | 101, 0, 0 => (matchSt z78.l0sh st).bind z78.l0pack | 101, 4, 0 => (matchSt z78.l4sh st).bind z78.l4pack | _, _, _ => none
def z78.dec : V → Option ((List UInt8))
  | (.str x0) => some x0
  | _ => none
theorem z78.l2_link (R : Type) (k : Env × Store → Option R) (d : X × Env × Store → Option R) (t2001 : List UInt8) (low2002 : Int) (t2003 : List Int) (t2004 : Int) (t2005 : Int) (s2006 : List Int) (s2007 : List (List UInt8)) (s2008 : List Int) :
    z78.C.loopP 101 2 (loopAt 2 (ifun Tryz.f101).body) 4 k d (fillSt z78.l2sh [.s t2001, .i low2002, .li t2003, .i t2004, .i t2005, .li s2006, .ls s2007, .li s2008]) =
    z78.l2P t2003 t2004 (fun x' => k (fillSt z78.l2sh [.s t2001, .i x'.1, .li t2003, .i t2004, .i x'.2, .li s2006, .ls s2007, .li s2008])) (fun o => d (z78.l2out0 t2001 low2002 t2003 t2004 t2005 s2006 s2007 s2008 o)) (low2002, t2005) := by kernel_rfl
theorem z78.l0_link (R : Type) (k : Env × Store → Option R) (d : X × Env × Store → Option R) (t1001 : List UInt8) (s1002 : List Int) (s1003 : List (List UInt8)) :
    z78.C.loopP 101 0 (loopAt 0 (ifun Tryz.f101).body) 2 k d (fillSt z78.l0sh [.s t1001, .li s1002, .ls s1003]) =
    z78.l0P  (fun x' => k (fillSt z78.l0sh [.s t1001, .li x'.1, .ls x'.2])) (fun o => d (z78.l0out0 t1001 s1002 s1003 o)) (s1002, s1003) := by kernel_rfl
theorem z78.l4_link (R : Type) (k : Env × Store → Option R) (d : X × Env × Store → Option R) (t3001 : List UInt8) (i3002 : Int) (s3003 : List (List UInt8)) (s3004 : List Int) :
    z78.C.loopP 101 4 (loopAt 4 (ifun Tryz.f101).body) 4 k d (fillSt z78.l4sh [.s t3001, .i i3002, .ls s3003, .li s3004]) =
    z78.l4P s3003 (fun x' => k (fillSt z78.l4sh [.s t3001, .i x'.1, .ls s3003, .li x'.2])) (fun o => d (z78.l4out0 t3001 i3002 s3003 s3004 o)) (i3002, s3004) := by kernel_rfl
theorem z78.link (a0 : List Int) : z78.C.evTop 101 (ifun Tryz.f101) [(.agg [(.ints false .u64 a0)])] z78.dec = z78.F a0 := by kernel_rfl
def z79.C : Ctx where
  T := tab
  call := fun g args => match g with | 101 => z78.pack args | _ => none
def z79.dec : V → Option ((List UInt8))
  | (.str x0) => some x0
  | _ => none
theorem z79.link (a0 : List Int) (a1 : Bool) : z79.C.evTop 25 (ifun Tryz.f25) [(.agg [(.ints false .u64 a0), (.bool a1)])] z79.dec = z79.F a0 a1 := by kernel_rfl
def z80.C : Ctx where
  T := tab
  draws := fun f i => match f, i with | 41, 3 => ([(10, [(1, 0)], 0), (11, [(9, 1)], 1), (12, [(10, 2)], 3), (13, [(11, 3)], 7), (14, [(1, 0)], 0), (15, [(13, 5)], 23), (16, [(14, 6)], 55), (17, [(12, 4), (15, 7)], 127), (3, [(16, 8)], 255)], 130564) | _, _ => ([], 0)
  call := fun g args => match g with | 104 => z7.pack args | 25 => z79.pack args | 130 => z58.pack args | 101 => z78.pack args | _ => none
def z80.dec : V → Option ((List UInt8))
  | (.str x0) => some x0
  | _ => none
theorem z80.link (a0 : List Int) (a1 : Bool) (a2 : List Int) : z80.C.evTop 41 (ifun Tryz.f41) [(.agg [(.ints false .u64 a0), (.bool a1), (.ints false .u64 a2)])] z80.dec = z80.F a0 a1 a2 := by kernel_rfl
end
end Go.Proofs.YtgjncgiekniniaaGreatDoor.A
end
section
set_option linter.unusedVariables false
set_option linter.unusedSimpArgs false
set_option maxRecDepth 100000
namespace Go.Proofs.YtgjncgiekniniaaGreatDoor.A
open Go
noncomputable section
theorem tab_ok : tab.check Tryz.prog = true := by kernel_rfl
def tabC : Ctx where
  T := tab
theorem mixed_ok : Tryz.prog.follows .mixedOrders = true := by kernel_rfl
theorem fun104 : FunOK Tryz.prog 104 Tryz.f104 (ifun Tryz.f104).body := ⟨Tryz.func104, rfl, by kernel_rfl⟩
theorem z7.hdec : DecOK z7.dec z7.enc := by
  intro v r h
  unfold z7.dec at h; split at h <;> cases h
  exact ⟨rfl, rfl⟩
theorem z7.sound (vs : List V) (p : Pack) (h : z7.pack vs = some p) : SoundC Tryz.prog 104 vs p := by
  unfold z7.pack at h; split at h <;> cases h
  exact plain_sound tab_ok mixed_ok rfl rfl rfl rfl (fun g vs p h => by simp [z7.C] at h) fun104 rfl (z7.link _) z7.hdec
theorem fun28 : FunOK Tryz.prog 28 Tryz.f28 (ifun Tryz.f28).body := ⟨Tryz.func28, rfl, by kernel_rfl⟩
theorem z8.hdec : DecOK z8.dec z8.enc := by
  intro v r h
  unfold z8.dec at h; split at h <;> cases h
  exact ⟨rfl, rfl⟩
theorem z8.sound (vs : List V) (p : Pack) (h : z8.pack vs = some p) : SoundC Tryz.prog 28 vs p := by
  unfold z8.pack at h; split at h <;> cases h
  exact plain_sound tab_ok mixed_ok rfl rfl rfl rfl (fun g vs p h => by unfold z8.C at h; simp only at h; split at h; exact z7.sound vs p h; simp at h) fun28 rfl (z8.link _ _) z8.hdec
theorem fun91 : FunOK Tryz.prog 91 Tryz.f91 (ifun Tryz.f91).body := ⟨Tryz.func91, rfl, by kernel_rfl⟩
theorem z9.hdec : DecOK z9.dec z9.enc := by
  intro v r h
  unfold z9.dec at h; split at h <;> cases h
  exact ⟨rfl, rfl⟩
theorem z9.sound (vs : List V) (p : Pack) (h : z9.pack vs = some p) : SoundC Tryz.prog 91 vs p := by
  unfold z9.pack at h; split at h <;> cases h
  exact plain_sound tab_ok mixed_ok rfl rfl rfl rfl (fun g vs p h => by unfold z9.C at h; simp only at h; split at h; exact z7.sound vs p h; simp at h) fun91 rfl (z9.link _ _) z9.hdec
theorem fun184 : FunOK Tryz.prog 184 Tryz.f184 (ifun Tryz.f184).body := ⟨Tryz.func184, rfl, by kernel_rfl⟩
theorem z10.hdec : DecOK z10.dec z10.enc := by
  intro v r h
  unfold z10.dec at h; split at h <;> cases h
  exact ⟨rfl, rfl⟩
theorem z10.sound (vs : List V) (p : Pack) (h : z10.pack vs = some p) : SoundC Tryz.prog 184 vs p := by
  unfold z10.pack at h; split at h <;> cases h
  exact plain_sound tab_ok mixed_ok rfl rfl rfl rfl (fun g vs p h => by simp [z10.C] at h) fun184 rfl (z10.link _ _) z10.hdec
theorem z11.l0b6_sound (hI : InlOK Tryz.prog z11.C fun R => z11.C.inlK 6) : LoopS z11.C 6 185 0 0 (loopAt 0 (ifun Tryz.f185).body) z11.l0b6sh z11.l0b6pack := by
  refine loopS fun ls p h => ?_
  unfold z11.l0b6pack at h; split at h <;> cases h
  rename_i l7001 n7002 s7003
  exact loop_one hI (sh := z11.l0b6sh) (so := z11.l0b6sh) (F := fun R rec done x => z11.l0b6P l7001 rec done x) (enc := fun (x' : Int) => fillSt z11.l0b6sh [.li l7001, .i x', .li s7003]) [1] [1] n7002 (by kernel_rfl) (by kernel_rfl) (fun x => by kernel_rfl) (fun o => by kernel_rfl) fun R k d x' => z11.l0b6_link R k d l7001 (x') s7003
theorem fun185 : FunOK Tryz.prog 185 Tryz.f185 (ifun Tryz.f185).body := ⟨Tryz.func185, rfl, by kernel_rfl⟩
theorem once185 : loopsOnce (ifun Tryz.f185).body = true := by kernel_rfl
theorem z11.loopsT (hI : InlOK Tryz.prog z11.C fun R => z11.C.inlK 6) : LoopsOK z11.C (fun R => z11.C.inlK 6) 185 0 (ifun Tryz.f185).body := by
  intro id b hm st p hp
  obtain rfl := loopsOnce_mem once185 hm
  unfold z11.C at hp
  simp only at hp
  try split at hp
  all_goals first
    | (simp at hp; done)
    | (exfalso; omega)
    | exact z11.l0b6_sound hI st p hp
theorem z11.hdec : DecOK z11.dec z11.enc := by
  intro v r h
  unfold z11.dec at h; split at h <;> cases h
  exact ⟨rfl, rfl⟩
theorem z11.sound (vs : List V) (p : Pack) (h : z11.pack vs = some p) : SoundC Tryz.prog 185 vs p := by
  unfold z11.pack at h; split at h <;> cases h
  exact loops_sound tab_ok mixed_ok rfl rfl rfl (fun g vs p h => by simp [z11.C] at h) fun185 z11.loopsT rfl (z11.link _) z11.hdec
theorem z12.l0_sound (hI : InlOK Tryz.prog z12.C fun R => z12.C.inlK 6) : LoopS z12.C 6 99 0 0 (loopAt 0 (ifun Tryz.f99).body) z12.l0sh z12.l0pack := by
  refine loopS fun ls p h => ?_
  unfold z12.l0pack at h; split at h <;> cases h
  rename_i carry1001 t1002 t1003 s1004 s1005 s1006 s1007
  exact loop_one hI (sh := z12.l0sh) (so := z12.l0sh) (F := fun R rec done x => z12.l0P t1002 s1004 s1005 rec done x) (enc := fun (x' : (Int × Int × (List Int))) => fillSt z12.l0sh [.i x'.1, .i t1002, .i x'.2.1, .li s1004, .li s1005, .li s1006, .li x'.2.2]) [0, 2, 6] [0, 2, 6] (carry1001, t1003, s1007) (by kernel_rfl) (by kernel_rfl) (fun x => by kernel_rfl) (fun o => by kernel_rfl) fun R k d x' => z12.l0_link R k d (x'.1) t1002 (x'.2.1) s1004 s1005 s1006 (x'.2.2)
theorem fun99 : FunOK Tryz.prog 99 Tryz.f99 (ifun Tryz.f99).body := ⟨Tryz.func99, rfl, by kernel_rfl⟩
theorem once99 : loopsOnce (ifun Tryz.f99).body = true := by kernel_rfl
theorem z12.loopsT (hI : InlOK Tryz.prog z12.C fun R => z12.C.inlK 6) : LoopsOK z12.C (fun R => z12.C.inlK 6) 99 0 (ifun Tryz.f99).body := by
  intro id b hm st p hp
  obtain rfl := loopsOnce_mem once99 hm
  unfold z12.C at hp
  simp only at hp
  try split at hp
  all_goals first
    | (simp at hp; done)
    | (exfalso; omega)
    | exact z12.l0_sound hI st p hp
theorem z12.hdec : DecOK z12.dec z12.enc := by
  intro v r h
  unfold z12.dec at h; split at h <;> cases h
  exact ⟨rfl, rfl⟩
theorem z12.sound (vs : List V) (p : Pack) (h : z12.pack vs = some p) : SoundC Tryz.prog 99 vs p := by
  unfold z12.pack at h; split at h <;> cases h
  exact loops_sound tab_ok mixed_ok rfl rfl rfl (fun g vs p h => by unfold z12.C at h; simp only at h; split at h; exact z10.sound vs p h; exact z0.sound vs p h; exact z11.sound vs p h; simp at h) fun99 z12.loopsT rfl (z12.link _ _) z12.hdec
theorem fun212 : FunOK Tryz.prog 212 Tryz.f212 (ifun Tryz.f212).body := ⟨Tryz.func212, rfl, by kernel_rfl⟩
theorem z13.hdec : DecOK z13.dec z13.enc := by
  intro v r h
  unfold z13.dec at h; split at h <;> cases h
  exact ⟨rfl, rfl⟩
theorem z13.sound (vs : List V) (p : Pack) (h : z13.pack vs = some p) : SoundC Tryz.prog 212 vs p := by
  unfold z13.pack at h; split at h <;> cases h
  exact plain_sound tab_ok mixed_ok rfl rfl rfl rfl (fun g vs p h => by simp [z13.C] at h) fun212 rfl (z13.link _) z13.hdec
theorem fun146 : FunOK Tryz.prog 146 Tryz.f146 (ifun Tryz.f146).body := ⟨Tryz.func146, rfl, by kernel_rfl⟩
theorem z14.hdec : DecOK z14.dec z14.enc := by
  intro v r h
  unfold z14.dec at h; split at h <;> cases h
  exact ⟨rfl, rfl⟩
theorem z14.sound (vs : List V) (p : Pack) (h : z14.pack vs = some p) : SoundC Tryz.prog 146 vs p := by
  unfold z14.pack at h; split at h <;> cases h
  exact plain_sound tab_ok mixed_ok rfl rfl rfl rfl (fun g vs p h => by unfold z14.C at h; simp only at h; split at h; exact z13.sound vs p h; simp at h) fun146 rfl (z14.link _ _) z14.hdec
theorem fun273 : FunOK Tryz.prog 273 Tryz.f273 (ifun Tryz.f273).body := ⟨Tryz.func273, rfl, by kernel_rfl⟩
theorem z15.hdec : DecOK z15.dec z15.enc := by
  intro v r h
  unfold z15.dec at h; split at h <;> cases h
  exact ⟨rfl, rfl⟩
theorem z15.sound (vs : List V) (p : Pack) (h : z15.pack vs = some p) : SoundC Tryz.prog 273 vs p := by
  unfold z15.pack at h; split at h <;> cases h
  exact plain_sound tab_ok mixed_ok rfl rfl rfl rfl (fun g vs p h => by simp [z15.C] at h) fun273 rfl (z15.link _) z15.hdec
theorem fun245 : FunOK Tryz.prog 245 Tryz.f245 (ifun Tryz.f245).body := ⟨Tryz.func245, rfl, by kernel_rfl⟩
theorem z16.hdec : DecOK z16.dec z16.enc := by
  intro v r h
  unfold z16.dec at h; split at h <;> cases h
  exact ⟨rfl, rfl⟩
theorem z16.sound (vs : List V) (p : Pack) (h : z16.pack vs = some p) : SoundC Tryz.prog 245 vs p := by
  unfold z16.pack at h; split at h <;> cases h
  exact plain_sound tab_ok mixed_ok rfl rfl rfl rfl (fun g vs p h => by unfold z16.C at h; simp only at h; split at h; exact z15.sound vs p h; simp at h) fun245 rfl (z16.link _ _) z16.hdec
theorem z17.l0_sound (hI : InlOK Tryz.prog z17.C fun R => z17.C.inlK 6) : LoopS z17.C 6 186 0 0 (loopAt 0 (ifun Tryz.f186).body) z17.l0sh z17.l0pack := by
  refine loopS fun ls p h => ?_
  unfold z17.l0pack at h; split at h <;> cases h
  rename_i t1001 i1002 s1003 s1004
  exact loop_two hI (sh := z17.l0sh) (so := z17.l0sh) (so' := z17.l0so1) (F := fun R rec done x => z17.l0P s1003 s1004 rec done x) (enc := fun (x' : Int) => fillSt z17.l0sh [.i t1001, .i x', .li s1003, .li s1004]) (.exit 0) [1] [1] [0] i1002 (by kernel_rfl) (by kernel_rfl) (fun x => by kernel_rfl) (fun o => by kernel_rfl) (fun o => by kernel_rfl) fun R k d x' => z17.l0_link R k d t1001 (x') s1003 s1004
theorem fun186 : FunOK Tryz.prog 186 Tryz.f186 (ifun Tryz.f186).body := ⟨Tryz.func186, rfl, by kernel_rfl⟩
theorem once186 : loopsOnce (ifun Tryz.f186).body = true := by kernel_rfl
theorem z17.loopsT (hI : InlOK Tryz.prog z17.C fun R => z17.C.inlK 6) : LoopsOK z17.C (fun R => z17.C.inlK 6) 186 0 (ifun Tryz.f186).body := by
  intro id b hm st p hp
  obtain rfl := loopsOnce_mem once186 hm
  unfold z17.C at hp
  simp only at hp
  try split at hp
  all_goals first
    | (simp at hp; done)
    | (exfalso; omega)
    | exact z17.l0_sound hI st p hp
theorem z17.hdec : DecOK z17.dec z17.enc := by
  intro v r h
  unfold z17.dec at h; split at h <;> cases h
  exact ⟨rfl, rfl⟩
theorem z17.sound (vs : List V) (p : Pack) (h : z17.pack vs = some p) : SoundC Tryz.prog 186 vs p := by
  unfold z17.pack at h; split at h <;> cases h
  exact loops_sound tab_ok mixed_ok rfl rfl rfl (fun g vs p h => by unfold z17.C at h; simp only at h; split at h; exact z14.sound vs p h; exact z16.sound vs p h; simp at h) fun186 z17.loopsT rfl (z17.link _ _) z17.hdec
theorem z18.l0_sound (hI : InlOK Tryz.prog z18.C fun R => z18.C.inlK 6) : LoopS z18.C 6 100 0 0 (loopAt 0 (ifun Tryz.f100).body) z18.l0sh z18.l0pack := by
  refine loopS fun ls p h => ?_
  unfold z18.l0pack at h; split at h <;> cases h
  rename_i t1001 borrow1002 t1003 t1004 s1005 s1006 s1007 s1008
  exact loop_one hI (sh := z18.l0sh) (so := z18.l0sh) (F := fun R rec done x => z18.l0P t1003 s1005 s1006 rec done x) (enc := fun (x' : (Int × Int × (List Int))) => fillSt z18.l0sh [.b t1001, .i x'.1, .i t1003, .i x'.2.1, .li s1005, .li s1006, .li s1007, .li x'.2.2]) [1, 3, 7] [1, 3, 7] (borrow1002, t1004, s1008) (by kernel_rfl) (by kernel_rfl) (fun x => by kernel_rfl) (fun o => by kernel_rfl) fun R k d x' => z18.l0_link R k d t1001 (x'.1) t1003 (x'.2.1) s1005 s1006 s1007 (x'.2.2)
theorem fun100 : FunOK Tryz.prog 100 Tryz.f100 (ifun Tryz.f100).body := ⟨Tryz.func100, rfl, by kernel_rfl⟩
theorem once100 : loopsOnce (ifun Tryz.f100).body = true := by kernel_rfl
theorem z18.loopsT (hI : InlOK Tryz.prog z18.C fun R => z18.C.inlK 6) : LoopsOK z18.C (fun R => z18.C.inlK 6) 100 0 (ifun Tryz.f100).body := by
  intro id b hm st p hp
  obtain rfl := loopsOnce_mem once100 hm
  unfold z18.C at hp
  simp only at hp
  try split at hp
  all_goals first
    | (simp at hp; done)
    | (exfalso; omega)
    | exact z18.l0_sound hI st p hp
theorem z18.hdec : DecOK z18.dec z18.enc := by
  intro v r h
  unfold z18.dec at h; split at h <;> cases h
  exact ⟨rfl, rfl⟩
theorem z18.sound (vs : List V) (p : Pack) (h : z18.pack vs = some p) : SoundC Tryz.prog 100 vs p := by
  unfold z18.pack at h; split at h <;> cases h
  exact loops_sound tab_ok mixed_ok rfl rfl rfl (fun g vs p h => by unfold z18.C at h; simp only at h; split at h; exact z17.sound vs p h; exact z10.sound vs p h; exact z1.sound vs p h; exact z11.sound vs p h; simp at h) fun100 z18.loopsT rfl (z18.link _ _) z18.hdec
theorem fun24 : FunOK Tryz.prog 24 Tryz.f24 (ifun Tryz.f24).body := ⟨Tryz.func24, rfl, by kernel_rfl⟩
theorem z19.hdec : DecOK z19.dec z19.enc := by
  intro v r h
  unfold z19.dec at h; split at h <;> cases h
  exact ⟨rfl, rfl⟩
theorem z19.sound (vs : List V) (p : Pack) (h : z19.pack vs = some p) : SoundC Tryz.prog 24 vs p := by
  unfold z19.pack at h; split at h <;> cases h
  exact plain_sound tab_ok mixed_ok rfl rfl rfl rfl (fun g vs p h => by unfold z19.C at h; simp only at h; split at h; exact z12.sound vs p h; exact z9.sound vs p h; exact z18.sound vs p h; simp at h) fun24 rfl (z19.link _ _ _ _) z19.hdec
theorem fun110 : FunOK Tryz.prog 110 Tryz.f110 (ifun Tryz.f110).body := ⟨Tryz.func110, rfl, by kernel_rfl⟩
theorem z20.hdec : DecOK z20.dec z20.enc := by
  intro v r h
  unfold z20.dec at h; split at h <;> cases h
  exact ⟨rfl, rfl⟩
theorem z20.sound (vs : List V) (p : Pack) (h : z20.pack vs = some p) : SoundC Tryz.prog 110 vs p := by
  unfold z20.pack at h; split at h <;> cases h
  exact plain_sound tab_ok mixed_ok rfl rfl rfl rfl (fun g vs p h => by unfold z20.C at h; simp only at h; split at h; exact z9.sound vs p h; simp at h) fun110 rfl (z20.link _ _) z20.hdec
theorem fun90 : FunOK Tryz.prog 90 Tryz.f90 (ifun Tryz.f90).body := ⟨Tryz.func90, rfl, by kernel_rfl⟩
theorem z21.hdec : DecOK z21.dec z21.enc := by
  intro v r h
  unfold z21.dec at h; split at h <;> cases h
  exact ⟨rfl, rfl⟩
theorem z21.sound (vs : List V) (p : Pack) (h : z21.pack vs = some p) : SoundC Tryz.prog 90 vs p := by
  unfold z21.pack at h; split at h <;> cases h
  exact plain_sound tab_ok mixed_ok rfl rfl rfl rfl (fun g vs p h => by unfold z21.C at h; simp only at h; split at h; exact z20.sound vs p h; exact z19.sound vs p h; simp at h) fun90 rfl (z21.link _ _ _ _) z21.hdec
theorem fun74 : FunOK Tryz.prog 74 Tryz.f74 (ifun Tryz.f74).body := ⟨Tryz.func74, rfl, by kernel_rfl⟩
theorem z22.hdec : DecOK z22.dec z22.enc := by
  intro v r h
  unfold z22.dec at h; split at h <;> cases h
  exact ⟨rfl, rfl⟩
theorem z22.sound (vs : List V) (p : Pack) (h : z22.pack vs = some p) : SoundC Tryz.prog 74 vs p := by
  unfold z22.pack at h; split at h <;> cases h
  exact plain_sound tab_ok mixed_ok rfl rfl rfl rfl (fun g vs p h => by unfold z22.C at h; simp only at h; split at h; exact z21.sound vs p h; exact z8.sound vs p h; simp at h) fun74 rfl (z22.link _ _ _ _) z22.hdec
theorem fun260 : FunOK Tryz.prog 260 Tryz.f260 (ifun Tryz.f260).body := ⟨Tryz.func260, rfl, by kernel_rfl⟩
theorem z23.hdec : DecOK z23.dec z23.enc := by
  intro v r h
  unfold z23.dec at h; split at h <;> cases h
  exact ⟨rfl, rfl⟩
theorem z23.sound (vs : List V) (p : Pack) (h : z23.pack vs = some p) : SoundC Tryz.prog 260 vs p := by
  unfold z23.pack at h; split at h <;> cases h
  exact plain_sound tab_ok mixed_ok rfl rfl rfl rfl (fun g vs p h => by simp [z23.C] at h) fun260 rfl (z23.link _ _) z23.hdec
theorem fun223 : FunOK Tryz.prog 223 Tryz.f223 (ifun Tryz.f223).body := ⟨Tryz.func223, rfl, by kernel_rfl⟩
theorem z24.hdec : DecOK z24.dec z24.enc := by
  intro v r h
  unfold z24.dec at h; split at h <;> cases h
  exact ⟨rfl, rfl⟩
theorem z24.sound (vs : List V) (p : Pack) (h : z24.pack vs = some p) : SoundC Tryz.prog 223 vs p := by
  unfold z24.pack at h; split at h <;> cases h
  exact plain_sound tab_ok mixed_ok rfl rfl rfl rfl (fun g vs p h => by unfold z24.C at h; simp only at h; split at h; exact z23.sound vs p h; simp at h) fun223 rfl (z24.link _ _) z24.hdec
theorem fun160 : FunOK Tryz.prog 160 Tryz.f160 (ifun Tryz.f160).body := ⟨Tryz.func160, rfl, by kernel_rfl⟩
theorem z25.hdec : DecOK z25.dec z25.enc := by
  intro v r h
  unfold z25.dec at h; split at h <;> cases h
  exact ⟨rfl, rfl⟩
theorem z25.sound (vs : List V) (p : Pack) (h : z25.pack vs = some p) : SoundC Tryz.prog 160 vs p := by
  unfold z25.pack at h; split at h <;> cases h
  exact plain_sound tab_ok mixed_ok rfl rfl rfl rfl (fun g vs p h => by unfold z25.C at h; simp only at h; split at h; exact z24.sound vs p h; simp at h) fun160 rfl (z25.link _ _) z25.hdec
theorem fun158 : FunOK Tryz.prog 158 Tryz.f158 (ifun Tryz.f158).body := ⟨Tryz.func158, rfl, by kernel_rfl⟩
theorem prim222 : SoundP Tryz.prog 222 (cloneP (.ints true .u64 []) 79 8) := clone_sound (C := tabC) tab_ok (f := Tryz.f222) (t := 35) ⟨Tryz.func222, rfl, by kernel_rfl⟩ rfl (by decide) (by kernel_rfl) (by kernel_rfl) (by kernel_rfl) (by decide) (by kernel_rfl) rfl rfl (by kernel_rfl)
theorem z26.inlF : InlF Tryz.prog z26.C where
  prim g h hp := by
    unfold z26.C at hp; simp only at hp; split at hp
    · simp only [Option.some.injEq] at hp; subst hp; exact prim222
    · simp at hp
  fn g fn h := by simp [z26.C] at h
  loops g fn h := by simp [z26.C] at h
theorem z26.hdec : DecOK z26.dec z26.enc := by
  intro v r h
  unfold z26.dec at h; split at h <;> cases h
  exact ⟨rfl, rfl⟩
theorem z26.sound (vs : List V) (p : Pack) (h : z26.pack vs = some p) : SoundC Tryz.prog 158 vs p := by
  unfold z26.pack at h; split at h <;> cases h
  exact full_sound tab_ok mixed_ok rfl (fun g vs p h => by unfold z26.C at h; simp only at h; split at h; exact z11.sound vs p h; simp at h) z26.inlF fun158 (fun _ => noLoops rfl _ _ _ _) rfl (z26.link _) z26.hdec
theorem fun268 : FunOK Tryz.prog 268 Tryz.f268 (ifun Tryz.f268).body := ⟨Tryz.func268, rfl, by kernel_rfl⟩
theorem z27.hdec : DecOK z27.dec z27.enc := by
  intro v r h
  unfold z27.dec at h; split at h <;> cases h
  exact ⟨rfl, rfl⟩
theorem z27.sound (vs : List V) (p : Pack) (h : z27.pack vs = some p) : SoundC Tryz.prog 268 vs p := by
  unfold z27.pack at h; split at h <;> cases h
  exact plain_sound tab_ok mixed_ok rfl rfl rfl rfl (fun g vs p h => by simp [z27.C] at h) fun268 rfl (z27.link _ _) z27.hdec
theorem z28.l0a_sound (hI : InlOK Tryz.prog z28.C fun R => z28.C.inlK 0) : LoopS z28.C 0 227 0 4 (loopAt 0 (ifun Tryz.f227).body) z28.l0ash z28.l0apack := by
  refine loopS fun ls p h => ?_
  unfold z28.l0apack at h; split at h <;> cases h
  rename_i x2001 l2002 l2003 carry2004 t2005 t2006 t2007 s2008 s2009 s2010 s2011
  exact loop_one hI (sh := z28.l0ash) (so := z28.l0ash) (F := fun R rec done x => z28.l0aP x2001 l2002 l2003 t2005 t2006 rec done x) (enc := fun (x' : (Int × Int × (List Int))) => fillSt z28.l0ash [.i x2001, .n l2002, .n l2003, .i x'.1, .li t2005, .i t2006, .i x'.2.1, .li s2008, .li s2009, .li x'.2.2, .li s2011]) [3, 6, 9] [3, 6, 9] (carry2004, t2007, s2010) (by kernel_rfl) (by kernel_rfl) (fun x => by kernel_rfl) (fun o => by kernel_rfl) fun R k d x' => z28.l0a_link R k d x2001 l2002 l2003 (x'.1) t2005 t2006 (x'.2.1) s2008 s2009 (x'.2.2) s2011
theorem z28.l0_sound (hI : InlOK Tryz.prog z28.C fun R => z28.C.inlK 6) : LoopS z28.C 6 164 0 0 (loopAt 0 (ifun Tryz.f164).body) z28.l0sh z28.l0pack := by
  refine loopS fun ls p h => ?_
  unfold z28.l0pack at h; split at h <;> cases h
  rename_i t1001 t1002 t1003 s1004 s1005 s1006
  exact loop_one hI (sh := z28.l0sh) (so := z28.l0sh) (F := fun R rec done x => z28.l0P t1001 t1002 s1004 rec done x) (enc := fun (x' : (Int × (List Int))) => fillSt z28.l0sh [.li t1001, .i t1002, .i x'.1, .li s1004, .li s1005, .li x'.2]) [2, 5] [2, 5] (t1003, s1006) (by kernel_rfl) (by kernel_rfl) (fun x => by kernel_rfl) (fun o => by kernel_rfl) fun R k d x' => z28.l0_link R k d t1001 t1002 (x'.1) s1004 s1005 (x'.2)
theorem fun164 : FunOK Tryz.prog 164 Tryz.f164 (ifun Tryz.f164).body := ⟨Tryz.func164, rfl, by kernel_rfl⟩
theorem once164 : loopsOnce (ifun Tryz.f164).body = true := by kernel_rfl
theorem fun227 : FunOK Tryz.prog 227 Tryz.f227 (ifun Tryz.f227).body := ⟨Tryz.func227, rfl, by kernel_rfl⟩
theorem once227 : loopsOnce (ifun Tryz.f227).body = true := by kernel_rfl
theorem z28.loopsT (hI : InlOK Tryz.prog z28.C fun R => z28.C.inlK 6) : LoopsOK z28.C (fun R => z28.C.inlK 6) 164 0 (ifun Tryz.f164).body := by
  intro id b hm st p hp
  obtain rfl := loopsOnce_mem once164 hm
  unfold z28.C at hp
  simp only at hp
  try split at hp
  all_goals first
    | (simp at hp; done)
    | (exfalso; omega)
    | exact z28.l0_sound hI st p hp
theorem z28.loops227 (hI : InlOK Tryz.prog z28.C fun R => z28.C.inlK 0) (base : Nat) : LoopsOK z28.C (fun R => z28.C.inlK 0) 227 base (ifun Tryz.f227).body := by
  intro id b hm st p hp
  obtain rfl := loopsOnce_mem once227 hm
  unfold z28.C at hp
  simp only at hp
  try split at hp
  all_goals first
    | (simp at hp; done)
    | (exfalso; omega)
    | exact z28.l0a_sound hI st p hp
theorem z28.inlF : InlF Tryz.prog z28.C where
  prim g h hp := by simp [z28.C] at hp
  fn g fn h := by
    unfold z28.C at h; simp only at h; split at h
    · simp only [Option.some.injEq] at h; subst h; exact ⟨_, _, fun227, rfl⟩
    · simp at h
  loops g fn h := by
    unfold z28.C at h; simp only at h; split at h
    · simp only [Option.some.injEq] at h; subst h; exact fun hI base => z28.loops227 hI base
    · simp at h
theorem z28.hdec : DecOK z28.dec z28.enc := by
  intro v r h
  unfold z28.dec at h; split at h <;> cases h
  exact ⟨rfl, rfl⟩
theorem z28.sound (vs : List V) (p : Pack) (h : z28.pack vs = some p) : SoundC Tryz.prog 164 vs p := by
  unfold z28.pack at h; split at h <;> cases h
  exact full_sound tab_ok mixed_ok rfl (fun g vs p h => by unfold z28.C at h; simp only at h; split at h; exact z27.sound vs p h; exact z0.sound vs p h; exact z11.sound vs p h; simp at h) z28.inlF fun164 z28.loopsT rfl (z28.link _ _) z28.hdec
theorem z29.l2_sound (hI : InlOK Tryz.prog z29.C fun R => z29.C.inlK 6) : LoopS z29.C 6 161 2 0 (loopAt 2 (ifun Tryz.f161).body) z29.l2sh z29.l2pack := by
  refine loopS fun ls p h => ?_
  unfold z29.l2pack at h; split at h <;> cases h
  rename_i s2001 t2002 k2003 part2004 s2005 s2006 s2007 s2008
  exact loop_one hI (sh := z29.l2sh) (so := z29.l2sh) (F := fun R rec done x => z29.l2P s2007 rec done x) (enc := fun (x' : (Int × Nat)) => fillSt z29.l2sh [.s s2001, .i t2002, .i k2003, .i x'.1, .li s2005, .li s2006, .s s2007, .n x'.2]) [3, 7] [3, 7] (part2004, s2008) (by kernel_rfl) (by kernel_rfl) (fun x => by kernel_rfl) (fun o => by kernel_rfl) fun R k d x' => z29.l2_link R k d s2001 t2002 k2003 (x'.1) s2005 s2006 s2007 (x'.2)
theorem z29.l2a_sound (hI : InlOK Tryz.prog z29.C fun R => z29.C.inlK 6) : LoopS z29.C 6 161 2 0 (loopAt 2 (ifun Tryz.f161).body) z29.l2ash z29.l2apack := by
  refine loopS fun ls p h => ?_
  unfold z29.l2apack at h; split at h <;> cases h
  rename_i s3001 t3002 k3003 part3004 t3005 t3006 s3007 s3008 s3009 s3010
  exact loop_one hI (sh := z29.l2ash) (so := z29.l2ash) (F := fun R rec done x => z29.l2aP s3009 rec done x) (enc := fun (x' : (Int × Nat)) => fillSt z29.l2ash [.s s3001, .i t3002, .i k3003, .i x'.1, .i t3005, .b t3006, .li s3007, .li s3008, .s s3009, .n x'.2]) [3, 9] [3, 9] (part3004, s3010) (by kernel_rfl) (by kernel_rfl) (fun x => by kernel_rfl) (fun o => by kernel_rfl) fun R k d x' => z29.l2a_link R k d s3001 t3002 k3003 (x'.1) t3005 t3006 s3007 s3008 s3009 (x'.2)
theorem z29.l0aa_sound (hI : InlOK Tryz.prog z29.C fun R => z29.C.inlK 6) : LoopS z29.C 6 161 0 0 (loopAt 0 (ifun Tryz.f161).body) z29.l0aash z29.l0aapack := by
  refine loopS fun ls p h => ?_
  unfold z29.l0aapack at h; split at h <;> cases h
  rename_i s5001 t5002 first5003 s5004 s5005
  exact loop_one hI (sh := z29.l0aash) (so := z29.l0aash) (F := fun R rec done x => z29.l0aaP  rec done x) (enc := fun (x' : ((List UInt8) × Bool × (List Int))) => fillSt z29.l0aash [.s x'.1, .i t5002, .b x'.2.1, .li s5004, .li x'.2.2]) [0, 2, 4] [0, 2, 4] (s5001, first5003, s5005) (by kernel_rfl) (by kernel_rfl) (fun x => by kernel_rfl) (fun o => by kernel_rfl) fun R k d x' => z29.l0aa_link R k d (x'.1) t5002 (x'.2.1) s5004 (x'.2.2)
theorem fun161 : FunOK Tryz.prog 161 Tryz.f161 (ifun Tryz.f161).body := ⟨Tryz.func161, rfl, by kernel_rfl⟩
theorem once161 : loopsOnce (ifun Tryz.f161).body = true := by kernel_rfl
theorem z29.loopsT (hI : InlOK Tryz.prog z29.C fun R => z29.C.inlK 6) : LoopsOK z29.C (fun R => z29.C.inlK 6) 161 0 (ifun Tryz.f161).body := by
  intro id b hm st p hp
  obtain rfl := loopsOnce_mem once161 hm
  unfold z29.C at hp
  simp only at hp
  try split at hp
  all_goals first
    | (simp at hp; done)
    | (exfalso; omega)
    | exact (orP_some hp).elim (fun h => z29.l2_sound hI st p h) (fun h => z29.l2a_sound hI st p h)
    | exact z29.l0aa_sound hI st p hp
theorem z29.hdec : DecOK z29.dec z29.enc := by
  intro v r h
  unfold z29.dec at h; split at h <;> cases h
  exact ⟨rfl, rfl⟩
theorem z29.sound (vs : List V) (p : Pack) (h : z29.pack vs = some p) : SoundC Tryz.prog 161 vs p := by
  unfold z29.pack at h; split at h <;> cases h
  exact loops_sound tab_ok mixed_ok rfl rfl rfl (fun g vs p h => by unfold z29.C at h; simp only at h; split at h; exact z3.sound vs p h; exact z26.sound vs p h; exact z28.sound vs p h; exact z12.sound vs p h; simp at h) fun161 z29.loopsT rfl (z29.link _) z29.hdec
theorem fun76 : FunOK Tryz.prog 76 Tryz.f76 (ifun Tryz.f76).body := ⟨Tryz.func76, rfl, by kernel_rfl⟩
theorem z30.hdec : DecOK z30.dec z30.enc := by
  intro v r h
  unfold z30.dec at h; split at h <;> cases h
  exact ⟨rfl, rfl⟩
theorem z30.sound (vs : List V) (p : Pack) (h : z30.pack vs = some p) : SoundC Tryz.prog 76 vs p := by
  unfold z30.pack at h; split at h <;> cases h
  exact plain_sound tab_ok mixed_ok rfl rfl rfl rfl (fun g vs p h => by unfold z30.C at h; simp only at h; split at h; exact z25.sound vs p h; exact z29.sound vs p h; exact z7.sound vs p h; exact z9.sound vs p h; simp at h) fun76 rfl (z30.link _) z30.hdec
theorem z31.l0_sound (hI : InlOK Tryz.prog z31.C fun R => z31.C.inlK 6) : LoopS z31.C 6 247 0 0 (loopAt 0 (ifun Tryz.f247).body) z31.l0sh z31.l0pack := by
  refine loopS fun ls p h => ?_
  unfold z31.l0pack at h; split at h <;> cases h
  rename_i times1001 s1002 s1003 s1004
  exact loop_one hI (sh := z31.l0sh) (so := z31.l0sh) (F := fun R rec done x => z31.l0P  rec done x) (enc := fun (x' : (Int × (List Int) × (List Int))) => fillSt z31.l0sh [.i x'.1, .li x'.2.1, .li s1003, .li x'.2.2]) [0, 1, 3] [0, 1, 3] (times1001, s1002, s1004) (by kernel_rfl) (by kernel_rfl) (fun x => by kernel_rfl) (fun o => by kernel_rfl) fun R k d x' => z31.l0_link R k d (x'.1) (x'.2.1) s1003 (x'.2.2)
theorem fun247 : FunOK Tryz.prog 247 Tryz.f247 (ifun Tryz.f247).body := ⟨Tryz.func247, rfl, by kernel_rfl⟩
theorem once247 : loopsOnce (ifun Tryz.f247).body = true := by kernel_rfl
theorem z31.loopsT (hI : InlOK Tryz.prog z31.C fun R => z31.C.inlK 6) : LoopsOK z31.C (fun R => z31.C.inlK 6) 247 0 (ifun Tryz.f247).body := by
  intro id b hm st p hp
  obtain rfl := loopsOnce_mem once247 hm
  unfold z31.C at hp
  simp only at hp
  try split at hp
  all_goals first
    | (simp at hp; done)
    | (exfalso; omega)
    | exact z31.l0_sound hI st p hp
theorem z31.hdec : DecOK z31.dec z31.enc := by
  intro v r h
  unfold z31.dec at h; split at h <;> cases h
  exact ⟨rfl, rfl⟩
theorem z31.sound (vs : List V) (p : Pack) (h : z31.pack vs = some p) : SoundC Tryz.prog 247 vs p := by
  unfold z31.pack at h; split at h <;> cases h
  exact loops_sound tab_ok mixed_ok rfl rfl rfl (fun g vs p h => by unfold z31.C at h; simp only at h; split at h; exact z26.sound vs p h; exact z28.sound vs p h; simp at h) fun247 z31.loopsT rfl (z31.link _ _) z31.hdec
theorem fun195 : FunOK Tryz.prog 195 Tryz.f195 (ifun Tryz.f195).body := ⟨Tryz.func195, rfl, by kernel_rfl⟩
theorem z32.hdec : DecOK z32.dec z32.enc := by
  intro v r h
  unfold z32.dec at h; split at h <;> cases h
  exact ⟨rfl, rfl⟩
theorem z32.sound (vs : List V) (p : Pack) (h : z32.pack vs = some p) : SoundC Tryz.prog 195 vs p := by
  unfold z32.pack at h; split at h <;> cases h
  exact plain_sound tab_ok mixed_ok rfl rfl rfl rfl (fun g vs p h => by unfold z32.C at h; simp only at h; split at h; exact z26.sound vs p h; exact z31.sound vs p h; simp at h) fun195 rfl (z32.link _) z32.hdec
theorem fun114 : FunOK Tryz.prog 114 Tryz.f114 (ifun Tryz.f114).body := ⟨Tryz.func114, rfl, by kernel_rfl⟩
theorem z33.hdec : DecOK z33.dec z33.enc := by
  intro v r h
  unfold z33.dec at h; split at h <;> cases h
  exact ⟨rfl, rfl⟩
theorem z33.sound (vs : List V) (p : Pack) (h : z33.pack vs = some p) : SoundC Tryz.prog 114 vs p := by
  unfold z33.pack at h; split at h <;> cases h
  exact plain_sound tab_ok mixed_ok rfl rfl rfl rfl (fun g vs p h => by unfold z33.C at h; simp only at h; split at h; exact z32.sound vs p h; exact z9.sound vs p h; simp at h) fun114 rfl z33.link z33.hdec
theorem fun36 : FunOK Tryz.prog 36 Tryz.f36 (ifun Tryz.f36).body := ⟨Tryz.func36, rfl, by kernel_rfl⟩
theorem z34.hdec : DecOK z34.dec z34.enc := by
  intro v r h
  unfold z34.dec at h; split at h <;> cases h
  exact ⟨rfl, rfl⟩
theorem z34.sound (vs : List V) (p : Pack) (h : z34.pack vs = some p) : SoundC Tryz.prog 36 vs p := by
  unfold z34.pack at h; split at h <;> cases h
  exact plain_sound tab_ok mixed_ok rfl rfl rfl rfl (fun g vs p h => by unfold z34.C at h; simp only at h; split at h; exact z30.sound vs p h; exact z8.sound vs p h; exact z33.sound vs p h; exact z22.sound vs p h; simp at h) fun36 rfl (z34.link _) z34.hdec
theorem fun68 : FunOK Tryz.prog 68 Tryz.f68 (ifun Tryz.f68).body := ⟨Tryz.func68, rfl, by kernel_rfl⟩
theorem z35.hdec : DecOK z35.dec z35.enc := by
  intro v r h
  unfold z35.dec at h; split at h <;> cases h
  exact ⟨rfl, rfl⟩
theorem z35.sound (vs : List V) (p : Pack) (h : z35.pack vs = some p) : SoundC Tryz.prog 68 vs p := by
  unfold z35.pack at h; split at h <;> cases h
  exact plain_sound tab_ok mixed_ok rfl rfl rfl rfl (fun g vs p h => by simp [z35.C] at h) fun68 rfl (z35.link _ _) z35.hdec
theorem fun69 : FunOK Tryz.prog 69 Tryz.f69 (ifun Tryz.f69).body := ⟨Tryz.func69, rfl, by kernel_rfl⟩
theorem z36.hdec : DecOK z36.dec z36.enc := by
  intro v r h
  unfold z36.dec at h; split at h <;> cases h
  exact ⟨rfl, rfl⟩
theorem z36.sound (vs : List V) (p : Pack) (h : z36.pack vs = some p) : SoundC Tryz.prog 69 vs p := by
  unfold z36.pack at h; split at h <;> cases h
  exact plain_sound tab_ok mixed_ok rfl rfl rfl rfl (fun g vs p h => by unfold z36.C at h; simp only at h; split at h; exact z26.sound vs p h; exact z9.sound vs p h; simp at h) fun69 rfl (z36.link _) z36.hdec
theorem fun199 : FunOK Tryz.prog 199 Tryz.f199 (ifun Tryz.f199).body := ⟨Tryz.func199, rfl, by kernel_rfl⟩
theorem z37.hdec : DecOK z37.dec z37.enc := by
  intro v r h
  unfold z37.dec at h; split at h <;> cases h
  exact ⟨rfl, rfl⟩
theorem z37.sound (vs : List V) (p : Pack) (h : z37.pack vs = some p) : SoundC Tryz.prog 199 vs p := by
  unfold z37.pack at h; split at h <;> cases h
  exact plain_sound tab_ok mixed_ok rfl rfl rfl rfl (fun g vs p h => by unfold z37.C at h; simp only at h; split at h; exact z3.sound vs p h; simp at h) fun199 rfl (z37.link _) z37.hdec
theorem fun118 : FunOK Tryz.prog 118 Tryz.f118 (ifun Tryz.f118).body := ⟨Tryz.func118, rfl, by kernel_rfl⟩
theorem fun198 : FunOK Tryz.prog 198 Tryz.f198 (ifun Tryz.f198).body := ⟨Tryz.func198, rfl, by kernel_rfl⟩
theorem fun248 : FunOK Tryz.prog 248 Tryz.f248 (ifun Tryz.f248).body := ⟨Tryz.func248, rfl, by kernel_rfl⟩
theorem fun275 : FunOK Tryz.prog 275 Tryz.f275 (ifun Tryz.f275).body := ⟨Tryz.func275, rfl, by kernel_rfl⟩
theorem fun283 : FunOK Tryz.prog 283 Tryz.f283 (ifun Tryz.f283).body := ⟨Tryz.func283, rfl, by kernel_rfl⟩
theorem z38.inlF : InlF Tryz.prog z38.C where
  prim g h hp := by simp [z38.C] at hp
  fn g fn h := by
    unfold z38.C at h; simp only at h; split at h
    · simp only [Option.some.injEq] at h; subst h; exact ⟨_, _, fun198, rfl⟩
    · simp only [Option.some.injEq] at h; subst h; exact ⟨_, _, fun248, rfl⟩
    · simp only [Option.some.injEq] at h; subst h; exact ⟨_, _, fun275, rfl⟩
    · simp only [Option.some.injEq] at h; subst h; exact ⟨_, _, fun283, rfl⟩
    · simp at h
  loops g fn h := by
    unfold z38.C at h; simp only at h; split at h
    · simp only [Option.some.injEq] at h; subst h; exact fun hI base => noLoops rfl _ _ _ _
    · simp only [Option.some.injEq] at h; subst h; exact fun hI base => noLoops rfl _ _ _ _
    · simp only [Option.some.injEq] at h; subst h; exact fun hI base => noLoops rfl _ _ _ _
    · simp only [Option.some.injEq] at h; subst h; exact fun hI base => noLoops rfl _ _ _ _
    · simp at h
theorem z38.hdec : DecOK z38.dec z38.enc := by
  intro v r h
  unfold z38.dec at h; split at h <;> cases h
  exact ⟨rfl, rfl⟩
theorem z38.sound (vs : List V) (p : Pack) (h : z38.pack vs = some p) : SoundC Tryz.prog 118 vs p := by
  unfold z38.pack at h; split at h <;> cases h
  exact full_sound tab_ok mixed_ok rfl (fun g vs p h => by unfold z38.C at h; simp only at h; split at h; exact z25.sound vs p h; exact z37.sound vs p h; exact z3.sound vs p h; exact z4.sound vs p h; exact z29.sound vs p h; exact z9.sound vs p h; exact z2.sound vs p h; simp at h) z38.inlF fun118 (fun _ => noLoops rfl _ _ _ _) rfl (z38.link _) z38.hdec
theorem fun202 : FunOK Tryz.prog 202 Tryz.f202 (ifun Tryz.f202).body := ⟨Tryz.func202, rfl, by kernel_rfl⟩
theorem z39.hdec : DecOK z39.dec z39.enc := by
  intro v r h
  unfold z39.dec at h; split at h <;> cases h
  exact ⟨rfl, rfl⟩
theorem z39.sound (vs : List V) (p : Pack) (h : z39.pack vs = some p) : SoundC Tryz.prog 202 vs p := by
  unfold z39.pack at h; split at h <;> cases h
  exact plain_sound tab_ok mixed_ok rfl rfl rfl rfl (fun g vs p h => by simp [z39.C] at h) fun202 rfl (z39.link _) z39.hdec
theorem fun119 : FunOK Tryz.prog 119 Tryz.f119 (ifun Tryz.f119).body := ⟨Tryz.func119, rfl, by kernel_rfl⟩
theorem z40.hdec : DecOK z40.dec z40.enc := by
  intro v r h
  unfold z40.dec at h; split at h <;> cases h
  exact ⟨rfl, rfl⟩
theorem z40.sound (vs : List V) (p : Pack) (h : z40.pack vs = some p) : SoundC Tryz.prog 119 vs p := by
  unfold z40.pack at h; split at h <;> cases h
  exact plain_sound tab_ok mixed_ok rfl rfl rfl rfl (fun g vs p h => by unfold z40.C at h; simp only at h; split at h; exact z39.sound vs p h; simp at h) fun119 rfl (z40.link _ _ _) z40.hdec
theorem fun120 : FunOK Tryz.prog 120 Tryz.f120 (ifun Tryz.f120).body := ⟨Tryz.func120, rfl, by kernel_rfl⟩
theorem z41.hdec : DecOK z41.dec z41.enc := by
  intro v r h
  unfold z41.dec at h; split at h <;> cases h
  exact ⟨rfl, rfl⟩
theorem z41.sound (vs : List V) (p : Pack) (h : z41.pack vs = some p) : SoundC Tryz.prog 120 vs p := by
  unfold z41.pack at h; split at h <;> cases h
  exact plain_sound tab_ok mixed_ok rfl rfl rfl rfl (fun g vs p h => by simp [z41.C] at h) fun120 rfl (z41.link _ _ _) z41.hdec
theorem fun156 : FunOK Tryz.prog 156 Tryz.f156 (ifun Tryz.f156).body := ⟨Tryz.func156, rfl, by kernel_rfl⟩
theorem z42.hdec : DecOK z42.dec z42.enc := by
  intro v r h
  unfold z42.dec at h; split at h <;> cases h
  exact ⟨rfl, rfl⟩
theorem z42.sound (vs : List V) (p : Pack) (h : z42.pack vs = some p) : SoundC Tryz.prog 156 vs p := by
  unfold z42.pack at h; split at h <;> cases h
  exact plain_sound tab_ok mixed_ok rfl rfl rfl rfl (fun g vs p h => by unfold z42.C at h; simp only at h; split at h; exact z28.sound vs p h; exact z9.sound vs p h; simp at h) fun156 rfl (z42.link _ _ _ _) z42.hdec
theorem fun204 : FunOK Tryz.prog 204 Tryz.f204 (ifun Tryz.f204).body := ⟨Tryz.func204, rfl, by kernel_rfl⟩
theorem z43.hdec : DecOK z43.dec z43.enc := by
  intro v r h
  unfold z43.dec at h; split at h <;> cases h
  exact ⟨rfl, rfl⟩
theorem z43.sound (vs : List V) (p : Pack) (h : z43.pack vs = some p) : SoundC Tryz.prog 204 vs p := by
  unfold z43.pack at h; split at h <;> cases h
  exact plain_sound tab_ok mixed_ok rfl rfl rfl rfl (fun g vs p h => by unfold z43.C at h; simp only at h; split at h; exact z32.sound vs p h; exact z9.sound vs p h; simp at h) fun204 rfl (z43.link _) z43.hdec
theorem fun203 : FunOK Tryz.prog 203 Tryz.f203 (ifun Tryz.f203).body := ⟨Tryz.func203, rfl, by kernel_rfl⟩
theorem z44.hdec : DecOK z44.dec z44.enc := by
  intro v r h
  unfold z44.dec at h; split at h <;> cases h
  exact ⟨rfl, rfl⟩
theorem z44.sound (vs : List V) (p : Pack) (h : z44.pack vs = some p) : SoundC Tryz.prog 203 vs p := by
  unfold z44.pack at h; split at h <;> cases h
  exact plain_sound tab_ok mixed_ok rfl rfl rfl rfl (fun g vs p h => by unfold z44.C at h; simp only at h; split at h; exact z43.sound vs p h; exact z42.sound vs p h; simp at h) fun203 rfl (z44.link _ _ _ _) z44.hdec
theorem fun121 : FunOK Tryz.prog 121 Tryz.f121 (ifun Tryz.f121).body := ⟨Tryz.func121, rfl, by kernel_rfl⟩
theorem z45.hdec : DecOK z45.dec z45.enc := by
  intro v r h
  unfold z45.dec at h; split at h <;> cases h
  exact ⟨rfl, rfl⟩
theorem z45.sound (vs : List V) (p : Pack) (h : z45.pack vs = some p) : SoundC Tryz.prog 121 vs p := by
  unfold z45.pack at h; split at h <;> cases h
  exact plain_sound tab_ok mixed_ok rfl rfl rfl rfl (fun g vs p h => by unfold z45.C at h; simp only at h; split at h; exact z44.sound vs p h; exact z22.sound vs p h; simp at h) fun121 rfl (z45.link _ _ _ _ _ _) z45.hdec
theorem fun122 : FunOK Tryz.prog 122 Tryz.f122 (ifun Tryz.f122).body := ⟨Tryz.func122, rfl, by kernel_rfl⟩
theorem z46.hdec : DecOK z46.dec z46.enc := by
  intro v r h
  unfold z46.dec at h; split at h <;> cases h
  exact ⟨rfl, rfl⟩
theorem z46.sound (vs : List V) (p : Pack) (h : z46.pack vs = some p) : SoundC Tryz.prog 122 vs p := by
  unfold z46.pack at h; split at h <;> cases h
  exact plain_sound tab_ok mixed_ok rfl rfl rfl rfl (fun g vs p h => by simp [z46.C] at h) fun122 rfl (z46.link _ _ _) z46.hdec
theorem fun92 : FunOK Tryz.prog 92 Tryz.f92 (ifun Tryz.f92).body := ⟨Tryz.func92, rfl, by kernel_rfl⟩
theorem z47.hdec : DecOK z47.dec z47.enc := by
  intro v r h
  unfold z47.dec at h; split at h <;> cases h
  exact ⟨rfl, rfl⟩
theorem z47.sound (vs : List V) (p : Pack) (h : z47.pack vs = some p) : SoundC Tryz.prog 92 vs p := by
  unfold z47.pack at h; split at h <;> cases h
  exact plain_sound tab_ok mixed_ok rfl rfl rfl rfl (fun g vs p h => by simp [z47.C] at h) fun92 rfl (z47.link _ _) z47.hdec
theorem fun188 : FunOK Tryz.prog 188 Tryz.f188 (ifun Tryz.f188).body := ⟨Tryz.func188, rfl, by kernel_rfl⟩
theorem z48.inlF : InlF Tryz.prog z48.C where
  prim g h hp := by
    unfold z48.C at hp; simp only at hp; split at hp
    · simp only [Option.some.injEq] at hp; subst hp; exact prim222
    · simp at hp
  fn g fn h := by simp [z48.C] at h
  loops g fn h := by simp [z48.C] at h
theorem z48.hdec : DecOK z48.dec z48.enc := by
  intro v r h
  unfold z48.dec at h; split at h <;> cases h
  exact ⟨rfl, rfl⟩
theorem z48.sound (vs : List V) (p : Pack) (h : z48.pack vs = some p) : SoundC Tryz.prog 188 vs p := by
  unfold z48.pack at h; split at h <;> cases h
  exact full_sound tab_ok mixed_ok rfl (fun g vs p h => by simp [z48.C] at h) z48.inlF fun188 (fun _ => noLoops rfl _ _ _ _) rfl (z48.link _) z48.hdec
theorem fun280 : FunOK Tryz.prog 280 Tryz.f280 (ifun Tryz.f280).body := ⟨Tryz.func280, rfl, by kernel_rfl⟩
theorem z49.hdec : DecOK z49.dec z49.enc := by
  intro v r h
  unfold z49.dec at h; split at h <;> cases h
  exact ⟨rfl, rfl⟩
theorem z49.sound (vs : List V) (p : Pack) (h : z49.pack vs = some p) : SoundC Tryz.prog 280 vs p := by
  unfold z49.pack at h; split at h <;> cases h
  exact plain_sound tab_ok mixed_ok rfl rfl rfl rfl (fun g vs p h => by simp [z49.C] at h) fun280 rfl (z49.link _) z49.hdec
theorem fun262 : FunOK Tryz.prog 262 Tryz.f262 (ifun Tryz.f262).body := ⟨Tryz.func262, rfl, by kernel_rfl⟩
theorem z50.hdec : DecOK z50.dec z50.enc := by
  intro v r h
  unfold z50.dec at h; split at h <;> cases h
  exact ⟨rfl, rfl⟩
theorem z50.sound (vs : List V) (p : Pack) (h : z50.pack vs = some p) : SoundC Tryz.prog 262 vs p := by
  unfold z50.pack at h; split at h <;> cases h
  exact plain_sound tab_ok mixed_ok rfl rfl rfl rfl (fun g vs p h => by unfold z50.C at h; simp only at h; split at h; exact z49.sound vs p h; simp at h) fun262 rfl (z50.link _) z50.hdec
theorem z51.l0b8_sound (hI : InlOK Tryz.prog z51.C fun R => z51.C.inlK 6) : LoopS z51.C 6 261 0 0 (loopAt 0 (ifun Tryz.f261).body) z51.l0b8sh z51.l0b8pack := by
  refine loopS fun ls p h => ?_
  unfold z51.l0b8pack at h; split at h <;> cases h
  rename_i y9001 quo9002 rem9003 s9004 yn9005 yn9006 un9007 un9008 un9009 q9010 rhat9011
  exact loop_one hI (sh := z51.l0b8sh) (so := z51.l0b8sh) (F := fun R rec done x => z51.l0b8P yn9005 yn9006 un9008 rec done x) (enc := fun (x' : (Int × Int)) => fillSt z51.l0b8sh [.i y9001, .i quo9002, .i rem9003, .i s9004, .i yn9005, .i yn9006, .i un9007, .i un9008, .i un9009, .i x'.1, .i x'.2]) [9, 10] [9, 10] (q9010, rhat9011) (by kernel_rfl) (by kernel_rfl) (fun x => by kernel_rfl) (fun o => by kernel_rfl) fun R k d x' => z51.l0b8_link R k d y9001 quo9002 rem9003 s9004 yn9005 yn9006 un9007 un9008 un9009 (x'.1) (x'.2)
theorem z51.l2b8_sound (hI : InlOK Tryz.prog z51.C fun R => z51.C.inlK 6) : LoopS z51.C 6 261 2 0 (loopAt 2 (ifun Tryz.f261).body) z51.l2b8sh z51.l2b8pack := by
  refine loopS fun ls p h => ?_
  unfold z51.l2b8pack at h; split at h <;> cases h
  rename_i y18001 quo18002 rem18003 s18004 yn18005 yn18006 un18007 q18008 rhat18009 un18010 q18011
  exact loop_one hI (sh := z51.l2b8sh) (so := z51.l2b8sh) (F := fun R rec done x => z51.l2b8P yn18005 yn18006 un18007 rec done x) (enc := fun (x' : (Int × Int)) => fillSt z51.l2b8sh [.i y18001, .i quo18002, .i rem18003, .i s18004, .i yn18005, .i yn18006, .i un18007, .i q18008, .i x'.1, .i un18010, .i x'.2]) [8, 10] [8, 10] (rhat18009, q18011) (by kernel_rfl) (by kernel_rfl) (fun x => by kernel_rfl) (fun o => by kernel_rfl) fun R k d x' => z51.l2b8_link R k d y18001 quo18002 rem18003 s18004 yn18005 yn18006 un18007 q18008 (x'.1) un18010 (x'.2)
theorem fun261 : FunOK Tryz.prog 261 Tryz.f261 (ifun Tryz.f261).body := ⟨Tryz.func261, rfl, by kernel_rfl⟩
theorem once261 : loopsOnce (ifun Tryz.f261).body = true := by kernel_rfl
theorem z51.loopsT (hI : InlOK Tryz.prog z51.C fun R => z51.C.inlK 6) : LoopsOK z51.C (fun R => z51.C.inlK 6) 261 0 (ifun Tryz.f261).body := by
  intro id b hm st p hp
  obtain rfl := loopsOnce_mem once261 hm
  unfold z51.C at hp
  simp only at hp
  try split at hp
  all_goals first
    | (simp at hp; done)
    | (exfalso; omega)
    | exact z51.l0b8_sound hI st p hp
    | exact z51.l2b8_sound hI st p hp
theorem z51.hdec : DecOK z51.dec z51.enc := by
  intro v r h
  unfold z51.dec at h; split at h <;> cases h
  exact ⟨rfl, rfl⟩
theorem z51.sound (vs : List V) (p : Pack) (h : z51.pack vs = some p) : SoundC Tryz.prog 261 vs p := by
  unfold z51.pack at h; split at h <;> cases h
  exact loops_sound tab_ok mixed_ok rfl rfl rfl (fun g vs p h => by unfold z51.C at h; simp only at h; split at h; exact z50.sound vs p h; simp at h) fun261 z51.loopsT rfl (z51.link _ _ _) z51.hdec
theorem z52.l0_sound (hI : InlOK Tryz.prog z52.C fun R => z52.C.inlK 6) : LoopS z52.C 6 224 0 0 (loopAt 0 (ifun Tryz.f224).body) z52.l0sh z52.l0pack := by
  refine loopS fun ls p h => ?_
  unfold z52.l0pack at h; split at h <;> cases h
  rename_i l1001 d1002 t1003 rest1004 i1005 s1006 s1007
  exact loop_one hI (sh := z52.l0sh) (so := z52.l0sh) (F := fun R rec done x => z52.l0P l1001 d1002 rec done x) (enc := fun (x' : (Int × Int × (List Int))) => fillSt z52.l0sh [.li l1001, .i d1002, .i t1003, .i x'.1, .i x'.2.1, .li s1006, .li x'.2.2]) [3, 4, 6] [3, 4, 6] (rest1004, i1005, s1007) (by kernel_rfl) (by kernel_rfl) (fun x => by kernel_rfl) (fun o => by kernel_rfl) fun R k d x' => z52.l0_link R k d l1001 d1002 t1003 (x'.1) (x'.2.1) s1006 (x'.2.2)
theorem fun224 : FunOK Tryz.prog 224 Tryz.f224 (ifun Tryz.f224).body := ⟨Tryz.func224, rfl, by kernel_rfl⟩
theorem once224 : loopsOnce (ifun Tryz.f224).body = true := by kernel_rfl
theorem z52.loopsT (hI : InlOK Tryz.prog z52.C fun R => z52.C.inlK 6) : LoopsOK z52.C (fun R => z52.C.inlK 6) 224 0 (ifun Tryz.f224).body := by
  intro id b hm st p hp
  obtain rfl := loopsOnce_mem once224 hm
  unfold z52.C at hp
  simp only at hp
  try split at hp
  all_goals first
    | (simp at hp; done)
    | (exfalso; omega)
    | exact z52.l0_sound hI st p hp
theorem z52.hdec : DecOK z52.dec z52.enc := by
  intro v r h
  unfold z52.dec at h; split at h <;> cases h
  exact ⟨rfl, rfl⟩
theorem z52.sound (vs : List V) (p : Pack) (h : z52.pack vs = some p) : SoundC Tryz.prog 224 vs p := by
  unfold z52.pack at h; split at h <;> cases h
  exact loops_sound tab_ok mixed_ok rfl rfl rfl (fun g vs p h => by unfold z52.C at h; simp only at h; split at h; exact z51.sound vs p h; simp at h) fun224 z52.loopsT rfl (z52.link _ _) z52.hdec
theorem fun162 : FunOK Tryz.prog 162 Tryz.f162 (ifun Tryz.f162).body := ⟨Tryz.func162, rfl, by kernel_rfl⟩
theorem z53.hdec : DecOK z53.dec z53.enc := by
  intro v r h
  unfold z53.dec at h; split at h <;> cases h
  exact ⟨rfl, rfl⟩
theorem z53.sound (vs : List V) (p : Pack) (h : z53.pack vs = some p) : SoundC Tryz.prog 162 vs p := by
  unfold z53.pack at h; split at h <;> cases h
  exact plain_sound tab_ok mixed_ok rfl rfl rfl rfl (fun g vs p h => by unfold z53.C at h; simp only at h; split at h; exact z7.sound vs p h; exact z17.sound vs p h; exact z48.sound vs p h; exact z52.sound vs p h; exact z26.sound vs p h; exact z5.sound vs p h; simp at h) fun162 rfl (z53.link _ _) z53.hdec
theorem z54.l0_sound (hI : InlOK Tryz.prog z54.C fun R => z54.C.inlK 6) : LoopS z54.C 6 226 0 0 (loopAt 0 (ifun Tryz.f226).body) z54.l0sh z54.l0pack := by
  refine loopS fun ls p h => ?_
  unfold z54.l0pack at h; split at h <;> cases h
  rename_i s1001 s1002 s1003
  exact loop_one hI (sh := z54.l0sh) (so := z54.l0sh) (F := fun R rec done x => z54.l0P  rec done x) (enc := fun (x' : ((List Int) × (List Int))) => fillSt z54.l0sh [.li x'.1, .li x'.2, .li s1003]) [0, 1] [0, 1] (s1001, s1002) (by kernel_rfl) (by kernel_rfl) (fun x => by kernel_rfl) (fun o => by kernel_rfl) fun R k d x' => z54.l0_link R k d (x'.1) (x'.2) s1003
theorem fun226 : FunOK Tryz.prog 226 Tryz.f226 (ifun Tryz.f226).body := ⟨Tryz.func226, rfl, by kernel_rfl⟩
theorem once226 : loopsOnce (ifun Tryz.f226).body = true := by kernel_rfl
theorem z54.loopsT (hI : InlOK Tryz.prog z54.C fun R => z54.C.inlK 6) : LoopsOK z54.C (fun R => z54.C.inlK 6) 226 0 (ifun Tryz.f226).body := by
  intro id b hm st p hp
  obtain rfl := loopsOnce_mem once226 hm
  unfold z54.C at hp
  simp only at hp
  try split at hp
  all_goals first
    | (simp at hp; done)
    | (exfalso; omega)
    | exact z54.l0_sound hI st p hp
theorem z54.hdec : DecOK z54.dec z54.enc := by
  intro v r h
  unfold z54.dec at h; split at h <;> cases h
  exact ⟨rfl, rfl⟩
theorem z54.sound (vs : List V) (p : Pack) (h : z54.pack vs = some p) : SoundC Tryz.prog 226 vs p := by
  unfold z54.pack at h; split at h <;> cases h
  exact loops_sound tab_ok mixed_ok rfl rfl rfl (fun g vs p h => by unfold z54.C at h; simp only at h; split at h; exact z7.sound vs p h; exact z53.sound vs p h; simp at h) fun226 z54.loopsT rfl (z54.link _ _) z54.hdec
theorem fun163 : FunOK Tryz.prog 163 Tryz.f163 (ifun Tryz.f163).body := ⟨Tryz.func163, rfl, by kernel_rfl⟩
theorem z55.hdec : DecOK z55.dec z55.enc := by
  intro v r h
  unfold z55.dec at h; split at h <;> cases h
  exact ⟨rfl, rfl⟩
theorem z55.sound (vs : List V) (p : Pack) (h : z55.pack vs = some p) : SoundC Tryz.prog 163 vs p := by
  unfold z55.pack at h; split at h <;> cases h
  exact plain_sound tab_ok mixed_ok rfl rfl rfl rfl (fun g vs p h => by unfold z55.C at h; simp only at h; split at h; exact z47.sound vs p h; exact z54.sound vs p h; exact z53.sound vs p h; exact z26.sound vs p h; exact z18.sound vs p h; exact z8.sound vs p h; exact z9.sound vs p h; simp at h) fun163 rfl (z55.link _ _ _) z55.hdec
theorem fun176 : FunOK Tryz.prog 176 Tryz.f176 (ifun Tryz.f176).body := ⟨Tryz.func176, rfl, by kernel_rfl⟩
theorem z56.hdec : DecOK z56.dec z56.enc := by
  intro v r h
  unfold z56.dec at h; split at h <;> cases h
  exact ⟨rfl, rfl⟩
theorem z56.sound (vs : List V) (p : Pack) (h : z56.pack vs = some p) : SoundC Tryz.prog 176 vs p := by
  unfold z56.pack at h; split at h <;> cases h
  exact plain_sound tab_ok mixed_ok rfl rfl rfl rfl (fun g vs p h => by unfold z56.C at h; simp only at h; split at h; exact z8.sound vs p h; exact z20.sound vs p h; exact z47.sound vs p h; exact z55.sound vs p h; simp at h) fun176 rfl (z56.link _ _ _ _) z56.hdec
theorem fun123 : FunOK Tryz.prog 123 Tryz.f123 (ifun Tryz.f123).body := ⟨Tryz.func123, rfl, by kernel_rfl⟩
theorem z57.hdec : DecOK z57.dec z57.enc := by
  intro v r h
  unfold z57.dec at h; split at h <;> cases h
  exact ⟨rfl, rfl⟩
theorem z57.sound (vs : List V) (p : Pack) (h : z57.pack vs = some p) : SoundC Tryz.prog 123 vs p := by
  unfold z57.pack at h; split at h <;> cases h
  exact plain_sound tab_ok mixed_ok rfl rfl rfl rfl (fun g vs p h => by unfold z57.C at h; simp only at h; split at h; exact z43.sound vs p h; exact z56.sound vs p h; simp at h) fun123 rfl (z57.link _ _ _) z57.hdec
theorem fun130 : FunOK Tryz.prog 130 Tryz.f130 (ifun Tryz.f130).body := ⟨Tryz.func130, rfl, by kernel_rfl⟩
theorem z58.hdec : DecOK z58.dec z58.enc := by
  intro v r h
  unfold z58.dec at h; split at h <;> cases h
  exact ⟨rfl, rfl⟩
theorem z58.sound (vs : List V) (p : Pack) (h : z58.pack vs = some p) : SoundC Tryz.prog 130 vs p := by
  unfold z58.pack at h; split at h <;> cases h
  exact plain_sound tab_ok mixed_ok rfl rfl rfl rfl (fun g vs p h => by unfold z58.C at h; simp only at h; split at h; exact z26.sound vs p h; exact z12.sound vs p h; simp at h) fun130 rfl (z58.link _ _ _) z58.hdec
theorem fun157 : FunOK Tryz.prog 157 Tryz.f157 (ifun Tryz.f157).body := ⟨Tryz.func157, rfl, by kernel_rfl⟩
theorem z59.hdec : DecOK z59.dec z59.enc := by
  intro v r h
  unfold z59.dec at h; split at h <;> cases h
  exact ⟨rfl, rfl⟩
theorem z59.sound (vs : List V) (p : Pack) (h : z59.pack vs = some p) : SoundC Tryz.prog 157 vs p := by
  unfold z59.pack at h; split at h <;> cases h
  exact plain_sound tab_ok mixed_ok rfl rfl rfl rfl (fun g vs p h => by unfold z59.C at h; simp only at h; split at h; exact z58.sound vs p h; exact z9.sound vs p h; simp at h) fun157 rfl (z59.link _ _ _) z59.hdec
theorem fun124 : FunOK Tryz.prog 124 Tryz.f124 (ifun Tryz.f124).body := ⟨Tryz.func124, rfl, by kernel_rfl⟩
theorem z60.hdec : DecOK z60.dec z60.enc := by
  intro v r h
  unfold z60.dec at h; split at h <;> cases h
  exact ⟨rfl, rfl⟩
theorem z60.sound (vs : List V) (p : Pack) (h : z60.pack vs = some p) : SoundC Tryz.prog 124 vs p := by
  unfold z60.pack at h; split at h <;> cases h
  exact plain_sound tab_ok mixed_ok rfl rfl rfl rfl (fun g vs p h => by unfold z60.C at h; simp only at h; split at h; exact z59.sound vs p h; exact z42.sound vs p h; exact z56.sound vs p h; simp at h) fun124 rfl (z60.link _ _ _ _ _ _) z60.hdec
theorem fun38 : FunOK Tryz.prog 38 Tryz.f38 (ifun Tryz.f38).body := ⟨Tryz.func38, rfl, by kernel_rfl⟩
theorem z61.hdec : DecOK z61.dec z61.enc := by
  intro v r h
  unfold z61.dec at h; split at h <;> cases h
  exact ⟨rfl, rfl⟩
theorem z61.sound (vs : List V) (p : Pack) (h : z61.pack vs = some p) : SoundC Tryz.prog 38 vs p := by
  unfold z61.pack at h; split at h <;> cases h
  exact plain_sound tab_ok mixed_ok rfl rfl rfl rfl (fun g vs p h => by unfold z61.C at h; simp only at h; split at h; exact z38.sound vs p h; exact z36.sound vs p h; exact z40.sound vs p h; exact z41.sound vs p h; exact z8.sound vs p h; exact z45.sound vs p h; exact z46.sound vs p h; exact z57.sound vs p h; exact z35.sound vs p h; exact z60.sound vs p h; simp at h) fun38 rfl (z61.link _) z61.hdec
theorem fun137 : FunOK Tryz.prog 137 Tryz.f137 (ifun Tryz.f137).body := ⟨Tryz.func137, rfl, by kernel_rfl⟩
theorem z62.hdec : DecOK z62.dec z62.enc := by
  intro v r h
  unfold z62.dec at h; split at h <;> cases h
  exact ⟨rfl, rfl⟩
theorem z62.sound (vs : List V) (p : Pack) (h : z62.pack vs = some p) : SoundC Tryz.prog 137 vs p := by
  unfold z62.pack at h; split at h <;> cases h
  exact plain_sound tab_ok mixed_ok rfl rfl rfl rfl (fun g vs p h => by simp [z62.C] at h) fun137 rfl z62.link z62.hdec
theorem fun47 : FunOK Tryz.prog 47 Tryz.f47 (ifun Tryz.f47).body := ⟨Tryz.func47, rfl, by kernel_rfl⟩
theorem z63.hdec : DecOK z63.dec z63.enc := by
  intro v r h
  unfold z63.dec at h; split at h <;> cases h
  exact ⟨rfl, rfl⟩
theorem z63.sound (vs : List V) (p : Pack) (h : z63.pack vs = some p) : SoundC Tryz.prog 47 vs p := by
  unfold z63.pack at h; split at h <;> cases h
  exact plain_sound tab_ok mixed_ok rfl rfl rfl rfl (fun g vs p h => by unfold z63.C at h; simp only at h; split at h; exact z62.sound vs p h; simp at h) fun47 rfl (z63.link _) z63.hdec
theorem fun214 : FunOK Tryz.prog 214 Tryz.f214 (ifun Tryz.f214).body := ⟨Tryz.func214, rfl, by kernel_rfl⟩
theorem z64.hdec : DecOK z64.dec z64.enc := by
  intro v r h
  unfold z64.dec at h; split at h <;> cases h
  exact ⟨rfl, rfl⟩
theorem z64.sound (vs : List V) (p : Pack) (h : z64.pack vs = some p) : SoundC Tryz.prog 214 vs p := by
  unfold z64.pack at h; split at h <;> cases h
  exact plain_sound tab_ok mixed_ok rfl rfl rfl rfl (fun g vs p h => by simp [z64.C] at h) fun214 rfl (z64.link _) z64.hdec
theorem fun215 : FunOK Tryz.prog 215 Tryz.f215 (ifun Tryz.f215).body := ⟨Tryz.func215, rfl, by kernel_rfl⟩
theorem z65.hdec : DecOK z65.dec z65.enc := by
  intro v r h
  unfold z65.dec at h; split at h <;> cases h
  exact ⟨rfl, rfl⟩
theorem z65.sound (vs : List V) (p : Pack) (h : z65.pack vs = some p) : SoundC Tryz.prog 215 vs p := by
  unfold z65.pack at h; split at h <;> cases h
  exact plain_sound tab_ok mixed_ok rfl rfl rfl rfl (fun g vs p h => by simp [z65.C] at h) fun215 rfl z65.link z65.hdec
theorem fun149 : FunOK Tryz.prog 149 Tryz.f149 (ifun Tryz.f149).body := ⟨Tryz.func149, rfl, by kernel_rfl⟩
theorem z66.hdec : DecOK z66.dec z66.enc := by
  intro v r h
  unfold z66.dec at h; split at h <;> cases h
  exact ⟨rfl, rfl⟩
theorem z66.sound (vs : List V) (p : Pack) (h : z66.pack vs = some p) : SoundC Tryz.prog 149 vs p := by
  unfold z66.pack at h; split at h <;> cases h
  exact plain_sound tab_ok mixed_ok rfl rfl rfl rfl (fun g vs p h => by unfold z66.C at h; simp only at h; split at h; exact z64.sound vs p h; exact z65.sound vs p h; simp at h) fun149 rfl (z66.link _) z66.hdec
theorem fun228 : FunOK Tryz.prog 228 Tryz.f228 (ifun Tryz.f228).body := ⟨Tryz.func228, rfl, by kernel_rfl⟩
theorem z67.hdec : DecOK z67.dec z67.enc := by
  intro v r h
  unfold z67.dec at h; split at h <;> cases h
  exact ⟨rfl, rfl⟩
theorem z67.sound (vs : List V) (p : Pack) (h : z67.pack vs = some p) : SoundC Tryz.prog 228 vs p := by
  unfold z67.pack at h; split at h <;> cases h
  exact plain_sound tab_ok mixed_ok rfl rfl rfl rfl (fun g vs p h => by simp [z67.C] at h) fun228 rfl (z67.link _) z67.hdec
theorem fun257 : FunOK Tryz.prog 257 Tryz.f257 (ifun Tryz.f257).body := ⟨Tryz.func257, rfl, by kernel_rfl⟩
theorem z68.hdec : DecOK z68.dec z68.enc := by
  intro v r h
  unfold z68.dec at h; split at h <;> cases h
  exact ⟨rfl, rfl⟩
theorem z68.sound (vs : List V) (p : Pack) (h : z68.pack vs = some p) : SoundC Tryz.prog 257 vs p := by
  unfold z68.pack at h; split at h <;> cases h
  exact plain_sound tab_ok mixed_ok rfl rfl rfl rfl (fun g vs p h => by simp [z68.C] at h) fun257 rfl z68.link z68.hdec
theorem fun209 : FunOK Tryz.prog 209 Tryz.f209 (ifun Tryz.f209).body := ⟨Tryz.func209, rfl, by kernel_rfl⟩
theorem z69.hdec : DecOK z69.dec z69.enc := by
  intro v r h
  unfold z69.dec at h; split at h <;> cases h
  exact ⟨rfl, rfl⟩
theorem z69.sound (vs : List V) (p : Pack) (h : z69.pack vs = some p) : SoundC Tryz.prog 209 vs p := by
  unfold z69.pack at h; split at h <;> cases h
  exact plain_sound tab_ok mixed_ok rfl rfl rfl rfl (fun g vs p h => by unfold z69.C at h; simp only at h; split at h; exact z67.sound vs p h; exact z68.sound vs p h; simp at h) fun209 rfl (z69.link _) z69.hdec
theorem fun133 : FunOK Tryz.prog 133 Tryz.f133 (ifun Tryz.f133).body := ⟨Tryz.func133, rfl, by kernel_rfl⟩
theorem z70.hdec : DecOK z70.dec z70.enc := by
  intro v r h
  unfold z70.dec at h; split at h <;> cases h
  exact ⟨rfl, rfl⟩
theorem z70.sound (vs : List V) (p : Pack) (h : z70.pack vs = some p) : SoundC Tryz.prog 133 vs p := by
  unfold z70.pack at h; split at h <;> cases h
  exact plain_sound tab_ok mixed_ok rfl rfl rfl rfl (fun g vs p h => by unfold z70.C at h; simp only at h; split at h; exact z63.sound vs p h; exact z69.sound vs p h; exact z66.sound vs p h; simp at h) fun133 rfl (z70.link _ _ _ _ _ _ _ _ _ _) z70.hdec
theorem fun258 : FunOK Tryz.prog 258 Tryz.f258 (ifun Tryz.f258).body := ⟨Tryz.func258, rfl, by kernel_rfl⟩
theorem z71.hdec : DecOK z71.dec z71.enc := by
  intro v r h
  unfold z71.dec at h; split at h <;> cases h
  exact ⟨rfl, rfl⟩
theorem z71.sound (vs : List V) (p : Pack) (h : z71.pack vs = some p) : SoundC Tryz.prog 258 vs p := by
  unfold z71.pack at h; split at h <;> cases h
  exact plain_sound tab_ok mixed_ok rfl rfl rfl rfl (fun g vs p h => by simp [z71.C] at h) fun258 rfl (z71.link _) z71.hdec
theorem fun259 : FunOK Tryz.prog 259 Tryz.f259 (ifun Tryz.f259).body := ⟨Tryz.func259, rfl, by kernel_rfl⟩
theorem z72.hdec : DecOK z72.dec z72.enc := by
  intro v r h
  unfold z72.dec at h; split at h <;> cases h
  exact ⟨rfl, rfl⟩
theorem z72.sound (vs : List V) (p : Pack) (h : z72.pack vs = some p) : SoundC Tryz.prog 259 vs p := by
  unfold z72.pack at h; split at h <;> cases h
  exact plain_sound tab_ok mixed_ok rfl rfl rfl rfl (fun g vs p h => by unfold z72.C at h; simp only at h; split at h; exact z71.sound vs p h; simp at h) fun259 rfl (z72.link _) z72.hdec
theorem fun210 : FunOK Tryz.prog 210 Tryz.f210 (ifun Tryz.f210).body := ⟨Tryz.func210, rfl, by kernel_rfl⟩
theorem z73.hdec : DecOK z73.dec z73.enc := by
  intro v r h
  unfold z73.dec at h; split at h <;> cases h
  exact ⟨rfl, rfl⟩
theorem z73.sound (vs : List V) (p : Pack) (h : z73.pack vs = some p) : SoundC Tryz.prog 210 vs p := by
  unfold z73.pack at h; split at h <;> cases h
  exact plain_sound tab_ok mixed_ok rfl rfl rfl rfl (fun g vs p h => by unfold z73.C at h; simp only at h; split at h; exact z71.sound vs p h; exact z72.sound vs p h; simp at h) fun210 rfl (z73.link _ _) z73.hdec
theorem fun142 : FunOK Tryz.prog 142 Tryz.f142 (ifun Tryz.f142).body := ⟨Tryz.func142, rfl, by kernel_rfl⟩
theorem z74.hdec : DecOK z74.dec z74.enc := by
  intro v r h
  unfold z74.dec at h; split at h <;> cases h
  exact ⟨rfl, rfl⟩
theorem z74.sound (vs : List V) (p : Pack) (h : z74.pack vs = some p) : SoundC Tryz.prog 142 vs p := by
  unfold z74.pack at h; split at h <;> cases h
  exact plain_sound tab_ok mixed_ok rfl rfl rfl rfl (fun g vs p h => by unfold z74.C at h; simp only at h; split at h; exact z73.sound vs p h; simp at h) fun142 rfl (z74.link _ _ _) z74.hdec
theorem fun134 : FunOK Tryz.prog 134 Tryz.f134 (ifun Tryz.f134).body := ⟨Tryz.func134, rfl, by kernel_rfl⟩
theorem z75.hdec : DecOK z75.dec z75.enc := by
  intro v r h
  unfold z75.dec at h; split at h <;> cases h
  exact ⟨rfl, rfl⟩
theorem z75.sound (vs : List V) (p : Pack) (h : z75.pack vs = some p) : SoundC Tryz.prog 134 vs p := by
  unfold z75.pack at h; split at h <;> cases h
  exact plain_sound tab_ok mixed_ok rfl rfl rfl rfl (fun g vs p h => by unfold z75.C at h; simp only at h; split at h; exact z74.sound vs p h; exact z73.sound vs p h; simp at h) fun134 rfl (z75.link _ _ _ _) z75.hdec
theorem fun44 : FunOK Tryz.prog 44 Tryz.f44 (ifun Tryz.f44).body := ⟨Tryz.func44, rfl, by kernel_rfl⟩
theorem z76.hdec : DecOK z76.dec z76.enc := by
  intro v r h
  unfold z76.dec at h; split at h <;> cases h
  exact ⟨rfl, rfl⟩
theorem z76.sound (vs : List V) (p : Pack) (h : z76.pack vs = some p) : SoundC Tryz.prog 44 vs p := by
  unfold z76.pack at h; split at h <;> cases h
  exact plain_sound tab_ok mixed_ok rfl rfl rfl rfl (fun g vs p h => by unfold z76.C at h; simp only at h; split at h; exact z34.sound vs p h; exact z8.sound vs p h; exact z61.sound vs p h; exact z70.sound vs p h; exact z75.sound vs p h; simp at h) fun44 rfl (z76.link _ _ _ _ _ _ _ _ _ _) z76.hdec
theorem z77.l0b4_sound (hI : InlOK Tryz.prog z77.C fun R => z77.C.inlK 6) : LoopS z77.C 6 189 0 0 (loopAt 0 (ifun Tryz.f189).body) z77.l0b4sh z77.l0b4pack := by
  refine loopS fun ls p h => ?_
  unfold z77.l0b4pack at h; split at h <;> cases h
  rename_i n5001 length5002 t5003 i5004 s5005
  exact loop_one hI (sh := z77.l0b4sh) (so := z77.l0b4sh) (F := fun R rec done x => z77.l0b4P length5002 rec done x) (enc := fun (x' : (Int × Int × (List Int))) => fillSt z77.l0b4sh [.i x'.1, .i length5002, .s t5003, .i x'.2.1, .li x'.2.2]) [0, 3, 4] [0, 3, 4] (n5001, i5004, s5005) (by kernel_rfl) (by kernel_rfl) (fun x => by kernel_rfl) (fun o => by kernel_rfl) fun R k d x' => z77.l0b4_link R k d (x'.1) length5002 t5003 (x'.2.1) (x'.2.2)
theorem fun189 : FunOK Tryz.prog 189 Tryz.f189 (ifun Tryz.f189).body := ⟨Tryz.func189, rfl, by kernel_rfl⟩
theorem once189 : loopsOnce (ifun Tryz.f189).body = true := by kernel_rfl
theorem z77.loopsT (hI : InlOK Tryz.prog z77.C fun R => z77.C.inlK 6) : LoopsOK z77.C (fun R => z77.C.inlK 6) 189 0 (ifun Tryz.f189).body := by
  intro id b hm st p hp
  obtain rfl := loopsOnce_mem once189 hm
  unfold z77.C at hp
  simp only at hp
  try split at hp
  all_goals first
    | (simp at hp; done)
    | (exfalso; omega)
    | exact z77.l0b4_sound hI st p hp
theorem z77.hdec : DecOK z77.dec z77.enc := by
  intro v r h
  unfold z77.dec at h; split at h <;> cases h
  exact ⟨rfl, rfl⟩
theorem z77.sound (vs : List V) (p : Pack) (h : z77.pack vs = some p) : SoundC Tryz.prog 189 vs p := by
  unfold z77.pack at h; split at h <;> cases h
  exact loops_sound tab_ok mixed_ok rfl rfl rfl (fun g vs p h => by simp [z77.C] at h) fun189 z77.loopsT rfl (z77.link _ _) z77.hdec
theorem z78.l2_sound (hI : InlOK Tryz.prog z78.C fun R => z78.C.inlK 6) : LoopS z78.C 6 101 2 0 (loopAt 2 (ifun Tryz.f101).body) z78.l2sh z78.l2pack := by
  refine loopS fun ls p h => ?_
  unfold z78.l2pack at h; split at h <;> cases h
  rename_i t2001 low2002 t2003 t2004 t2005 s2006 s2007 s2008
  exact loop_one hI (sh := z78.l2sh) (so := z78.l2sh) (F := fun R rec done x => z78.l2P t2003 t2004 rec done x) (enc := fun (x' : (Int × Int)) => fillSt z78.l2sh [.s t2001, .i x'.1, .li t2003, .i t2004, .i x'.2, .li s2006, .ls s2007, .li s2008]) [1, 4] [1, 4] (low2002, t2005) (by kernel_rfl) (by kernel_rfl) (fun x => by kernel_rfl) (fun o => by kernel_rfl) fun R k d x' => z78.l2_link R k d t2001 (x'.1) t2003 t2004 (x'.2) s2006 s2007 s2008
theorem z78.l0_sound (hI : InlOK Tryz.prog z78.C fun R => z78.C.inlK 6) : LoopS z78.C 6 101 0 0 (loopAt 0 (ifun Tryz.f101).body) z78.l0sh z78.l0pack := by
  refine loopS fun ls p h => ?_
  unfold z78.l0pack at h; split at h <;> cases h
  rename_i t1001 s1002 s1003
  exact loop_one hI (sh := z78.l0sh) (so := z78.l0sh) (F := fun R rec done x => z78.l0P  rec done x) (enc := fun (x' : ((List Int) × (List (List UInt8)))) => fillSt z78.l0sh [.s t1001, .li x'.1, .ls x'.2]) [1, 2] [1, 2] (s1002, s1003) (by kernel_rfl) (by kernel_rfl) (fun x => by kernel_rfl) (fun o => by kernel_rfl) fun R k d x' => z78.l0_link R k d t1001 (x'.1) (x'.2)
theorem z78.l4_sound (hI : InlOK Tryz.prog z78.C fun R => z78.C.inlK 6) : LoopS z78.C 6 101 4 0 (loopAt 4 (ifun Tryz.f101).body) z78.l4sh z78.l4pack := by
  refine loopS fun ls p h => ?_
  unfold z78.l4pack at h; split at h <;> cases h
  rename_i t3001 i3002 s3003 s3004
  exact loop_one hI (sh := z78.l4sh) (so := z78.l4sh) (F := fun R rec done x => z78.l4P s3003 rec done x) (enc := fun (x' : (Int × (List Int))) => fillSt z78.l4sh [.s t3001, .i x'.1, .ls s3003, .li x'.2]) [1, 3] [1, 3] (i3002, s3004) (by kernel_rfl) (by kernel_rfl) (fun x => by kernel_rfl) (fun o => by kernel_rfl) fun R k d x' => z78.l4_link R k d t3001 (x'.1) s3003 (x'.2)
theorem fun101 : FunOK Tryz.prog 101 Tryz.f101 (ifun Tryz.f101).body := ⟨Tryz.func101, rfl, by kernel_rfl⟩
theorem once101 : loopsOnce (ifun Tryz.f101).body = true := by kernel_rfl
theorem fun191 : FunOK Tryz.prog 191 Tryz.f191 (ifun Tryz.f191).body := ⟨Tryz.func191, rfl, by kernel_rfl⟩
theorem fun190 : FunOK Tryz.prog 190 Tryz.f190 (ifun Tryz.f190).body := ⟨Tryz.func190, rfl, by kernel_rfl⟩
theorem z78.loopsT (hI : InlOK Tryz.prog z78.C fun R => z78.C.inlK 6) : LoopsOK z78.C (fun R => z78.C.inlK 6) 101 0 (ifun Tryz.f101).body := by
  intro id b hm st p hp
  obtain rfl := loopsOnce_mem once101 hm
  unfold z78.C at hp
  simp only at hp
  try split at hp
  all_goals first
    | (simp at hp; done)
    | (exfalso; omega)
    | exact z78.l2_sound hI st p hp
    | exact z78.l0_sound hI st p hp
    | exact z78.l4_sound hI st p hp
theorem z78.loops191 (hI : InlOK Tryz.prog z78.C fun R => z78.C.inlK 0) (base : Nat) : LoopsOK z78.C (fun R => z78.C.inlK 0) 191 base (ifun Tryz.f191).body := by
  intro id b hm st p hp
  exfalso
  unfold z78.C at hp
  simp only at hp
  try split at hp
  all_goals first | (simp at hp; done) | omega
theorem z78.loops190 (hI : InlOK Tryz.prog z78.C fun R => z78.C.inlK 1) (base : Nat) : LoopsOK z78.C (fun R => z78.C.inlK 1) 190 base (ifun Tryz.f190).body := by
  intro id b hm st p hp
  exfalso
  unfold z78.C at hp
  simp only at hp
  try split at hp
  all_goals first | (simp at hp; done) | omega
theorem prim246 : SoundP Tryz.prog 246 (copyP 274) := copy_prim
theorem z78.inlF : InlF Tryz.prog z78.C where
  prim g h hp := by
    unfold z78.C at hp; simp only at hp; split at hp
    · simp only [Option.some.injEq] at hp; subst hp; exact prim246
    · simp at hp
  fn g fn h := by
    unfold z78.C at h; simp only at h; split at h
    · simp only [Option.some.injEq] at h; subst h; exact ⟨_, _, fun191, rfl⟩
    · simp only [Option.some.injEq] at h; subst h; exact ⟨_, _, fun190, rfl⟩
    · simp at h
  loops g fn h := by
    unfold z78.C at h; simp only at h; split at h
    · simp only [Option.some.injEq] at h; subst h; exact fun hI base => z78.loops191 hI base
    · simp only [Option.some.injEq] at h; subst h; exact fun hI base => z78.loops190 hI base
    · simp at h
theorem z78.hdec : DecOK z78.dec z78.enc := by
  intro v r h
  unfold z78.dec at h; split at h <;> cases h
  exact ⟨rfl, rfl⟩
theorem z78.sound (vs : List V) (p : Pack) (h : z78.pack vs = some p) : SoundC Tryz.prog 101 vs p := by
  unfold z78.pack at h; split at h <;> cases h
  exact full_sound tab_ok mixed_ok rfl (fun g vs p h => by unfold z78.C at h; simp only at h; split at h; exact z7.sound vs p h; exact z26.sound vs p h; exact z53.sound vs p h; exact z48.sound vs p h; exact z77.sound vs p h; simp at h) z78.inlF fun101 z78.loopsT rfl (z78.link _) z78.hdec
theorem fun25 : FunOK Tryz.prog 25 Tryz.f25 (ifun Tryz.f25).body := ⟨Tryz.func25, rfl, by kernel_rfl⟩
theorem z79.hdec : DecOK z79.dec z79.enc := by
  intro v r h
  unfold z79.dec at h; split at h <;> cases h
  exact ⟨rfl, rfl⟩
theorem z79.sound (vs : List V) (p : Pack) (h : z79.pack vs = some p) : SoundC Tryz.prog 25 vs p := by
  unfold z79.pack at h; split at h <;> cases h
  exact plain_sound tab_ok mixed_ok rfl rfl rfl rfl (fun g vs p h => by unfold z79.C at h; simp only at h; split at h; exact z78.sound vs p h; simp at h) fun25 rfl (z79.link _ _) z79.hdec
theorem fun41 : FunOK Tryz.prog 41 Tryz.f41 (ifun Tryz.f41).body := ⟨Tryz.func41, rfl, by kernel_rfl⟩
theorem z80.hdec : DecOK z80.dec z80.enc := by
  intro v r h
  unfold z80.dec at h; split at h <;> cases h
  exact ⟨rfl, rfl⟩
theorem z80.sound (vs : List V) (p : Pack) (h : z80.pack vs = some p) : SoundC Tryz.prog 41 vs p := by
  unfold z80.pack at h; split at h <;> cases h
  exact plain_sound tab_ok mixed_ok rfl rfl rfl rfl (fun g vs p h => by unfold z80.C at h; simp only at h; split at h; exact z7.sound vs p h; exact z79.sound vs p h; exact z58.sound vs p h; exact z78.sound vs p h; simp at h) fun41 rfl (z80.link _ _ _) z80.hdec
theorem z81.l0_sound (hI : InlOK Tryz.prog z81.C fun R => z81.C.inlK 6) : LoopS z81.C 6 136 0 0 (loopAt 0 (ifun Tryz.f136).body) z81.l0sh z81.l0pack := by
  refine loopS fun ls p h => ?_
  unfold z81.l0pack at h; split at h <;> cases h
  rename_i s1001 v1002 t1003 t1004 t1005
  exact loop_two hI (sh := z81.l0sh) (so := z81.l0sh) (so' := z81.l0so1) (F := fun R rec done x => z81.l0P s1001 v1002 t1004 rec done x) (enc := fun (x' : Int) => fillSt z81.l0sh [.ls s1001, .s v1002, .i t1003, .i t1004, .i x']) (.exit 0) [4] [4] [0] t1005 (by kernel_rfl) (by kernel_rfl) (fun x => by kernel_rfl) (fun o => by kernel_rfl) (fun o => by kernel_rfl) fun R k d x' => z81.l0_link R k d s1001 v1002 t1003 t1004 (x')
theorem fun136 : FunOK Tryz.prog 136 Tryz.f136 (ifun Tryz.f136).body := ⟨Tryz.func136, rfl, by kernel_rfl⟩
theorem once136 : loopsOnce (ifun Tryz.f136).body = true := by kernel_rfl
theorem z81.loopsT (hI : InlOK Tryz.prog z81.C fun R => z81.C.inlK 6) : LoopsOK z81.C (fun R => z81.C.inlK 6) 136 0 (ifun Tryz.f136).body := by
  intro id b hm st p hp
  obtain rfl := loopsOnce_mem once136 hm
  unfold z81.C at hp
  simp only at hp
  try split at hp
  all_goals first
    | (simp at hp; done)
    | (exfalso; omega)
    | exact z81.l0_sound hI st p hp
theorem z81.hdec : DecOK z81.dec z81.enc := by
  intro v r h
  unfold z81.dec at h; split at h <;> cases h
  exact ⟨rfl, rfl⟩
theorem z81.sound (vs : List V) (p : Pack) (h : z81.pack vs = some p) : SoundC Tryz.prog 136 vs p := by
  unfold z81.pack at h; split at h <;> cases h
  exact loops_sound tab_ok mixed_ok rfl rfl rfl (fun g vs p h => by simp [z81.C] at h) fun136 z81.loopsT rfl (z81.link _ _) z81.hdec
theorem fun46 : FunOK Tryz.prog 46 Tryz.f46 (ifun Tryz.f46).body := ⟨Tryz.func46, rfl, by kernel_rfl⟩
theorem z82.hdec : DecOK z82.dec z82.enc := by
  intro v r h
  unfold z82.dec at h; split at h <;> cases h
  exact ⟨rfl, rfl⟩
theorem z82.sound (vs : List V) (p : Pack) (h : z82.pack vs = some p) : SoundC Tryz.prog 46 vs p := by
  unfold z82.pack at h; split at h <;> cases h
  exact plain_sound tab_ok mixed_ok rfl rfl rfl rfl (fun g vs p h => by unfold z82.C at h; simp only at h; split at h; exact z62.sound vs p h; exact z81.sound vs p h; simp at h) fun46 rfl (z82.link _) z82.hdec
theorem fun40 : FunOK Tryz.prog 40 Tryz.f40 (ifun Tryz.f40).body := ⟨Tryz.func40, rfl, by kernel_rfl⟩
theorem z83.hdec : DecOK z83.dec z83.enc := by
  intro v r h
  unfold z83.dec at h; split at h <;> cases h
  exact ⟨rfl, rfl⟩
theorem z83.sound (vs : List V) (p : Pack) (h : z83.pack vs = some p) : SoundC Tryz.prog 40 vs p := by
  unfold z83.pack at h; split at h <;> cases h
  exact plain_sound tab_ok mixed_ok rfl rfl rfl rfl (fun g vs p h => by unfold z83.C at h; simp only at h; split at h; exact z61.sound vs p h; exact z34.sound vs p h; exact z82.sound vs p h; exact z80.sound vs p h; exact z76.sound vs p h; simp at h) fun40 rfl z83.link z83.hdec
theorem z84.l0b6_sound (hI : InlOK Tryz.prog z84.C fun R => z84.C.inlK 6) : LoopS z84.C 6 7 0 0 (loopAt 0 (ifun Tryz.f7).body) z84.l0b6sh z84.l0b6pack := by
  refine loopS fun ls p h => ?_
  unfold z84.l0b6pack at h; split at h <;> cases h
  rename_i s7001 n7002 t7003 at7004 t7005 t7006 t7007
  exact loop_two hI (sh := z84.l0b6sh) (so := z84.l0b6sh) (so' := z84.l0b6so1) (F := fun R rec done x => z84.l0b6P s7001 t7005 t7006 rec done x) (enc := fun (x' : (Int × Int)) => fillSt z84.l0b6sh [.s s7001, .i n7002, .b t7003, .i x'.1, .ls t7005, .i t7006, .i x'.2]) (.exit 0) [3, 6] [3, 6] [0] (at7004, t7007) (by kernel_rfl) (by kernel_rfl) (fun x => by kernel_rfl) (fun o => by kernel_rfl) (fun o => by kernel_rfl) fun R k d x' => z84.l0b6_link R k d s7001 n7002 t7003 (x'.1) t7005 t7006 (x'.2)
theorem fun7 : FunOK Tryz.prog 7 Tryz.f7 (ifun Tryz.f7).body := ⟨Tryz.func7, rfl, by kernel_rfl⟩
theorem once7 : loopsOnce (ifun Tryz.f7).body = true := by kernel_rfl
theorem z84.loopsT (hI : InlOK Tryz.prog z84.C fun R => z84.C.inlK 6) : LoopsOK z84.C (fun R => z84.C.inlK 6) 7 0 (ifun Tryz.f7).body := by
  intro id b hm st p hp
  obtain rfl := loopsOnce_mem once7 hm
  unfold z84.C at hp
  simp only at hp
  try split at hp
  all_goals first
    | (simp at hp; done)
    | (exfalso; omega)
    | exact z84.l0b6_sound hI st p hp
theorem z84.hdec : DecOK z84.dec z84.enc := by
  intro v r h
  unfold z84.dec at h; split at h <;> cases h
  exact ⟨rfl, rfl⟩
theorem z84.sound (vs : List V) (p : Pack) (h : z84.pack vs = some p) : SoundC Tryz.prog 7 vs p := by
  unfold z84.pack at h; split at h <;> cases h
  exact loops_sound tab_ok mixed_ok rfl rfl rfl (fun g vs p h => by unfold z84.C at h; simp only at h; split at h; exact z82.sound vs p h; exact z63.sound vs p h; exact z83.sound vs p h; simp at h) fun7 z84.loopsT rfl (z84.link _ _) z84.hdec
end
end Go.Proofs.YtgjncgiekniniaaGreatDoor.A
end
section
set_option linter.unusedVariables false
set_option linter.unusedSimpArgs false
namespace Go.Proofs.YtgjncgiekniniaaGreatDoor.A
open Go Go.RowKit Go.ChangeShapes Go.WideShapes
noncomputable section
inductive SC where
  | b
  | i (k : IntKind)
  | s
inductive CT where
  | sc (c : SC)
  | sl (cs : List SC)
def scOf : CT → Option SC
  | .sc c => some c
  | _ => none
def scsOf : List CT → Option (List SC)
  | [] => some []
  | c :: l => (scOf c).bind fun x => (scsOf l).map (x :: ·)
def okS : SC → V → Prop
  | .b, v => ∃ x, v = .bool x
  | .i k, v => ∃ n, v = .int k n ∧ (Lit.int k n).wf = true
  | .s, v => ∃ l, v = .str l ∧ l.length ≤ maxLen
def okSL : List SC → List V → Prop
  | [], vs => vs = []
  | c :: cs, vs => ∃ v l, vs = v :: l ∧ okS c v ∧ okSL cs l
def okC : CT → V → Prop
  | .sc c, v => okS c v
  | .sl [.i k], v => ∃ l, v = .ints false k l ∧ (∀ n ∈ l, (Lit.int k n).wf = true) ∧ l.length ≤ maxLen
  | .sl [.s], v => ∃ l, v = .strs false l ∧ (∀ s ∈ l, s.length ≤ maxLen) ∧ l.length ≤ maxLen
  | .sl cs, v => ∃ l, v = .recs false cs.length l ∧ (∀ r ∈ l, okSL cs r) ∧ l.length ≤ maxLen
def okCL : List CT → List V → Prop
  | [], vs => vs = []
  | c :: cs, vs => ∃ v l, vs = v :: l ∧ okC c v ∧ okCL cs l
def ctsF (P : Program) (rec : TypeId → Option (List CT)) : Nat → List Field → Option (List CT)
  | _, [] => some []
  | off, f :: fs => if f.offset = off then (rec f.type).bind fun l => if P.cellsOf f.type = l.length then (ctsF P rec (off + l.length) fs).map (l ++ ·) else none else none
def ctsA (l : List CT) : Nat → List CT
  | 0 => []
  | n + 1 => l ++ ctsA l n
def cts (P : Program) : Nat → TypeId → Option (List CT)
  | 0, _ => none
  | n + 1, t =>
    match P.underlying t with
    | some .bool => some [.sc .b]
    | some (.int k) => some [.sc (.i k)]
    | some .string => some [.sc .s]
    | some (.struct fs) => (ctsF P (cts P n) 0 fs.toList).bind fun l => if P.cellsOf t = l.length then some l else none
    | some (.array m e) => (cts P n e).bind fun l => if P.cellsOf e = l.length ∧ P.cellsOf t = m * l.length then some (ctsA l m) else none
    | some (.slice e) => (cts P n e).bind fun l => (scsOf l).bind fun cs => if P.cellsOf e = cs.length ∧ 0 < cs.length then some [.sl cs] else none
    | _ => none
abbrev noO : Nat → Prop := fun _ => False
def cellR (W : World) (c : CT) (cv : Value) (v : V) : Prop := okC c v ∧ Rep0 noO W cv v ∧ cv.oneCell' = true
def cellsR (W : World) (l : List CT) (cs : List Value) (vs : List V) : Prop :=
  cs.length = l.length ∧ vs.length = l.length ∧ ∀ (j : Nat) (c : CT) (cv : Value) (v : V), l[j]? = some c → cs[j]? = some cv → vs[j]? = some v → cellR W c cv v
theorem cellsR_nil (W : World) : cellsR W [] [] [] := ⟨rfl, rfl, fun (j : Nat) c cv v h => by simp at h⟩
theorem cellsR_one {W : World} {c : CT} {cv : Value} {v : V} (h : cellR W c cv v) : cellsR W [c] [cv] [v] := by
  refine ⟨rfl, rfl, fun j c' cv' v' h1 h2 h3 => ?_⟩
  cases j with
  | zero => simp at h1 h2 h3; subst h1 h2 h3; exact h
  | succ j => simp at h1
theorem cellsR_append {W : World} {l l' : List CT} {cs cs' : List Value} {vs vs' : List V} (h : cellsR W l cs vs) (h' : cellsR W l' cs' vs') : cellsR W (l ++ l') (cs ++ cs') (vs ++ vs') := by
  obtain ⟨a1, a2, a3⟩ := h; obtain ⟨b1, b2, b3⟩ := h'
  refine ⟨by simp [a1, b1], by simp [a2, b2], fun j c cv v h1 h2 h3 => ?_⟩
  by_cases hj : j < l.length
  · rw [List.getElem?_append_left hj] at h1
    rw [List.getElem?_append_left (by omega)] at h2 h3
    exact a3 j c cv v h1 h2 h3
  · rw [List.getElem?_append_right (by omega)] at h1 h2 h3
    rw [a1] at h2; rw [a2] at h3
    exact b3 _ c cv v h1 h2 h3
theorem okCL_of {W : World} : ∀ {l : List CT} {cs : List Value} {vs : List V}, cellsR W l cs vs → okCL l vs
  | [], cs, vs, h => List.length_eq_zero_iff.1 h.2.1
  | c :: l, cs, vs, h => by
    obtain ⟨h1, h2, h3⟩ := h
    match cs, vs, h1, h2 with
    | cv :: cs, v :: vs, h1, h2 =>
      exact ⟨v, vs, rfl, (h3 0 c cv v rfl rfl rfl).1, okCL_of (cs := cs) ⟨by simpa using h1, by simpa using h2, fun j c' cv' v' a b d => h3 (j + 1) c' cv' v' (by simpa using a) (by simpa using b) (by simpa using d)⟩⟩
theorem okSL_of : ∀ {l : List CT} {ss : List SC} {vs : List V}, scsOf l = some ss → okCL l vs → okSL ss vs
  | [], ss, vs, h, hv => by simp [scsOf] at h; subst h; exact hv
  | c :: l, ss, vs, h, hv => by
    simp only [scsOf, Option.bind_eq_some_iff, Option.map_eq_some_iff] at h
    obtain ⟨x, hx, y, hy, rfl⟩ := h
    obtain ⟨v, r, rfl, h1, h2⟩ := hv
    refine ⟨v, r, rfl, ?_, okSL_of hy h2⟩
    cases c with
    | sc c => simp [scOf] at hx; subst hx; exact h1
    | sl _ => simp [scOf] at hx
theorem scsOf_len : ∀ {l : List CT} {ss : List SC}, scsOf l = some ss → ss.length = l.length
  | [], ss, h => by simp [scsOf] at h; subst h; rfl
  | c :: l, ss, h => by
    simp only [scsOf, Option.bind_eq_some_iff, Option.map_eq_some_iff] at h
    obtain ⟨x, hx, y, hy, rfl⟩ := h
    simp [scsOf_len hy]
theorem list_of_each {α : Type} {Q : Nat → α → Prop} : ∀ {n : Nat}, (∀ i, i < n → ∃ x, Q i x) → ∃ l : List α, l.length = n ∧ ∀ (i : Nat) (x : α), l[i]? = some x → Q i x
  | 0, _ => ⟨[], rfl, fun i x h => by simp at h⟩
  | n + 1, h => by
    obtain ⟨l, h1, h2⟩ := list_of_each (n := n) fun i hi => h i (by omega)
    obtain ⟨x, hx⟩ := h n (by omega)
    refine ⟨l ++ [x], by simp [h1], fun i y hy => ?_⟩
    by_cases hi : i < l.length
    · rw [List.getElem?_append_left hi] at hy; exact h2 i y hy
    · rw [List.getElem?_append_right (by omega)] at hy
      have : i - l.length = 0 := by
        rcases Nat.lt_or_ge (i - l.length) 1 with h0 | h0
        · omega
        · rw [List.getElem?_eq_none (by simp; omega)] at hy; simp at hy
      rw [this] at hy; simp at hy; subst hy
      have : i = n := by omega
      subst this; exact hx
theorem flatten_getz {α : Type} (z : Nat) (hz : 0 < z) : ∀ (l : List (List α)) (j : Nat), (∀ e ∈ l, e.length = z) → l.flatten[j]? = (l[j / z]?).bind (·[j % z]?)
  | [], j, _ => by simp
  | e :: l, j, h => by
    have he := h e (by simp)
    rw [List.flatten_cons]
    by_cases hj : j < z
    · rw [List.getElem?_append_left (by omega), Nat.div_eq_of_lt hj, Nat.mod_eq_of_lt hj]; rfl
    · rw [List.getElem?_append_right (by omega), flatten_getz z hz l _ (fun x hx => h x (by simp [hx])), he]
      have h1 : j / z = (j - z) / z + 1 := by rw [← Nat.add_div_right (j - z) hz, Nat.sub_add_cancel (by omega)]
      have h2 : j % z = (j - z) % z := by rw [← Nat.add_mod_right (j - z) z, Nat.sub_add_cancel (by omega)]
      rw [h1, h2]; rfl
theorem ones {α : Type} {c : SC} {f : α → V} {Q : α → Prop} (hc : ∀ v, okS c v → ∃ n, v = f n ∧ Q n) : ∀ vss : List (List V), (∀ r ∈ vss, okSL [c] r) →
    ∃ zs : List α, vss.flatten = zs.map f ∧ zs.length = vss.length ∧ ∀ n ∈ zs, Q n
  | [], _ => ⟨[], rfl, rfl, by simp⟩
  | r :: vss, h => by
    obtain ⟨zs, e1, e2, e3⟩ := ones hc vss fun x hx => h x (by simp [hx])
    obtain ⟨v, l, rfl, hv, hl⟩ := h r (by simp)
    have hl : l = [] := hl
    subst hl
    obtain ⟨n, rfl, hq⟩ := hc v hv
    exact ⟨n :: zs, by simp [e1], by simp [e2], by simpa using ⟨hq, e3⟩⟩
theorem sl_rows {W : World} {t e n m : Nat} {ss : List SC} {l : List CT} {a : Addr} {len cap : Nat} (hs : scsOf l = some ss) (hz : 0 < ss.length) (hl : len ≤ cap) (hm : cap ≤ maxLen)
    (h : ∀ i, i < len → ∃ cs vs, W.cells? 0 (a.add (i * ss.length)) ss.length = some cs ∧ cellsR W l cs vs) : ∃ v, okC (.sl ss) v ∧ Rep0 noO W (.slice (some a) len cap) v := by
  obtain ⟨rows, h1, h2⟩ := list_of_each h
  have hsl := scsOf_len hs
  have hrow : ∀ (i : Nat) (r : List Value), rows[i]? = some r → ∃ vs : List V, r.length = ss.length ∧ okSL ss vs ∧ vs.length = ss.length ∧ ∀ (j : Nat) (cv : Value) (v : V), r[j]? = some cv → vs[j]? = some v → W.cell? (a.add (i * ss.length + j)) = some cv ∧ Rep0 noO W cv v ∧ cv.oneCell' = true := by
    intro i r hr
    obtain ⟨vs, hc, hv⟩ := h2 i r hr
    obtain ⟨_, hlen, hcell⟩ := World.cells?_some hc
    refine ⟨vs, hlen, okSL_of hs (okCL_of hv), hv.2.1.trans hsl.symm, fun j cv v hj hjv => ?_⟩
    have hjl : j < l.length := by have := (List.getElem?_eq_some_iff.1 hj).1; omega
    have := hv.2.2 j l[j] cv v (by simp) hj hjv
    refine ⟨?_, this.2⟩
    rw [← Go.Deep.add_add, hcell j (by omega), hj]
  have hall : ∀ i, i < rows.length → ∃ vs : List V, okSL ss vs ∧ vs.length = ss.length ∧ ∀ (j : Nat) (v : V), vs[j]? = some v → ∃ cv, W.cell? (a.add (i * ss.length + j)) = some cv ∧ Rep0 noO W cv v ∧ cv.oneCell' = true := by
    intro i hi
    obtain ⟨vs, q1, q2, q3, q4⟩ := hrow i rows[i] (by simp [hi])
    refine ⟨vs, q2, q3, fun j v hv => ?_⟩
    have : j < ss.length := by have := (List.getElem?_eq_some_iff.1 hv).1; omega
    exact ⟨_, q4 j (rows[i][j]'(by omega)) v (by simp) hv⟩
  obtain ⟨vss, g1, g2⟩ := list_of_each hall
  have hvlen : ∀ e ∈ vss, e.length = ss.length := fun e he => by obtain ⟨i, hi, rfl⟩ := List.getElem_of_mem he; exact (g2 i _ (by simp [hi])).2.1
  have gen : ∀ v : V, flatV v = some (len, vss.flatten) → isExact v = false → Rep0 noO W (.slice (some a) len cap) v := by
    intro v hf hx
    have hcell : ∀ (j : Nat) (v : V), vss.flatten[j]? = some v → ∃ cv, W.cell? (a.add j) = some cv ∧ Rep0 noO W cv v ∧ cv.oneCell' = true := by
      intro j v hv
      rw [flatten_getz ss.length hz vss j hvlen] at hv
      obtain ⟨r, hr, hv⟩ := Option.bind_eq_some_iff.1 hv
      obtain ⟨cv, k1, k2⟩ := (g2 _ r hr).2.2 _ v hv
      refine ⟨cv, ?_, k2⟩
      rw [show j = j / ss.length * ss.length + j % ss.length by rw [Nat.mul_comm]; exact (Nat.div_add_mod j ss.length).symm]
      exact k1
    refine .slice (some a) len cap v vss.flatten (fun j => (W.cell? (a.add j)).getD Go.undef) hf (by simp [hx]) hl (by simp) (fun j hj => ?_) (fun j hj => ?_) (fun j hj => ?_)
    · obtain ⟨cv, k1, k2, k3⟩ := hcell j _ (List.getElem?_eq_getElem hj)
      exact ⟨a, rfl, fun h => h.elim, by rw [k1]; rfl⟩
    · obtain ⟨cv, k1, k2, k3⟩ := hcell j _ (List.getElem?_eq_getElem hj)
      rw [k1]; exact k3
    · obtain ⟨cv, k1, k2, k3⟩ := hcell j _ (List.getElem?_eq_getElem hj)
      rw [k1]; exact k2
  have hlen' : vss.length = len := by omega
  have recs : ∃ v, (∃ l, v = V.recs false ss.length l ∧ (∀ r ∈ l, okSL ss r) ∧ l.length ≤ maxLen) ∧ Rep0 noO W (.slice (some a) len cap) v := by
    refine ⟨.recs false ss.length vss, ⟨vss, rfl, fun r hr => ?_, by omega⟩, gen _ ?_ rfl⟩
    · obtain ⟨i, hi, rfl⟩ := List.getElem_of_mem hr; exact (g2 i _ (by simp [hi])).1
    · simp only [flatV]; rw [if_pos ⟨hz, hvlen⟩, hlen']
  match ss, hs, hz, recs, g2, gen, hvlen with
  | [], _, hz, _, _, _, _ => simp at hz
  | [.b], _, _, recs, _, _, _ => exact recs
  | x :: y :: _, _, _, recs, _, _, _ => exact by cases x <;> exact recs
  | [.i k], _, _, recs, g2, gen, hvlen =>
    obtain ⟨zs, e1, e2, e3⟩ := ones (c := .i k) (f := V.int k) (fun v h => h) vss fun r hr => by
      obtain ⟨i, hi, rfl⟩ := List.getElem_of_mem hr; exact (g2 i _ (by simp [hi])).1
    refine ⟨.ints false k zs, ⟨zs, rfl, e3, by omega⟩, gen _ ?_ rfl⟩
    simp only [flatV]; rw [e1, e2, hlen']
  | [.s], _, _, recs, g2, gen, hvlen =>
    obtain ⟨zs, e1, e2, e3⟩ := ones (c := .s) (f := V.str) (fun v h => h) vss fun r hr => by
      obtain ⟨i, hi, rfl⟩ := List.getElem_of_mem hr; exact (g2 i _ (by simp [hi])).1
    refine ⟨.strs false zs, ⟨zs, rfl, e3, by omega⟩, gen _ ?_ rfl⟩
    simp only [flatV]; rw [e1, e2, hlen']
theorem sl_nil {W : World} {ss : List SC} (hz : 0 < ss.length) : ∃ v, okC (.sl ss) v ∧ Rep0 noO W (.slice none 0 0) v := by
  have gen : ∀ v : V, flatV v = some (0, []) → isExact v = false → Rep0 noO W (.slice none 0 0) v := fun v hf hx =>
    .slice none 0 0 v [] (fun _ => Go.undef) hf (by simp [hx]) (Nat.le_refl _) (fun _ => rfl) (fun j hj => by simp at hj) (fun j hj => by simp at hj) (fun j hj => by simp at hj)
  match ss, hz with
  | [.i k], _ => exact ⟨.ints false k [], ⟨[], rfl, by simp, by simp⟩, gen _ rfl rfl⟩
  | [.s], _ => exact ⟨.strs false [], ⟨[], rfl, by simp, by simp⟩, gen _ rfl rfl⟩
  | [.b], _ => exact ⟨.recs false 1 [], ⟨[], rfl, by simp, by simp⟩, gen _ (by simp [flatV]) rfl⟩
  | a :: a' :: ss, _ => exact ⟨.recs false (a :: a' :: ss).length [], by cases a <;> exact ⟨[], rfl, by simp, by simp⟩, gen _ (by simp [flatV]) rfl⟩
section
variable {H : Type} {enc : TypeId × Value → H} {P : Program} {W : World}
theorem trod_cells : ∀ (n : Nat) (t : TypeId) (l : List CT), cts P n t = some l → ∀ (fuel : Nat) (cs : List Value) (x : DataW H × List MemPlace), DataW.trod enc P W 0 (fun _ => true) true fuel t cs = some x →
    ∃ vs, cellsR W l cs vs
  | 0, t, l, h, _, _, _, _ => by simp [cts] at h
  | n + 1, t, l, h, fuel, cs, x, hx => by
    unfold cts at h
    split at h
    · rename_i ht
      simp at h; subst h
      obtain ⟨bb, rfl, _⟩ := DataW.trod_bool ht hx
      exact ⟨[.bool bb], cellsR_one ⟨⟨bb, rfl⟩, .bool bb, rfl⟩⟩
    · rename_i k ht
      simp at h; subst h
      obtain ⟨b, rfl, _, hw⟩ := DataW.trod_int ht hx
      exact ⟨[.int k b], cellsR_one ⟨⟨b, rfl, hw⟩, .int k b, rfl⟩⟩
    · rename_i ht
      simp at h; subst h
      obtain ⟨b, rfl, _, hw⟩ := DataW.trod_string ht hx
      exact ⟨[.str b.data.toList], cellsR_one ⟨⟨_, rfl, by simpa using hw⟩, .str _ _ rfl, rfl⟩⟩
    · rename_i fs ht
      obtain ⟨l', h1, h2⟩ := Option.bind_eq_some_iff.1 h
      split at h2
      case isFalse => simp at h2
      rename_i hsz
      simp at h2; subst h2
      obtain ⟨xs, m, _, _, hlen, hxl, hf⟩ := DataW.trod_struct ht hx
      have key : ∀ (gs : List Field) (off : Nat) (l' : List CT), ctsF P (cts P n) off gs = some l' → (∀ f ∈ gs, ∃ y, DataW.trod enc P W 0 (fun _ => true) true m f.type ((cs.drop f.offset).take (P.cellsOf f.type)) = some y) →
          ∃ vs, cellsR W l' ((cs.drop off).take l'.length) vs := by
        intro gs
        induction gs with
        | nil => intro off l' h _; simp [ctsF] at h; subst h; exact ⟨[], by simpa using cellsR_nil W⟩
        | cons f gs ih =>
          intro off l' h hg
          unfold ctsF at h
          split at h
          case isFalse => simp at h
          rename_i hoff
          obtain ⟨lf, h1, h2⟩ := Option.bind_eq_some_iff.1 h
          split at h2
          case isFalse => simp at h2
          rename_i hsz
          obtain ⟨l2, h3, rfl⟩ := Option.map_eq_some_iff.1 h2
          obtain ⟨y, hy⟩ := hg f (by simp)
          obtain ⟨vs1, c1⟩ := trod_cells n f.type lf h1 m _ y hy
          obtain ⟨vs2, c2⟩ := ih _ _ h3 fun f' hf' => hg f' (by simp [hf'])
          refine ⟨vs1 ++ vs2, ?_⟩
          have hc := cellsR_append c1 c2
          rw [hoff, hsz] at hc
          have hl1 : lf.length ≤ (cs.drop off).length := by
            have := c1.1; rw [hoff, hsz, List.length_take] at this; omega
          rw [List.length_append, List.take_add, List.drop_drop]
          exact hc
      have hall : ∀ f ∈ fs.toList, ∃ y, DataW.trod enc P W 0 (fun _ => true) true m f.type ((cs.drop f.offset).take (P.cellsOf f.type)) = some y := by
        intro f hf'
        obtain ⟨i, hi, rfl⟩ := List.getElem_of_mem hf'
        have hi' : i < fs.size := by simpa using hi
        have := hf i (fs.toList[i]) (by simp [hi'])
        rw [List.getElem?_eq_getElem (by omega)] at this
        exact ⟨_, this⟩
      obtain ⟨vs, hv⟩ := key fs.toList 0 _ h1 hall
      refine ⟨vs, ?_⟩
      rwa [List.drop_zero, List.take_of_length_le (by omega)] at hv
    · rename_i m e ht
      obtain ⟨l', h1, h2⟩ := Option.bind_eq_some_iff.1 h
      split at h2
      case isFalse => simp at h2
      rename_i hsz
      simp at h2; subst h2
      obtain ⟨xs, q, _, _, hlen, hxl, hf⟩ := DataW.trod_array ht hx
      have key : ∀ (k : Nat), k ≤ m → ∃ vs, cellsR W (ctsA l' k) ((cs.drop ((m - k) * l'.length)).take (k * l'.length)) vs := by
        intro k
        induction k with
        | zero => intro _; exact ⟨[], by simpa [ctsA] using cellsR_nil W⟩
        | succ k ih =>
          intro hk
          obtain ⟨vs2, c2⟩ := ih (by omega)
          have h3 := hf (m - (k + 1)) (by omega)
          rw [List.getElem?_eq_getElem (by omega)] at h3
          obtain ⟨vs1, c1⟩ := trod_cells n e l' h1 q _ _ h3
          refine ⟨vs1 ++ vs2, ?_⟩
          have hc := cellsR_append c1 c2
          rw [hsz.1] at hc
          have e1 : (m - k) * l'.length = (m - (k + 1)) * l'.length + l'.length := by
            rw [← Nat.succ_mul]; congr 1; omega
          have e2 : (k + 1) * l'.length = l'.length + k * l'.length := by rw [Nat.succ_mul, Nat.add_comm]
          rw [e1, ← List.drop_drop] at hc
          rw [e2, List.take_add]
          exact hc
      obtain ⟨vs, hv⟩ := key m (Nat.le_refl _)
      refine ⟨vs, ?_⟩
      rwa [Nat.sub_self, Nat.zero_mul, List.drop_zero, List.take_of_length_le (by omega)] at hv
    · rename_i e ht
      obtain ⟨l', h1, h2⟩ := Option.bind_eq_some_iff.1 h
      obtain ⟨ss, h3, h4⟩ := Option.bind_eq_some_iff.1 h2
      split at h4
      case isFalse => simp at h4
      rename_i hsz
      simp at h4; subst h4
      rcases Go.Deep.open_slice ht hx with ⟨rfl, _⟩ | ⟨a, len, cap, m, q, D, Pl, rfl, _, hl, hm, hmm, _, hi⟩
      · obtain ⟨v, k1, k2⟩ := sl_nil (W := W) hsz.2
        exact ⟨[v], cellsR_one ⟨k1, k2, rfl⟩⟩
      · simp only [if_true] at hmm
        subst hmm
        rw [hsz.1] at hi
        obtain ⟨v, k1, k2⟩ := sl_rows (t := 0) (e := 0) (n := 0) (m := 0) h3 hsz.2 hl hm fun i hi' => by
          obtain ⟨cs', c1, c2⟩ := hi i (by omega)
          obtain ⟨vs, c3⟩ := trod_cells n e l' h1 q _ _ c2
          exact ⟨cs', vs, c1, c3⟩
        exact ⟨[v], cellsR_one ⟨k1, k2, rfl⟩⟩
    · simp at h
inductive AT where
  | one (c : CT)
  | agg (l : List CT)
def okA : AT → V → Prop
  | .one c, v => okC c v
  | .agg l, v => ∃ vs, v = .agg vs ∧ okCL l vs
def okAL : List AT → List V → Prop
  | [], vs => vs = []
  | c :: cs, vs => ∃ v l, vs = v :: l ∧ okA c v ∧ okAL cs l
def atOf (P : Program) (n : Nat) (t : TypeId) : Option AT :=
  (cts P n t).bind fun l => match P.underlying t with
    | some (.struct _) | some (.array _ _) => some (.agg l)
    | _ => match l with
      | [c] => some (.one c)
      | _ => none
def atsOf (P : Program) (n : Nat) : List TypeId → Option (List AT)
  | [] => some []
  | t :: ts => (atOf P n t).bind fun x => (atsOf P n ts).map (x :: ·)
theorem arg_V {n : Nat} {t : TypeId} {q : AT} (hq : atOf P n t = some q) {base : Nat} {v : Value} {d : DataW H} {ps : List MemPlace} (hval : Value.okWide P W .any base t v) (h : DataW.Trod enc P W 0 (fun _ => true) true t v d ps) :
    ∃ x, okA q x ∧ Rep0 noO W v x := by
  obtain ⟨l, h1, h2⟩ := Option.bind_eq_some_iff.1 hq
  obtain ⟨fuel, hf⟩ := h
  obtain ⟨vs, hv⟩ := trod_cells n t l h1 fuel _ _ hf
  have aggCase : (∃ cs, v = .agg cs) → ∃ x, okA (.agg l) x ∧ Rep0 noO W v x := by
    rintro ⟨cs, rfl⟩
    have hc : (Value.agg cs).cells.toList = cs.toList := rfl
    rw [hc] at hv
    refine ⟨.agg vs, ⟨vs, rfl, okCL_of hv⟩, .agg cs vs (by have := hv.1; have := hv.2.1; simp at *; omega) (fun j hj => ?_) (fun j hj => ?_)⟩ <;>
    · have hj1 : j < cs.size := by have := hv.1; have := hv.2.1; simp at *; omega
      have := hv.2.2 j (l[j]'(by have := hv.2.1; omega)) cs[j] vs[j] (by simp) (by simp [hj1]) (by simp)
      have e : cs.getD j Go.undef = cs[j] := by simp [Array.getD, hj1]
      rw [e]
      first | exact this.2.2 | exact this.2.1
  split at h2
  · rename_i fs ht
    simp at h2; subst h2
    obtain ⟨cs, rfl, _⟩ := okWide_struct ht hval
    exact aggCase ⟨cs, rfl⟩
  · rename_i m e ht
    simp at h2; subst h2
    unfold Value.okWide at hval
    rw [ht] at hval
    obtain ⟨cs, rfl, _⟩ := hval
    exact aggCase ⟨cs, rfl⟩
  · rename_i hns hna
    split at h2
    case h_2 => simp at h2
    rename_i c
    simp at h2; subst h2
    obtain ⟨a1, a2, a3⟩ := hv
    match vs, a2 with
    | [x], _ =>
      have hcells : v.cells = #[v] := by
        cases v with
        | agg cs =>
          exfalso
          unfold Value.okWide at hval
          cases n with
          | zero => simp [cts] at h1
          | succ n =>
            unfold cts at h1
            split at h1 <;> rename_i ht
            · rw [ht] at hval; simp [Cell.okWide, Cell.ok, ht] at hval
            · rw [ht] at hval; simp [Cell.okWide, Cell.ok, ht] at hval
            · rw [ht] at hval; simp [Cell.okWide, Cell.ok, ht] at hval
            · exact hns _ ht
            · exact hna _ _ ht
            · rw [ht] at hval; simp [Cell.okWide, Cell.ok, ht] at hval
            · simp at h1
        | _ => rfl
      rw [hcells] at a3
      have := a3 0 c v x rfl rfl rfl
      exact ⟨x, this.1, this.2.1⟩
theorem args_V {n : Nat} : ∀ {ts : List TypeId} {qs : List AT} {args : List Value} {ds : List (DataW H)} {ps : List MemPlace} {base : Nat}, atsOf P n ts = some qs → DataW.TrodAll enc P W 0 (fun _ => true) true ts args ds ps →
    (∀ (j : Nat) t v, ts[j]? = some t → args[j]? = some v → Value.okWide P W .any base t v) →
    ∃ vs, args.length = vs.length ∧ okAL qs vs ∧ ∀ j (h : j < vs.length), Rep0 noO W (args.getD j Go.undef) vs[j]
  | [], qs, args, ds, ps, base, hq, h, _ => by
    simp [atsOf] at hq; subst hq
    obtain ⟨rfl, rfl, rfl⟩ := trodAll_nil h
    exact ⟨[], rfl, rfl, fun j h => by simp at h⟩
  | t :: ts, qs, args, ds, ps, base, hq, h, hval => by
    simp only [atsOf, Option.bind_eq_some_iff, Option.map_eq_some_iff] at hq
    obtain ⟨q, hq1, qs', hq2, rfl⟩ := hq
    obtain ⟨v, vs, d, ds', p, p', rfl, rfl, rfl, h1, h2⟩ := trodAll_cons h
    obtain ⟨x, k1, k2⟩ := arg_V hq1 (hval 0 t v rfl rfl) h1
    obtain ⟨xs, l1, l2, l3⟩ := args_V hq2 h2 fun j t v a b => hval (j + 1) t v (by simpa using a) (by simpa using b)
    refine ⟨x :: xs, by simp [l1], ⟨x, xs, rfl, k1, l2⟩, fun j hj => ?_⟩
    cases j with
    | zero => exact k2
    | succ j => simpa using l3 j (by simpa using hj)
theorem stays_all {ts : List TypeId} (hl : laidOutB P = true) (hr : ts.all (fun t => P.readableRec t && decide (t < P.types.size)) = true) {W' : World} (hb : Below W.heap.size W W') {sp : Nat → Bool} :
    ∀ {vs : List Value} {ds : List (DataW H)} {ps : List MemPlace}, DataW.TrodAll enc P W 0 (fun _ => true) true ts vs ds ps → (∀ x ∈ ps, x.block < W.heap.size) → (∀ x ∈ ps, sp x.block = true) →
      DataW.TrodAll enc P W' 0 sp true ts vs ds ps := by
  induction ts with
  | nil =>
    intro vs ds ps h _ _
    obtain ⟨rfl, rfl, rfl⟩ := trodAll_nil h
    exact trodAll_mk0
  | cons t ts ih =>
    intro vs ds ps h hlt hsp
    obtain ⟨v, vs', d, ds', p, p', rfl, rfl, rfl, h1, h2⟩ := trodAll_cons h
    simp only [List.all_cons, Bool.and_eq_true, decide_eq_true_eq] at hr
    exact trodAll_cons_mk (WideElems.Trod_stays hl hr.1.1 hr.1.2 h1 (fun x hx => hb.same (hlt x (by simp [hx]))) (fun x hx => hsp x (by simp [hx])))
      (ih hr.2 h2 (fun x hx => hlt x (by simp [hx])) (fun x hx => hsp x (by simp [hx])))
theorem post_below {f : Func} {s : ChangeSpec} {apart fresh handsOn again : Bool} {W W' : World} {args : Array Value} {v : Value} {ds gs : List (DataW H)} {before pa pv : List MemPlace}
    (hW : DataW.Whole enc P f.params.toList s.vars apart W args.toList ds gs before)
    (hres : ∀ (b : Nat) (sp : Nat → Bool) (hd : Bool), DataW.TrodAll enc P W' b sp hd f.resultTypes.toList (v.resultList f.resultTypes.size) (s.fn H (ds ++ gs)).results [])
    (hargs : ∀ sp : Nat → Bool, (∀ p ∈ before, sp p.block = true) → DataW.TrodAll enc P W' 0 sp true f.params.toList args.toList (s.fn H (ds ++ gs)).args pa)
    (hvars : ∀ sp : Nat → Bool, (∀ p ∈ before, sp p.block = true) → DataW.TrodVars enc P W' sp s.vars (s.fn H (ds ++ gs)).vars pv)
    (hps : before = pa ++ pv) (hb : Below W.heap.size W W')
    (hok : ∀ (j : Nat) (t : TypeId) (r : Value), f.resultTypes[j]? = some t → (v.resultList f.resultTypes.size)[j]? = some r → Value.okWide P W' .any 0 t r) :
    s.post enc P f apart fresh handsOn again W args v W' := by
  have hlt : ∀ p ∈ before, p.block < W.heap.size := fun p hp => hW.lt p hp
  have hold : ∀ p ∈ before, (fun b => decide (b < W.heap.size)) p.block = true := fun p hp => by simpa using hlt p hp
  refine ⟨ds, gs, before, [], pa, pv, hW, hres _ _ _, hargs _ hold, hvars _ hold, World.keptBut_mono (fun p hp => ⟨hp, ?_⟩) (hb.frame (· ∈ before)), fun _ => ?_⟩
  · rw [hps, List.mem_append] at hp
    exact Or.inr hp
  · obtain ⟨_, _, _, _, _, hz, hn⟩ := hW
    refine ⟨hok, _, _, ([] ++ pa) ++ pv, ⟨[] ++ pa, pv, trodAll_append (hargs _ (fun _ _ => rfl)) (hres _ _ _), hvars _ (fun _ _ => rfl), rfl, ?_, ?_⟩, ?_⟩
    · intro b off hp
      have hin : MemPlace.cell b off ∈ before := by rw [hps]; simpa using hp
      rw [hb.frozen (hlt _ hin)]
      exact hz b off hin
    · intro ha
      have := hn ha
      rw [hps] at this
      simpa using this
    · intro p hp _
      rw [hps]
      simpa using hp
theorem law_contract {g : Nat} {f : Func} {c : Code} (hf : FunOK P g f c) {s : ChangeSpec} {n : Nat} {qs : List AT} {tb : TypeId} (hl : laidOutB P = true) (hr : f.params.toList.all (fun t => P.readableRec t && decide (t < P.types.size)) = true)
    (hq : atsOf P n f.params.toList = some qs) (hres : f.resultTypes = #[tb]) (htb : P.underlying tb = some .bool) (hv : s.vars = [])
    (hs : ∀ ds : List (DataW H), ds.length = f.params.toList.length → s.fn H ds = { results := [.lit (.bool true)], args := ds })
    (plain : ∀ vs, okAL qs vs → ∃ p r, SoundC P g vs p ∧ p.m = some r ∧ p.enc r = .bool true)
    (W : World) (base : Nat) (args : Array Value) (ds gs : List (DataW H)) (before : List MemPlace)
    (hval : ∀ (j : Nat) t v, f.params[j]? = some t → args[j]? = some v → Value.okWide P W .any base t v)
    (hW : DataW.Whole enc P f.params.toList s.vars false W args.toList ds gs before) :
    Calls P g args W fun e W' => ∃ v, e = .returned v ∧ s.post enc P f false true false false W args v W' := by
  have hW' := hW
  have hlt : ∀ p ∈ before, p.block < W.heap.size := fun p hp => hW.lt p hp
  obtain ⟨p, q, hA, hV, rfl, hfz, hnd⟩ := hW
  have hA : DataW.TrodAll enc P W 0 (fun _ => true) true f.params.toList args.toList ds p := hA
  rw [hv] at hV
  obtain ⟨rfl, rfl⟩ := trodVars_none hV
  obtain ⟨vs, h1, h2, h3⟩ := args_V hq hA fun j t v a b => hval j t v (by simpa using a) (by simpa using b)
  obtain ⟨pk, r, hsound, hm, he⟩ := plain vs h2
  have hcall := hsound noO W args r hm (by simpa using h1) (fun j hj => by
    have h4 := h3 j hj
    have : args.getD j Go.undef = args.toList.getD j Go.undef := by
      have hj' : j < args.size := by rw [← Array.length_toList, h1]; exact hj
      simp [Array.getD, List.getD, hj']
    rwa [this]) (fun b h => h.elim)
  unfold CallR at hcall
  rw [hf.enters] at hcall
  have hlen : ∀ {ts : List TypeId} {vs : List Value} {ds : List (DataW H)} {ps : List MemPlace}, DataW.TrodAll enc P W 0 (fun _ => true) true ts vs ds ps → ds.length = ts.length := by
    intro ts
    induction ts with
    | nil => intro vs ds ps h; obtain ⟨_, rfl, _⟩ := trodAll_nil h; rfl
    | cons t ts ih => intro vs ds ps h; obtain ⟨_, _, _, _, _, _, _, rfl, _, _, h2⟩ := trodAll_cons h; simp [ih h2]
  refine hcall.mono fun e W' h => ?_
  cases e with
  | returned cv =>
    obtain ⟨hg, hrep⟩ := h
    rw [he] at hrep
    obtain rfl : cv = .bool true := by
      cases hrep
      · rfl
      · rename_i hf _; cases hf
    have hb : Below W.heap.size W W' := ⟨hg.os, hg.tape, hg.output, hg.size, fun k hk => hg.block k hk (by simp)⟩
    have hfn := hs ds (hlen hA)
    refine ⟨_, rfl, post_below (pa := p) (pv := []) hW' ?_ ?_ ?_ rfl hb ?_⟩
    · intro b sp hd
      rw [List.append_nil, hfn, hres]
      exact trodAll_cons_mk (shut_bool htb _) trodAll_mk0
    · intro sp hsp
      rw [List.append_nil, hfn]
      exact stays_all hl hr hb hA (fun x hx => hlt x (by simp [hx])) (fun x hx => hsp x (by simp [hx]))
    · intro sp hsp
      rw [List.append_nil, hfn, hv]
      rfl
    · exact ok_one hres rfl (okWide_bool_mk htb _)
  | _ => exact h.elim
end
end
end Go.Proofs.YtgjncgiekniniaaGreatDoor.A
end
section
namespace Go.Proofs.YtgjncgiekniniaaGreatDoor.A
open Go
theorem own : ownKnob Tryz.prog.godebug = none := by kernel_rfl
theorem laidOut : laidOutB Tryz.prog = true := by kernel_rfl
theorem rowed : mapsRowed Tryz.prog = true := by kernel_rfl
theorem noStops : (Tryz.prog.stops == []) = true := by kernel_rfl
theorem noKnobs : (Tryz.prog.stopKnobs == []) = true := by kernel_rfl
theorem heard : Tryz.prog.stopsHeard = true := by kernel_rfl
theorem enterable : Tryz.prog.mayEnter = true := by kernel_rfl
theorem looksOff : false = Tryz.prog.looks [] := by kernel_rfl
theorem main : Tryz.pinned.checked.prog.mainIs = some (true, ("d4ffbc68b08c28ac251f33799dbb1d7e972ab3df77886f5ed4ce34a153cf9881" : String).toList) := by kernel_rfl
noncomputable def relay (l : List Int) : Obj → Obj
  | .cells _ t fz => .cells (l.map fun n => Value.int .u8 n).toArray t fz
  | o => o
noncomputable def accept : List Int := [128, 191, 160, 191, 128, 159, 144, 191, 128, 143, 0, 0, 0, 0, 0, 0, 0, 0, 0, 0, 0, 0, 0, 0, 0, 0, 0, 0, 0, 0, 0, 0]
noncomputable def laidWorld (os : Os) : World :=
  let w := World.holding Tryz.prog os ⟨#[], #[], []⟩
  { w with heap := (w.heap.modify 3 (relay (Go.Pinned.utf8FirstZ.map Int.ofNat))).modify 4 (relay accept) }
end Go.Proofs.YtgjncgiekniniaaGreatDoor.A
end
