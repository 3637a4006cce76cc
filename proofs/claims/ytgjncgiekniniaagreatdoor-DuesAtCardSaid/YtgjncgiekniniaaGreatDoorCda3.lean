/- Part 3 of the proof of DuesAt.card. -/
import Derived.Test.YtgjncgiekniniaaGreatDoorCda2
import Derived.Test.YtgjncgiekniniaaGreatDoorRows
import Derived.WalkKit
import Derived.ProofKit
import Derived.OpenShut
import Derived.Carry
import Derived.ChangeSame
import Derived.Deep.Slices
import Derived.Test.YtgjncgiekniniaaGreatDoorCards
import Derived.Test.YtgjncgiekniniaaGreatDoorTie
import Derived.KernelRfl
import Derived.JoinedCond
section
set_option linter.unusedVariables false
set_option linter.unusedSimpArgs false
set_option maxRecDepth 100000
namespace Go.Proofs.YtgjncgiekniniaaGreatDoor.A
open Go
noncomputable section
def z7.C : Ctx where
  T := tab
  call := fun g args => match g with | 102 => z6.pack args | _ => none
def z7.dec : V → Option ((List UInt8))
  | (.str x0) => some x0
  | _ => none
theorem z7.link (a0 : List Int) (a1 : Bool) : z7.C.evTop 26 (ifun Tryz.f26) [(.agg [(.ints false .i64 a0), (.bool a1)])] z7.dec = z7.F a0 a1 := by kernel_rfl
def z12.C : Ctx where
  T := tab
  call := fun g args => match g with | 219 => z11.pack args | _ => none
def z12.dec : V → Option (Int)
  | (.int .i64 x0) => some x0
  | _ => none
theorem z12.link (a0 : Int) (a1 : Int) : z12.C.evTop 153 (ifun Tryz.f153) [(.int .i64 a0), (.int .i64 a1)] z12.dec = z12.F a0 a1 := by kernel_rfl
def z13.C : Ctx where
  T := tab
  call := fun g args => match g with | 153 => z12.pack args | _ => none
def z13.dec : V → Option (Int × Int × Int)
  | (.agg [(.int .i64 x0), (.int .i64 x1), (.int .i64 x2)]) => some (x0, x1, x2)
  | _ => none
theorem z13.link (a0 : Int) (a1 : Int) (a2 : Int) (a3 : Int) : z13.C.evTop 95 (ifun Tryz.f95) [(.agg [(.int .i64 a0), (.int .i64 a1), (.int .i64 a2)]), (.int .i64 a3)] z13.dec = z13.F a0 a1 a2 a3 := by kernel_rfl
def z16.l2aash : Env × Store := ((.ints false .i64 []) :: (.ints false .i64 []) :: .undef :: .undef :: (.sref 0 0) :: (.sref 1 0) :: (.int .i64 (0 : Int)) :: (.int .i64 (0 : Int)) :: (.int .i64 (0 : Int)) :: un 54 [], [(.arr 0 true 3 (.ints false .i64 [])), (.arr 0 false 3 (.ints false .i64 []))])
def z16.l2aaout0 (a4001 : List Int) (b4002 : List Int) (i4003 : Int) (carry4004 : Int) (k4005 : Int) (s4006 : List Int) (s4007 : List Int) (o : Int × Int × (List Int)) : X × Env × Store := ((.exit 2), fillSt z16.l2aash [.li a4001, .li b4002, .i i4003, .i o.1, .i o.2.1, .li s4006, .li o.2.2])
def z16.l2aapack : List Leaf → Option LPack
  | [.li a4001, .li b4002, .i i4003, .i carry4004, .i k4005, .li s4006, .li s4007] => some (.one _ (z16.l2aa a4001 b4002 i4003 (carry4004, k4005, s4007)) (z16.l2aaout0 a4001 b4002 i4003 carry4004 k4005 s4006 s4007))
  | _ => none
def z16.l0sh : Env × Store := ((.ints false .i64 []) :: (.ints false .i64 []) :: .undef :: .undef :: (.sref 0 0) :: (.sref 1 0) :: (.int .i64 (0 : Int)) :: un 56 [], [(.arr 0 true 3 (.ints false .i64 [])), (.arr 0 false 3 (.ints false .i64 []))])
def z16.l0out0 (a1001 : List Int) (b1002 : List Int) (i1003 : Int) (s1004 : List Int) (s1005 : List Int) (o : Int × (List Int)) : X × Env × Store := ((.exit 0), fillSt z16.l0sh [.li a1001, .li b1002, .i o.1, .li s1004, .li o.2])
def z16.l0pack : List Leaf → Option LPack
  | [.li a1001, .li b1002, .i i1003, .li s1004, .li s1005] => some (.one _ (z16.l0 a1001 b1002 (i1003, s1005)) (z16.l0out0 a1001 b1002 i1003 s1004 s1005))
  | _ => none
def z16.C : Ctx where
  T := tab
  draws := fun f i => match f, i with | 208, 10 => ([(38, [(5, 0)], 0), (39, [(6, 0)], 0), (40, [(8, 0)], 0), (41, [(38, 2), (39, 3)], 6), (42, [(37, 1), (40, 4)], 15), (43, [(41, 5)], 31), (44, [(0, 0)], 0), (45, [(6, 0)], 0), (46, [(43, 7), (44, 8)], 192), (47, [(45, 9)], 448), (48, [(9, 0)], 0), (49, [(46, 10), (47, 11)], 1984), (50, [(42, 6), (48, 12)], 4095), (51, [(7, 0)], 0), (52, [(49, 13), (50, 14)], 16383), (11, [(51, 15)], 32767)], 4503462188418048) | _, _ => ([], 0)
  call := fun g args => match g with | 234 => z14.pack args | 235 => z15.pack args | _ => none
  keep := fun f i => match f, i with | 208, 2 => ([0, 1, 4, 5, 6, 7, 8], [0, 1], []) | 208, 0 => ([0, 1, 4, 5, 6, 29, 30], [0, 1], []) | _, _ => ([], [], [])
  keepE := fun f i => match f, i with | 208, 2 => ([0, 1, 4, 5, 6, 7, 8], [0, 1], []) | 208, 0 => ([0, 1, 4, 5, 6, 29, 30], [0, 1], []) | _, _ => ([], [], [])
  keepR := fun f i => match f, i with | 208, 2 => ([4], [0, 1], [4]) | 208, 0 => ([4], [0, 1], [4]) | _, _ => ([], [], [])
  L := fun f i b st => match f, i, b with | 208, 2, 0 => (matchSt z16.l2aash st).bind z16.l2aapack | 208, 0, 0 => (matchSt z16.l0sh st).bind z16.l0pack | _, _, _ => none
def z16.dec : V → Option ((List Int))
  | (.ints _ .i64 x0) => some x0
  | _ => none
theorem z16.l2aa_link (R : Type) (k : Env × Store → Option R) (d : X × Env × Store → Option R) (a4001 : List Int) (b4002 : List Int) (i4003 : Int) (carry4004 : Int) (k4005 : Int) (s4006 : List Int) (s4007 : List Int) :
    z16.C.loopP 208 2 (loopAt 2 (ifun Tryz.f208).body) 2 k d (fillSt z16.l2aash [.li a4001, .li b4002, .i i4003, .i carry4004, .i k4005, .li s4006, .li s4007]) =
    z16.l2aaP a4001 b4002 i4003 (fun x' => k (fillSt z16.l2aash [.li a4001, .li b4002, .i i4003, .i x'.1, .i x'.2.1, .li s4006, .li x'.2.2])) (fun o => d (z16.l2aaout0 a4001 b4002 i4003 carry4004 k4005 s4006 s4007 o)) (carry4004, k4005, s4007) := by kernel_rfl
theorem z16.l0_link (R : Type) (k : Env × Store → Option R) (d : X × Env × Store → Option R) (a1001 : List Int) (b1002 : List Int) (i1003 : Int) (s1004 : List Int) (s1005 : List Int) :
    z16.C.loopP 208 0 (loopAt 0 (ifun Tryz.f208).body) 2 k d (fillSt z16.l0sh [.li a1001, .li b1002, .i i1003, .li s1004, .li s1005]) =
    z16.l0P a1001 b1002 (fun x' => k (fillSt z16.l0sh [.li a1001, .li b1002, .i x'.1, .li s1004, .li x'.2])) (fun o => d (z16.l0out0 a1001 b1002 i1003 s1004 s1005 o)) (i1003, s1005) := by kernel_rfl
theorem z16.link (a0 : List Int) (a1 : List Int) : z16.C.evTop 208 (ifun Tryz.f208) [(.ints false .i64 a0), (.ints false .i64 a1)] z16.dec = z16.F a0 a1 := by kernel_rfl
def z21.C : Ctx where
  T := tab
  call := fun g args => match g with | 104 => z20.pack args | _ => none
def z21.dec : V → Option (Int)
  | (.int .i64 x0) => some x0
  | _ => none
theorem z21.link (a0 : List Int) (a1 : Bool) : z21.C.evTop 28 (ifun Tryz.f28) [(.agg [(.ints false .u64 a0), (.bool a1)])] z21.dec = z21.F a0 a1 := by kernel_rfl
def z23.C : Ctx where
  T := tab
def z23.dec : V → Option (Int)
  | (.int .u64 x0) => some x0
  | _ => none
theorem z23.link (a0 : List Int) (a1 : Int) : z23.C.evTop 184 (ifun Tryz.f184) [(.agg [(.ints false .u64 a0)]), (.int .i64 a1)] z23.dec = z23.F a0 a1 := by kernel_rfl
def z24.l0b6sh : Env × Store := ((.ints false .u64 []) :: .undef :: (.ptr 0 0) :: (.int .i64 (0 : Int)) :: un 19 [], [(.cells [(.ints false .u64 [])])])
def z24.l0b6out0 (l7001 : List Int) (n7002 : Int) (s7003 : List Int) (o : Int) : X × Env × Store := ((.exit 0), fillSt z24.l0b6sh [.li l7001, .i o, .li s7003])
def z24.l0b6pack : List Leaf → Option LPack
  | [.li l7001, .i n7002, .li s7003] => some (.one _ (z24.l0b6 l7001 n7002) (z24.l0b6out0 l7001 n7002 s7003))
  | _ => none
def z24.C : Ctx where
  T := tab
  keep := fun f i => match f, i with | 185, 0 => ([0, 2, 3], [0], []) | _, _ => ([], [], [])
  keepE := fun f i => match f, i with | 185, 0 => ([0, 2, 3], [0], []) | _, _ => ([], [], [])
  keepR := fun f i => match f, i with | 185, 0 => ([2], [0], [2]) | _, _ => ([], [], [])
  L := fun f i b st => match f, i, b with | 185, 0, 0 => (matchSt z24.l0b6sh st).bind z24.l0b6pack | _, _, _ => none
def z24.dec : V → Option ((List Int))
  | (.agg [(.ints _ .u64 x0)]) => some x0
  | _ => none
theorem z24.l0b6_link (R : Type) (k : Env × Store → Option R) (d : X × Env × Store → Option R) (l7001 : List Int) (n7002 : Int) (s7003 : List Int) :
    z24.C.loopP 185 0 (loopAt 0 (ifun Tryz.f185).body) 1 k d (fillSt z24.l0b6sh [.li l7001, .i n7002, .li s7003]) =
    z24.l0b6P l7001 (fun x' => k (fillSt z24.l0b6sh [.li l7001, .i x', .li s7003])) (fun o => d (z24.l0b6out0 l7001 n7002 s7003 o)) n7002 := by kernel_rfl
theorem z24.link (a0 : List Int) : z24.C.evTop 185 (ifun Tryz.f185) [(.ints false .u64 a0)] z24.dec = z24.F a0 := by kernel_rfl
def z26.C : Ctx where
  T := tab
def z26.dec : V → Option (Bool)
  | (.bool x0) => some x0
  | _ => none
theorem z26.link (a0 : Int) : z26.C.evTop 212 (ifun Tryz.f212) [(.int .i64 a0)] z26.dec = z26.F a0 := by kernel_rfl
def z30.l0sh : Env × Store := (.undef :: .undef :: (.ptr 0 0) :: (.ptr 1 0) :: (.int .i64 (0 : Int)) :: .undef :: (.int .i64 (0 : Int)) :: un 33 [], [(.cells [(.ints false .u64 [])]), (.cells [(.ints false .u64 [])])])
def z30.l0so1 : Env × Store := (un 4 ((.int .i64 (0 : Int)) :: un 35 []), [(.cells [(.ints false .u64 [])]), (.cells [(.ints false .u64 [])])])
def z30.l0out0 (t1001 : Int) (i1002 : Int) (s1003 : List Int) (s1004 : List Int) (o : Int) : X × Env × Store := ((.exit 0), fillSt z30.l0sh [.i t1001, .i o, .li s1003, .li s1004])
def z30.l0out1 (t1001 : Int) (i1002 : Int) (s1003 : List Int) (s1004 : List Int) (o : Int) : X × Env × Store := (.ret, fillSt z30.l0so1 [.i o, .li s1003, .li s1004])
def z30.l0pack : List Leaf → Option LPack
  | [.i t1001, .i i1002, .li s1003, .li s1004] => some (.two _ _ (z30.l0 s1003 s1004 i1002) (z30.l0out0 t1001 i1002 s1003 s1004) (z30.l0out1 t1001 i1002 s1003 s1004))
  | _ => none
def z30.C : Ctx where
  T := tab
  draws := fun f i => match f, i with | 186, 7 => ([(27, [(2, 0)], 0), (28, [(26, 1)], 1), (29, [(6, 0)], 0), (30, [(27, 2), (28, 3)], 7), (31, [(29, 4)], 15), (32, [(3, 0)], 0), (33, [(31, 6)], 32), (34, [(6, 0)], 0), (35, [(32, 7), (33, 8)], 224), (36, [(34, 9)], 480), (37, [(30, 5), (35, 10)], 1023), (8, [(36, 11)], 2047)], 137371844736) | _, _ => ([], 0)
  call := fun g args => match g with | 146 => z27.pack args | 245 => z29.pack args | _ => none
  keep := fun f i => match f, i with | 186, 0 => ([2, 3, 4, 6], [0, 1], []) | _, _ => ([], [], [])
  keepE := fun f i => match f, i with | 186, 0 => ([2, 3, 4, 6], [0, 1], []) | _, _ => ([], [], [])
  keepR := fun f i => match f, i with | 186, 0 => ([4], [0, 1], [4]) | _, _ => ([], [], [])
  L := fun f i b st => match f, i, b with | 186, 0, 0 => (matchSt z30.l0sh st).bind z30.l0pack | _, _, _ => none
def z30.dec : V → Option (Int)
  | (.int .i64 x0) => some x0
  | _ => none
theorem z30.l0_link (R : Type) (k : Env × Store → Option R) (d : X × Env × Store → Option R) (t1001 : Int) (i1002 : Int) (s1003 : List Int) (s1004 : List Int) :
    z30.C.loopP 186 0 (loopAt 0 (ifun Tryz.f186).body) 2 k d (fillSt z30.l0sh [.i t1001, .i i1002, .li s1003, .li s1004]) =
    z30.l0P s1003 s1004 (fun x' => k (fillSt z30.l0sh [.i t1001, .i x', .li s1003, .li s1004])) (fun o => match o with | .inl o => d (z30.l0out0 t1001 i1002 s1003 s1004 o) | .inr o => d (z30.l0out1 t1001 i1002 s1003 s1004 o)) i1002 := by kernel_rfl
theorem z30.link (a0 : List Int) (a1 : List Int) : z30.C.evTop 186 (ifun Tryz.f186) [(.agg [(.ints false .u64 a0)]), (.agg [(.ints false .u64 a1)])] z30.dec = z30.F a0 a1 := by kernel_rfl
def z31.l0sh : Env × Store := (.undef :: .undef :: (.ptr 0 0) :: (.ptr 1 0) :: (.ptr 2 0) :: (.bool false) :: (.sref 3 0) :: (.int .u64 (0 : Int)) :: un 11 ((.int .i64 (0 : Int)) :: (.int .i64 (0 : Int)) :: un 21 []), [(.cells [(.ints false .u64 [])]), (.cells [(.ints false .u64 [])]), (.cells [(.ints false .u64 [])]), (.arr 0 false 79 (.ints false .u64 []))])
def z31.l0out0 (t1001 : Bool) (borrow1002 : Int) (t1003 : Int) (t1004 : Int) (s1005 : List Int) (s1006 : List Int) (s1007 : List Int) (s1008 : List Int) (o : Int × Int × (List Int)) : X × Env × Store := ((.exit 0), fillSt z31.l0sh [.b t1001, .i o.1, .i t1003, .i o.2.1, .li s1005, .li s1006, .li s1007, .li o.2.2])
def z31.l0pack : List Leaf → Option LPack
  | [.b t1001, .i borrow1002, .i t1003, .i t1004, .li s1005, .li s1006, .li s1007, .li s1008] => some (.one _ (z31.l0 t1003 s1005 s1006 (borrow1002, t1004, s1008)) (z31.l0out0 t1001 borrow1002 t1003 t1004 s1005 s1006 s1007 s1008))
  | _ => none
def z31.C : Ctx where
  T := tab
  draws := fun f i => match f, i with | 100, 8 => ([(25, [(6, 0)], 0), (26, [(8, 0)], 0), (27, [(2, 0)], 0), (28, [(26, 3)], 4), (29, [(8, 0)], 0), (30, [(27, 4), (28, 5)], 28), (31, [(29, 6)], 60), (32, [(3, 0)], 0), (33, [(8, 0)], 0), (34, [(31, 8), (32, 9)], 384), (35, [(7, 18)], 0), (36, [(30, 7), (33, 10), (34, 11)], 2044), (24, [(35, 12)], 4092), (37, [(23, 13)], 8188), (38, [(23, 13)], 8188), (39, [(24, 1), (25, 2)], 16383), (0, [(38, 16), (36, 14)], 49151), (8, [(37, 15)], 131071)], 549747425408) | _, _ => ([], 0)
  call := fun g args => match g with | 186 => z30.pack args | 184 => z23.pack args | 187 => z1.pack args | 185 => z24.pack args | _ => none
  keep := fun f i => match f, i with | 100, 0 => ([2, 3, 4, 5, 6, 7, 19, 20], [0, 1, 2, 3], []) | _, _ => ([], [], [])
  keepE := fun f i => match f, i with | 100, 0 => ([2, 3, 4, 5, 6, 7, 19, 20], [0, 1, 2, 3], []) | _, _ => ([], [], [])
  keepR := fun f i => match f, i with | 100, 0 => ([4, 5], [0, 1, 2, 3], [4, 5]) | _, _ => ([], [], [])
  L := fun f i b st => match f, i, b with | 100, 0, 0 => (matchSt z31.l0sh st).bind z31.l0pack | _, _, _ => none
def z31.dec : V → Option ((List Int) × Bool)
  | (.tup [(.agg [(.ints _ .u64 x0)]), (.bool x1)]) => some (x0, x1)
  | _ => none
theorem z31.l0_link (R : Type) (k : Env × Store → Option R) (d : X × Env × Store → Option R) (t1001 : Bool) (borrow1002 : Int) (t1003 : Int) (t1004 : Int) (s1005 : List Int) (s1006 : List Int) (s1007 : List Int) (s1008 : List Int) :
    z31.C.loopP 100 0 (loopAt 0 (ifun Tryz.f100).body) 4 k d (fillSt z31.l0sh [.b t1001, .i borrow1002, .i t1003, .i t1004, .li s1005, .li s1006, .li s1007, .li s1008]) =
    z31.l0P t1003 s1005 s1006 (fun x' => k (fillSt z31.l0sh [.b t1001, .i x'.1, .i t1003, .i x'.2.1, .li s1005, .li s1006, .li s1007, .li x'.2.2])) (fun o => d (z31.l0out0 t1001 borrow1002 t1003 t1004 s1005 s1006 s1007 s1008 o)) (borrow1002, t1004, s1008) := by kernel_rfl
theorem z31.link (a0 : List Int) (a1 : List Int) : z31.C.evTop 100 (ifun Tryz.f100) [(.agg [(.ints false .u64 a0)]), (.agg [(.ints false .u64 a1)])] z31.dec = z31.F a0 a1 := by kernel_rfl
def z35.C : Ctx where
  T := tab
  call := fun g args => match g with | 90 => z34.pack args | 28 => z21.pack args | _ => none
def z35.dec : V → Option (Int)
  | (.int .i64 x0) => some x0
  | _ => none
theorem z35.link (a0 : List Int) (a1 : Bool) (a2 : List Int) (a3 : Bool) : z35.C.evTop 74 (ifun Tryz.f74) [(.agg [(.ints false .u64 a0), (.bool a1)]), (.agg [(.ints false .u64 a2), (.bool a3)])] z35.dec = z35.F a0 a1 a2 a3 := by kernel_rfl
def z36.C : Ctx where
  T := tab
def z36.dec : V → Option (Bool)
  | (.bool x0) => some x0
  | _ => none
theorem z36.link (a0 : List UInt8) (a1 : List UInt8) : z36.C.evTop 260 (ifun Tryz.f260) [(.str a0), (.str a1)] z36.dec = z36.F a0 a1 := by kernel_rfl
def z41.l0ash : Env × Store := (.undef :: (.int .u64 (0 : Int)) :: (.sview 3 0 0 0) :: (.ptr 4 0) :: .undef :: .undef :: (.int .u64 (0 : Int)) :: un 6 ((.ints false .u64 []) :: (.int .i64 (0 : Int)) :: (.int .i64 (0 : Int)) :: un 44 []), [(.cells [(.ints false .u64 [])]), .dead, (.cells [(.ints false .u64 [])]), (.arr 0 false 79 (.ints false .u64 [])), (.cells [(.ints false .u64 [])])])
def z41.l0aout0 (x2001 : Int) (l2002 : Nat) (l2003 : Nat) (carry2004 : Int) (t2005 : List Int) (t2006 : Int) (t2007 : Int) (s2008 : List Int) (s2009 : List Int) (s2010 : List Int) (s2011 : List Int) (o : Int × Int × (List Int)) : X × Env × Store := ((.exit 0), fillSt z41.l0ash [.i x2001, .n l2002, .n l2003, .i o.1, .li t2005, .i t2006, .i o.2.1, .li s2008, .li s2009, .li o.2.2, .li s2011])
def z41.l0apack : List Leaf → Option LPack
  | [.i x2001, .n l2002, .n l2003, .i carry2004, .li t2005, .i t2006, .i t2007, .li s2008, .li s2009, .li s2010, .li s2011] => some (.one _ (z41.l0a x2001 l2002 l2003 t2005 t2006 (carry2004, t2007, s2010)) (z41.l0aout0 x2001 l2002 l2003 carry2004 t2005 t2006 t2007 s2008 s2009 s2010 s2011))
  | _ => none
def z41.l0sh : Env × Store := (.undef :: .undef :: (.ptr 0 0) :: .undef :: (.ptr 2 0) :: (.sref 3 0) :: un 12 ((.ints false .u64 []) :: (.int .i64 (0 : Int)) :: (.int .i64 (0 : Int)) :: un 13 []), [(.cells [(.ints false .u64 [])]), .dead, (.cells [(.ints false .u64 [])]), (.arr 0 false 79 (.ints false .u64 []))])
def z41.l0out0 (t1001 : List Int) (t1002 : Int) (t1003 : Int) (s1004 : List Int) (s1005 : List Int) (s1006 : List Int) (o : Int × (List Int)) : X × Env × Store := ((.exit 0), fillSt z41.l0sh [.li t1001, .i t1002, .i o.1, .li s1004, .li s1005, .li o.2])
def z41.l0pack : List Leaf → Option LPack
  | [.li t1001, .i t1002, .i t1003, .li s1004, .li s1005, .li s1006] => some (.one _ (z41.l0 t1001 t1002 s1004 (t1003, s1006)) (z41.l0out0 t1001 t1002 t1003 s1004 s1005 s1006))
  | _ => none
def z41.C : Ctx where
  T := tab
  draws := fun f i => match f, i with | 164, 5 => ([(26, [(2, 0)], 0), (27, [(7, 0)], 0), (28, [(5, 0)], 0), (29, [(6, 0)], 0), (30, [(27, 3), (28, 4)], 12), (31, [(25, 1), (26, 2), (29, 5)], 31)], 2113929216) | _, _ => ([], 0)
  call := fun g args => match g with | 268 => z40.pack args | 183 => z0.pack args | 185 => z24.pack args | _ => none
  inl := fun g => match g with | 227 => some (ifun Tryz.f227) | _ => none
  keep := fun f i => match f, i with | 227, 0 => ([1, 2, 3, 6, 13, 14, 15], List.range 64, []) | 164, 0 => ([2, 4, 5, 18, 19, 20], [0, 2, 3], []) | _, _ => ([], [], [])
  keepE := fun f i => match f, i with | 227, 0 => ([1, 2, 3, 6, 13, 14, 15], List.range 64, []) | 164, 0 => ([2, 4, 5, 18, 19, 20], [0, 2, 3], []) | _, _ => ([], [], [])
  keepR := fun f i => match f, i with | 227, 0 => ([], List.range 64, []) | 164, 0 => ([4], [0, 2, 3], [4]) | _, _ => ([], [], [])
  L := fun f i b st => match f, i, b with | 227, 0, 4 => (matchSt z41.l0ash st).bind z41.l0apack | 164, 0, 0 => (matchSt z41.l0sh st).bind z41.l0pack | _, _, _ => none
def z41.dec : V → Option ((List Int))
  | (.agg [(.ints _ .u64 x0)]) => some x0
  | _ => none
theorem z41.l0a_link (R : Type) (k : Env × Store → Option R) (d : X × Env × Store → Option R) (x2001 : Int) (l2002 : Nat) (l2003 : Nat) (carry2004 : Int) (t2005 : List Int) (t2006 : Int) (t2007 : Int) (s2008 : List Int) (s2009 : List Int) (s2010 : List Int) (s2011 : List Int) :
    z41.C.loopPI (z41.C.inlK 0) 227 0 4 (loopAt 0 (ifun Tryz.f227).body) 5 k d (fillSt z41.l0ash [.i x2001, .n l2002, .n l2003, .i carry2004, .li t2005, .i t2006, .i t2007, .li s2008, .li s2009, .li s2010, .li s2011]) =
    z41.l0aP x2001 l2002 l2003 t2005 t2006 (fun x' => k (fillSt z41.l0ash [.i x2001, .n l2002, .n l2003, .i x'.1, .li t2005, .i t2006, .i x'.2.1, .li s2008, .li s2009, .li x'.2.2, .li s2011])) (fun o => d (z41.l0aout0 x2001 l2002 l2003 carry2004 t2005 t2006 t2007 s2008 s2009 s2010 s2011 o)) (carry2004, t2007, s2010) := by kernel_rfl
theorem z41.l0_link (R : Type) (k : Env × Store → Option R) (d : X × Env × Store → Option R) (t1001 : List Int) (t1002 : Int) (t1003 : Int) (s1004 : List Int) (s1005 : List Int) (s1006 : List Int) :
    z41.C.loopP 164 0 (loopAt 0 (ifun Tryz.f164).body) 4 k d (fillSt z41.l0sh [.li t1001, .i t1002, .i t1003, .li s1004, .li s1005, .li s1006]) =
    z41.l0P t1001 t1002 s1004 (fun x' => k (fillSt z41.l0sh [.li t1001, .i t1002, .i x'.1, .li s1004, .li s1005, .li x'.2])) (fun o => d (z41.l0out0 t1001 t1002 t1003 s1004 s1005 s1006 o)) (t1003, s1006) := by kernel_rfl
theorem z41.link (a0 : List Int) (a1 : List Int) : z41.C.evTop 164 (ifun Tryz.f164) [(.agg [(.ints false .u64 a0)]), (.agg [(.ints false .u64 a1)])] z41.dec = z41.F a0 a1 := by kernel_rfl
def z42.l2sh : Env × Store := ((.str ([] : List UInt8)) :: .undef :: (.ptr 0 0) :: (.int .i64 (0 : Int)) :: (.ptr 1 0) :: .undef :: (.int .i64 (0 : Int)) :: (.int .u64 (0 : Int)) :: un 39 ((.ptr 2 0) :: un 21 []), [(.cells [(.ints false .u64 [])]), (.cells [(.ints false .u64 [])]), (.siter ([] : List UInt8) 0)])
def z42.l2out0 (s2001 : List UInt8) (t2002 : Int) (k2003 : Int) (part2004 : Int) (s2005 : List Int) (s2006 : List Int) (s2007 : List UInt8) (s2008 : Nat) (o : Int × Nat) : X × Env × Store := ((.exit 2), fillSt z42.l2sh [.s s2001, .i t2002, .i k2003, .i o.1, .li s2005, .li s2006, .s s2007, .n o.2])
def z42.l2pack : List Leaf → Option LPack
  | [.s s2001, .i t2002, .i k2003, .i part2004, .li s2005, .li s2006, .s s2007, .n s2008] => some (.one _ (z42.l2 s2007 (part2004, s2008)) (z42.l2out0 s2001 t2002 k2003 part2004 s2005 s2006 s2007 s2008))
  | _ => none
def z42.l2ash : Env × Store := ((.str ([] : List UInt8)) :: .undef :: (.ptr 0 0) :: (.int .i64 (0 : Int)) :: (.ptr 1 0) :: .undef :: (.int .i64 (0 : Int)) :: (.int .u64 (0 : Int)) :: un 33 ((.int .i64 (0 : Int)) :: (.bool false) :: un 4 ((.ptr 2 0) :: un 21 [])), [(.cells [(.ints false .u64 [])]), (.cells [(.ints false .u64 [])]), (.siter ([] : List UInt8) 0)])
def z42.l2aout0 (s3001 : List UInt8) (t3002 : Int) (k3003 : Int) (part3004 : Int) (t3005 : Int) (t3006 : Bool) (s3007 : List Int) (s3008 : List Int) (s3009 : List UInt8) (s3010 : Nat) (o : Int × Nat) : X × Env × Store := ((.exit 2), fillSt z42.l2ash [.s s3001, .i t3002, .i k3003, .i o.1, .i t3005, .b t3006, .li s3007, .li s3008, .s s3009, .n o.2])
def z42.l2apack : List Leaf → Option LPack
  | [.s s3001, .i t3002, .i k3003, .i part3004, .i t3005, .b t3006, .li s3007, .li s3008, .s s3009, .n s3010] => some (.one _ (z42.l2a s3009 (part3004, s3010)) (z42.l2aout0 s3001 t3002 k3003 part3004 t3005 t3006 s3007 s3008 s3009 s3010))
  | _ => none
def z42.l0aash : Env × Store := ((.str ([] : List UInt8)) :: .undef :: (.ptr 0 0) :: (.int .i64 (0 : Int)) :: (.ptr 1 0) :: (.bool false) :: un 63 [], [(.cells [(.ints false .u64 [])]), (.cells [(.ints false .u64 [])])])
def z42.l0aaout0 (s5001 : List UInt8) (t5002 : Int) (first5003 : Bool) (s5004 : List Int) (s5005 : List Int) (o : (List UInt8) × Bool × (List Int)) : X × Env × Store := ((.exit 0), fillSt z42.l0aash [.s o.1, .i t5002, .b o.2.1, .li s5004, .li o.2.2])
def z42.l0aapack : List Leaf → Option LPack
  | [.s s5001, .i t5002, .b first5003, .li s5004, .li s5005] => some (.one _ (z42.l0aa (s5001, first5003, s5005)) (z42.l0aaout0 s5001 t5002 first5003 s5004 s5005))
  | _ => none
def z42.C : Ctx where
  T := tab
  draws := fun f i => match f, i with | 161, 17 => ([(58, [(4, 0)], 0), (59, [], 0), (60, [(58, 2)], 2), (61, [(57, 1), (59, 3)], 7), (62, [(7, 0)], 0), (63, [(61, 5)], 16), (64, [(62, 6)], 63), (65, [(60, 4), (63, 7)], 127), (0, [(4, 0), (64, 8)], 255)], 36749372959343247360) | _, _ => ([], 0)
  call := fun g args => match g with | 200 => z3.pack args | 158 => z39.pack args | 164 => z41.pack args | 99 => z25.pack args | _ => none
  keep := fun f i => match f, i with | 161, 2 => ([0, 2, 3, 4, 6, 7, 41, 42, 47], [0, 1, 2], []) | 161, 0 => ([0, 2, 3, 4, 5], [0, 1], []) | _, _ => ([], [], [])
  keepE := fun f i => match f, i with | 161, 2 => ([0, 2, 3, 4, 6, 7, 41, 42, 47], [0, 1, 2], []) | 161, 0 => ([0, 2, 3, 4, 5], [0, 1], []) | _, _ => ([], [], [])
  keepR := fun f i => match f, i with | 161, 2 => ([2, 3], [0, 1, 2], [2, 3]) | 161, 0 => ([2, 3], [0, 1], [2, 3]) | _, _ => ([], [], [])
  L := fun f i b st => match f, i, b with | 161, 2, 0 => (orP ((matchSt z42.l2sh st).bind z42.l2pack) ((matchSt z42.l2ash st).bind z42.l2apack)) | 161, 0, 0 => (matchSt z42.l0aash st).bind z42.l0aapack | _, _, _ => none
def z42.dec : V → Option ((List Int) × Int)
  | (.tup [(.agg [(.ints _ .u64 x0)]), (.int .i64 x1)]) => some (x0, x1)
  | _ => none
theorem z42.l2_link (R : Type) (k : Env × Store → Option R) (d : X × Env × Store → Option R) (s2001 : List UInt8) (t2002 : Int) (k2003 : Int) (part2004 : Int) (s2005 : List Int) (s2006 : List Int) (s2007 : List UInt8) (s2008 : Nat) :
    z42.C.loopP 161 2 (loopAt 2 (ifun Tryz.f161).body) 3 k d (fillSt z42.l2sh [.s s2001, .i t2002, .i k2003, .i part2004, .li s2005, .li s2006, .s s2007, .n s2008]) =
    z42.l2P s2007 (fun x' => k (fillSt z42.l2sh [.s s2001, .i t2002, .i k2003, .i x'.1, .li s2005, .li s2006, .s s2007, .n x'.2])) (fun o => d (z42.l2out0 s2001 t2002 k2003 part2004 s2005 s2006 s2007 s2008 o)) (part2004, s2008) := by kernel_rfl
theorem z42.l2a_link (R : Type) (k : Env × Store → Option R) (d : X × Env × Store → Option R) (s3001 : List UInt8) (t3002 : Int) (k3003 : Int) (part3004 : Int) (t3005 : Int) (t3006 : Bool) (s3007 : List Int) (s3008 : List Int) (s3009 : List UInt8) (s3010 : Nat) :
    z42.C.loopP 161 2 (loopAt 2 (ifun Tryz.f161).body) 3 k d (fillSt z42.l2ash [.s s3001, .i t3002, .i k3003, .i part3004, .i t3005, .b t3006, .li s3007, .li s3008, .s s3009, .n s3010]) =
    z42.l2aP s3009 (fun x' => k (fillSt z42.l2ash [.s s3001, .i t3002, .i k3003, .i x'.1, .i t3005, .b t3006, .li s3007, .li s3008, .s s3009, .n x'.2])) (fun o => d (z42.l2aout0 s3001 t3002 k3003 part3004 t3005 t3006 s3007 s3008 s3009 s3010 o)) (part3004, s3010) := by kernel_rfl
theorem z42.l0aa_link (R : Type) (k : Env × Store → Option R) (d : X × Env × Store → Option R) (s5001 : List UInt8) (t5002 : Int) (first5003 : Bool) (s5004 : List Int) (s5005 : List Int) :
    z42.C.loopP 161 0 (loopAt 0 (ifun Tryz.f161).body) 2 k d (fillSt z42.l0aash [.s s5001, .i t5002, .b first5003, .li s5004, .li s5005]) =
    z42.l0aaP  (fun x' => k (fillSt z42.l0aash [.s x'.1, .i t5002, .b x'.2.1, .li s5004, .li x'.2.2])) (fun o => d (z42.l0aaout0 s5001 t5002 first5003 s5004 s5005 o)) (s5001, first5003, s5005) := by kernel_rfl
theorem z42.link (a0 : List UInt8) : z42.C.evTop 161 (ifun Tryz.f161) [(.str a0)] z42.dec = z42.F a0 := by kernel_rfl
def z44.l0sh : Env × Store := (.undef :: (.int .i64 (0 : Int)) :: (.ptr 0 0) :: .undef :: (.ptr 1 0) :: (.ptr 2 0) :: un 18 [], [(.cells [(.ints false .u64 [])]), (.cells [(.ints false .u64 [])]), (.cells [(.ints false .u64 [])])])
def z44.l0out0 (times1001 : Int) (s1002 : List Int) (s1003 : List Int) (s1004 : List Int) (o : Int × (List Int) × (List Int)) : X × Env × Store := ((.exit 0), fillSt z44.l0sh [.i o.1, .li o.2.1, .li s1003, .li o.2.2])
def z44.l0pack : List Leaf → Option LPack
  | [.i times1001, .li s1002, .li s1003, .li s1004] => some (.one _ (z44.l0 (times1001, s1002, s1004)) (z44.l0out0 times1001 s1002 s1003 s1004))
  | _ => none
def z44.C : Ctx where
  T := tab
  call := fun g args => match g with | 158 => z39.pack args | 164 => z41.pack args | _ => none
  keep := fun f i => match f, i with | 247, 0 => ([1, 2, 4, 5], [0, 1, 2], []) | _, _ => ([], [], [])
  keepE := fun f i => match f, i with | 247, 0 => ([1, 2, 4, 5], [0, 1, 2], []) | _, _ => ([], [], [])
  keepR := fun f i => match f, i with | 247, 0 => ([4], [0, 1, 2], [4]) | _, _ => ([], [], [])
  L := fun f i b st => match f, i, b with | 247, 0, 0 => (matchSt z44.l0sh st).bind z44.l0pack | _, _, _ => none
def z44.dec : V → Option ((List Int))
  | (.agg [(.ints _ .u64 x0)]) => some x0
  | _ => none
theorem z44.l0_link (R : Type) (k : Env × Store → Option R) (d : X × Env × Store → Option R) (times1001 : Int) (s1002 : List Int) (s1003 : List Int) (s1004 : List Int) :
    z44.C.loopP 247 0 (loopAt 0 (ifun Tryz.f247).body) 3 k d (fillSt z44.l0sh [.i times1001, .li s1002, .li s1003, .li s1004]) =
    z44.l0P  (fun x' => k (fillSt z44.l0sh [.i x'.1, .li x'.2.1, .li s1003, .li x'.2.2])) (fun o => d (z44.l0out0 times1001 s1002 s1003 s1004 o)) (times1001, s1002, s1004) := by kernel_rfl
theorem z44.link (a0 : List Int) (a1 : Int) : z44.C.evTop 247 (ifun Tryz.f247) [(.agg [(.ints false .u64 a0)]), (.int .i64 a1)] z44.dec = z44.F a0 a1 := by kernel_rfl
def z49.C : Ctx where
  T := tab
  call := fun g args => match g with | 158 => z39.pack args | 91 => z22.pack args | _ => none
def z49.dec : V → Option ((List Int) × Bool)
  | (.agg [(.ints _ .u64 x0), (.bool x1)]) => some (x0, x1)
  | _ => none
theorem z49.link (a0 : Int) : z49.C.evTop 69 (ifun Tryz.f69) [(.int .i64 a0)] z49.dec = z49.F a0 := by kernel_rfl
def z55.C : Ctx where
  T := tab
  draws := fun f i => match f, i with | 156, 1 => ([(6, [(2, 0)], 0), (7, [(5, 1)], 1), (8, [(3, 0)], 0), (9, [(7, 3)], 4), (10, [(6, 2), (8, 4)], 15), (11, [(2, 0)], 0), (12, [(10, 6)], 32), (13, [(3, 0)], 0), (14, [(12, 8)], 128), (15, [(11, 7), (13, 9)], 480), (16, [(9, 5), (14, 10)], 1023), (0, [(4, 0), (15, 11)], 2047)], 65504) | _, _ => ([], 0)
  call := fun g args => match g with | 164 => z41.pack args | 91 => z22.pack args | _ => none
def z55.dec : V → Option ((List Int) × Bool)
  | (.agg [(.ints _ .u64 x0), (.bool x1)]) => some (x0, x1)
  | _ => none
theorem z55.link (a0 : List Int) (a1 : Bool) (a2 : List Int) (a3 : Bool) : z55.C.evTop 156 (ifun Tryz.f156) [(.agg [(.ints false .u64 a0), (.bool a1)]), (.agg [(.ints false .u64 a2), (.bool a3)])] z55.dec = z55.F a0 a1 a2 a3 := by kernel_rfl
def z57.C : Ctx where
  T := tab
  draws := fun f i => match f, i with | 203, 1 => ([(6, [(2, 0)], 0), (7, [(5, 1)], 1), (8, [(1, 0)], 0), (9, [(2, 0)], 0), (10, [(8, 4)], 8), (11, [(7, 3), (9, 5)], 28), (12, [(10, 6)], 60), (13, [(6, 2), (11, 7)], 127), (0, [(4, 0), (12, 8)], 255)], 8160) | _, _ => ([], 0)
  call := fun g args => match g with | 204 => z56.pack args | 156 => z55.pack args | _ => none
def z57.dec : V → Option ((List Int) × Bool)
  | (.agg [(.ints _ .u64 x0), (.bool x1)]) => some (x0, x1)
  | _ => none
theorem z57.link (a0 : List Int) (a1 : Bool) (a2 : Int) (a3 : Int) : z57.C.evTop 203 (ifun Tryz.f203) [(.agg [(.ints false .u64 a0), (.bool a1), (.int .i64 a2)]), (.int .i64 a3)] z57.dec = z57.F a0 a1 a2 a3 := by kernel_rfl
def z60.C : Ctx where
  T := tab
def z60.dec : V → Option ((List Int))
  | (.agg [(.ints _ .u64 x0)]) => some x0
  | _ => none
theorem z60.link (a0 : List Int) (a1 : Bool) : z60.C.evTop 92 (ifun Tryz.f92) [(.agg [(.ints false .u64 a0), (.bool a1)])] z60.dec = z60.F a0 a1 := by kernel_rfl
def z70.C : Ctx where
  T := tab
  draws := fun f i => match f, i with | 123, 1 => ([(7, [(1, 0)], 0), (8, [(6, 1)], 1), (9, [(1, 0)], 0), (10, [(8, 3)], 4), (11, [(9, 4)], 12), (12, [(7, 2), (10, 5)], 31), (6, [(11, 6)], 63), (13, [(5, 7)], 127), (14, [(5, 7)], 127), (4, [], 0), (0, [(3, 10), (12, 8)], 767), (5, [(13, 9)], 2047)], 16376) | _, _ => ([], 0)
  call := fun g args => match g with | 204 => z56.pack args | 176 => z69.pack args | _ => none
def z70.dec : V → Option ((List Int) × Bool × (List Int))
  | (.agg [(.ints _ .u64 x0), (.bool x1), (.ints _ .u64 x2)]) => some (x0, x1, x2)
  | _ => none
theorem z70.link (a0 : List Int) (a1 : Bool) (a2 : Int) : z70.C.evTop 123 (ifun Tryz.f123) [(.agg [(.ints false .u64 a0), (.bool a1), (.int .i64 a2)])] z70.dec = z70.F a0 a1 a2 := by kernel_rfl
def z77.C : Ctx where
  T := tab
def z77.dec : V → Option (Bool)
  | (.bool x0) => some x0
  | _ => none
theorem z77.link (a0 : Int) : z77.C.evTop 214 (ifun Tryz.f214) [(.int .i64 a0)] z77.dec = z77.F a0 := by kernel_rfl
def z81.C : Ctx where
  T := tab
def z81.dec : V → Option ((List (List UInt8)))
  | (.strs _ x0) => some x0
  | _ => none
theorem z81.link  : z81.C.evTop 257 (ifun Tryz.f257) [] z81.dec = z81.F  := by kernel_rfl
def z86.C : Ctx where
  T := tab
  call := fun g args => match g with | 258 => z84.pack args | 259 => z85.pack args | _ => none
def z86.dec : V → Option (Int)
  | (.int .i64 x0) => some x0
  | _ => none
theorem z86.link (a0 : Int) (a1 : Int) : z86.C.evTop 210 (ifun Tryz.f210) [(.int .i64 a0), (.int .i64 a1)] z86.dec = z86.F a0 a1 := by kernel_rfl
def z91.C : Ctx where
  T := tab
  call := fun g args => match g with | 44 => z89.pack args | 138 => z90.pack args | _ => none
def z91.dec : V → Option ((List (List V)) × Int)
  | (.tup [(.recs _ 3 x0), (.int .i64 x1)]) => some (x0, x1)
  | _ => none
theorem z91.link (a0 : List UInt8) (a1 : List UInt8) (a2 : Int) (a3 : Int) (a4 : Int) (a5 : Int) (a6 : Int) (a7 : Int) (a8 : Int) (a9 : Int) : z91.C.evTop 48 (ifun Tryz.f48) [(.agg [(.str a0), (.str a1), (.int .i64 a2), (.int .i64 a3), (.int .i64 a4), (.int .i64 a5), (.int .i64 a6), (.int .i64 a7), (.int .i64 a8), (.int .i64 a9)])] z91.dec = z91.F a0 a1 a2 a3 a4 a5 a6 a7 a8 a9 := by kernel_rfl
def z92.l0sh : Env × Store := (.undef :: .undef :: (.sref 1 0) :: (.int .i64 (0 : Int)) :: .undef :: .undef :: (.sref 2 0) :: (.ptr 3 0) :: un 12 ((.recs false 3 []) :: (.int .i64 (0 : Int)) :: (.int .i64 (0 : Int)) :: un 12 []), [.dead, (.arr 0 true 109 (.recs false 6 [])), (.arr 0 true 109 (.recs false 6 [])), (.cells [(.int .i64 (0 : Int)), (.int .i64 (0 : Int)), (.int .i64 (0 : Int))])])
def z92.l0out0 (t1001 : Int) (t1002 : List (List V)) (t1003 : Int) (t1004 : Int) (s1005 : List (List V)) (s1006 : List (List V)) (s1007 : Int) (s1008 : Int) (s1009 : Int) (o : Int × (List (List V)) × Int × Int × Int) : X × Env × Store := ((.exit 0), fillSt z92.l0sh [.i t1001, .lr t1002, .i t1003, .i o.1, .lr s1005, .lr o.2.1, .i o.2.2.1, .i o.2.2.2.1, .i o.2.2.2.2])
def z92.l0pack : List Leaf → Option LPack
  | [.i t1001, .lr t1002, .i t1003, .i t1004, .lr s1005, .lr s1006, .i s1007, .i s1008, .i s1009] => some (.one _ (z92.l0 t1002 t1003 (t1004, s1006, s1007, s1008, s1009)) (z92.l0out0 t1001 t1002 t1003 t1004 s1005 s1006 s1007 s1008 s1009))
  | _ => none
def z92.C : Ctx where
  T := tab
  call := fun g args => match g with | 48 => z91.pack args | _ => none
  keep := fun f i => match f, i with | 49, 0 => ([2, 3, 6, 7, 20, 21, 22], [1, 2, 3], []) | _, _ => ([], [], [])
  keepE := fun f i => match f, i with | 49, 0 => ([2, 3, 6, 7, 20, 21, 22], [1, 2, 3], []) | _, _ => ([], [], [])
  keepR := fun f i => match f, i with | 49, 0 => ([2, 3], [1, 2, 3], [2, 3]) | _, _ => ([], [], [])
  L := fun f i b st => match f, i, b with | 49, 0, 0 => (matchSt z92.l0sh st).bind z92.l0pack | _, _, _ => none
def z92.dec : V → Option ((List (List V)) × Int)
  | (.tup [(.recs _ 6 x0), (.int .i64 x1)]) => some (x0, x1)
  | _ => none
theorem z92.l0_link (R : Type) (k : Env × Store → Option R) (d : X × Env × Store → Option R) (t1001 : Int) (t1002 : List (List V)) (t1003 : Int) (t1004 : Int) (s1005 : List (List V)) (s1006 : List (List V)) (s1007 : Int) (s1008 : Int) (s1009 : Int) :
    z92.C.loopP 49 0 (loopAt 0 (ifun Tryz.f49).body) 4 k d (fillSt z92.l0sh [.i t1001, .lr t1002, .i t1003, .i t1004, .lr s1005, .lr s1006, .i s1007, .i s1008, .i s1009]) =
    z92.l0P t1002 t1003 (fun x' => k (fillSt z92.l0sh [.i t1001, .lr t1002, .i t1003, .i x'.1, .lr s1005, .lr x'.2.1, .i x'.2.2.1, .i x'.2.2.2.1, .i x'.2.2.2.2])) (fun o => d (z92.l0out0 t1001 t1002 t1003 t1004 s1005 s1006 s1007 s1008 s1009 o)) (t1004, s1006, s1007, s1008, s1009) := by kernel_rfl
theorem z92.link (a0 : List UInt8) (a1 : List UInt8) (a2 : Int) (a3 : Int) (a4 : Int) (a5 : Int) (a6 : Int) (a7 : Int) (a8 : Int) (a9 : Int) : z92.C.evTop 49 (ifun Tryz.f49) [(.agg [(.str a0), (.str a1), (.int .i64 a2), (.int .i64 a3), (.int .i64 a4), (.int .i64 a5), (.int .i64 a6), (.int .i64 a7), (.int .i64 a8), (.int .i64 a9)])] z92.dec = z92.F a0 a1 a2 a3 a4 a5 a6 a7 a8 a9 := by kernel_rfl
def z98.C : Ctx where
  T := tab
  call := fun g args => match g with | 113 => z8.pack args | _ => none
def z98.dec : V → Option ((List Int) × Bool)
  | (.agg [(.ints _ .i64 x0), (.bool x1)]) => some (x0, x1)
  | _ => none
theorem z98.link (a0 : List Int) (a1 : Bool) : z98.C.evTop 35 (ifun Tryz.f35) [(.agg [(.ints false .i64 a0), (.bool a1)])] z98.dec = z98.F a0 a1 := by kernel_rfl
def z102.C : Ctx where
  T := tab
  call := fun g args => match g with | 170 => z99.pack args | 113 => z8.pack args | 171 => z100.pack args | 172 => z101.pack args | _ => none
def z102.dec : V → Option ((List Int) × Bool)
  | (.agg [(.ints _ .i64 x0), (.bool x1)]) => some (x0, x1)
  | _ => none
theorem z102.link (a0 : List Int) (a1 : Bool) (a2 : List Int) (a3 : Bool) : z102.C.evTop 85 (ifun Tryz.f85) [(.agg [(.ints false .i64 a0), (.bool a1)]), (.agg [(.ints false .i64 a2), (.bool a3)])] z102.dec = z102.F a0 a1 a2 a3 := by kernel_rfl
def z103.C : Ctx where
  T := tab
  call := fun g args => match g with | 35 => z98.pack args | 85 => z102.pack args | _ => none
def z103.dec : V → Option ((List Int) × Bool)
  | (.agg [(.ints _ .i64 x0), (.bool x1)]) => some (x0, x1)
  | _ => none
theorem z103.link (a0 : List Int) (a1 : Bool) (a2 : List Int) (a3 : Bool) : z103.C.evTop 63 (ifun Tryz.f63) [(.agg [(.ints false .i64 a0), (.bool a1)]), (.agg [(.ints false .i64 a2), (.bool a3)])] z103.dec = z103.F a0 a1 a2 a3 := by kernel_rfl
def z115.C : Ctx where
  T := tab
  call := fun g args => match g with | 207 => z114.pack args | 117 => z105.pack args | _ => none
def z115.dec : V → Option (Int)
  | (.int .i64 x0) => some x0
  | _ => none
theorem z115.link (a0 : List Int) (a1 : Bool) (a2 : List Int) (a3 : List Int) (a4 : Bool) (a5 : List Int) : z115.C.evTop 128 (ifun Tryz.f128) [(.agg [(.ints false .i64 a0), (.bool a1), (.ints false .i64 a2)]), (.agg [(.ints false .i64 a3), (.bool a4), (.ints false .i64 a5)])] z115.dec = z115.F a0 a1 a2 a3 a4 a5 := by kernel_rfl
def z122.C : Ctx where
  T := tab
  call := fun g args => match g with | 45 => z120.pack args | 139 => z121.pack args | _ => none
def z122.dec : V → Option ((List (List V)) × Int)
  | (.tup [(.recs _ 3 x0), (.int .i64 x1)]) => some (x0, x1)
  | _ => none
theorem z122.link (a0 : List UInt8) (a1 : List UInt8) (a2 : Int) (a3 : Int) (a4 : Int) (a5 : Int) (a6 : Int) (a7 : Int) (a8 : Int) (a9 : Int) : z122.C.evTop 50 (ifun Tryz.f50) [(.agg [(.str a0), (.str a1), (.int .i64 a2), (.int .i64 a3), (.int .i64 a4), (.int .i64 a5), (.int .i64 a6), (.int .i64 a7), (.int .i64 a8), (.int .i64 a9)])] z122.dec = z122.F a0 a1 a2 a3 a4 a5 a6 a7 a8 a9 := by kernel_rfl
def z127.C : Ctx where
  T := tab
  draws := fun f i => match f, i with | 53, 6 => ([(34, [(3, 0)], 0), (35, [(33, 1)], 1), (36, [(34, 2)], 3), (37, [(2, 0), (35, 3)], 7), (38, [(35, 3)], 7), (39, [(35, 3)], 7), (40, [(37, 5), (38, 6), (35, 3)], 55), (41, [(36, 4), (39, 7), (35, 3)], 127), (42, [(35, 3), (40, 8)], 255), (43, [(41, 9)], 511), (44, [(4, 0), (42, 10)], 1023), (45, [(43, 11), (42, 10)], 2047), (46, [(42, 10), (44, 12)], 4095), (47, [(45, 13)], 8191), (48, [(5, 0), (46, 14)], 16383), (49, [(47, 15), (46, 14)], 32767), (50, [(46, 14), (48, 16)], 65535), (51, [(49, 17)], 131071), (52, [(6, 0), (50, 18)], 262143), (53, [(51, 19), (50, 18)], 524287), (54, [(52, 20), (50, 18)], 1048575), (55, [(50, 18), (53, 21)], 2097151), (56, [(54, 22)], 4194303), (57, [(6, 0), (55, 23)], 8388607), (58, [(56, 24), (55, 23)], 16777215), (59, [(57, 25), (55, 23)], 33554431), (60, [(58, 26), (55, 23)], 67108863), (61, [(1, 0), (55, 23)], 8388607), (62, [(60, 28), (55, 23)], 142606335), (63, [(59, 27), (61, 29), (55, 23)], 536870911), (64, [(55, 23), (62, 30)], 1073741823), (65, [(63, 31)], 2147483647), (66, [(7, 0), (64, 32)], 4294967295), (67, [(65, 33), (64, 32)], 8589934591), (68, [(64, 32), (66, 34)], 17179869183), (69, [(67, 35)], 34359738367), (70, [(9, 0), (68, 36)], 68719476735), (71, [(69, 37), (68, 36)], 137438953471), (72, [(68, 36), (70, 38)], 274877906943), (1, [(71, 39)], 549755813887)], 4722366482861055279105) | _, _ => ([], 0)
  call := fun g args => match g with | 48 => z91.pack args | 55 => z126.pack args | 49 => z92.pack args | 51 => z123.pack args | _ => none
def z127.dec : V → Option (Bool)
  | (.bool x0) => some x0
  | _ => none
theorem z127.link  : z127.C.evTop 53 (ifun Tryz.f53) [] z127.dec = z127.F  := by kernel_rfl
def z129.l0sh : Env × Store := (.undef :: (.ptr 0 0) :: (.int .i64 (0 : Int)) :: (.int .i64 (0 : Int)) :: .undef :: (.int .i64 (0 : Int)) :: (.int .i64 (0 : Int)) :: un 24 [], [(.cells [(.int .i64 (0 : Int)), (.int .i64 (0 : Int)), (.int .i64 (0 : Int))])])
def z129.l0out0 (t1001 : Int) (t1002 : Int) (n1003 : Int) (m1004 : Int) (s1005 : Int) (s1006 : Int) (s1007 : Int) (o : Int × Int) : X × Env × Store := ((.exit 0), fillSt z129.l0sh [.i t1001, .i t1002, .i o.1, .i o.2, .i s1005, .i s1006, .i s1007])
def z129.l0pack : List Leaf → Option LPack
  | [.i t1001, .i t1002, .i n1003, .i m1004, .i s1005, .i s1006, .i s1007] => some (.one _ (z129.l0 s1005 s1006 (n1003, m1004)) (z129.l0out0 t1001 t1002 n1003 m1004 s1005 s1006 s1007))
  | _ => none
def z129.C : Ctx where
  T := tab
  call := fun g args => match g with | 142 => z87.pack args | 211 => z128.pack args | 210 => z86.pack args | _ => none
  keep := fun f i => match f, i with | 140, 0 => ([1, 2, 3, 5, 6], [0], []) | _, _ => ([], [], [])
  keepE := fun f i => match f, i with | 140, 0 => ([1, 2, 3, 5, 6], [0], []) | _, _ => ([], [], [])
  keepR := fun f i => match f, i with | 140, 0 => ([2, 3], [0], [2, 3]) | _, _ => ([], [], [])
  L := fun f i b st => match f, i, b with | 140, 0, 0 => (matchSt z129.l0sh st).bind z129.l0pack | _, _, _ => none
def z129.dec : V → Option (Int × Int)
  | (.tup [(.int .i64 x0), (.int .i64 x1)]) => some (x0, x1)
  | _ => none
theorem z129.l0_link (R : Type) (k : Env × Store → Option R) (d : X × Env × Store → Option R) (t1001 : Int) (t1002 : Int) (n1003 : Int) (m1004 : Int) (s1005 : Int) (s1006 : Int) (s1007 : Int) :
    z129.C.loopP 140 0 (loopAt 0 (ifun Tryz.f140).body) 1 k d (fillSt z129.l0sh [.i t1001, .i t1002, .i n1003, .i m1004, .i s1005, .i s1006, .i s1007]) =
    z129.l0P s1005 s1006 (fun x' => k (fillSt z129.l0sh [.i t1001, .i t1002, .i x'.1, .i x'.2, .i s1005, .i s1006, .i s1007])) (fun o => d (z129.l0out0 t1001 t1002 n1003 m1004 s1005 s1006 s1007 o)) (n1003, m1004) := by kernel_rfl
theorem z129.link (a0 : Int) (a1 : Int) (a2 : Int) : z129.C.evTop 140 (ifun Tryz.f140) [(.agg [(.int .i64 a0), (.int .i64 a1), (.int .i64 a2)])] z129.dec = z129.F a0 a1 a2 := by kernel_rfl
end
end Go.Proofs.YtgjncgiekniniaaGreatDoor.A
end
section
set_option linter.unusedVariables false
set_option linter.unusedSimpArgs false
set_option maxRecDepth 100000
namespace Go.Proofs.YtgjncgiekniniaaGreatDoor.A
open Go
noncomputable section
theorem tab_ok : tab.check Tryz.prog = true := by kernel_rfl
def tabC : Ctx where
  T := tab
theorem mixed_ok : Tryz.prog.follows .mixedOrders = true := by kernel_rfl
theorem z6.l2_sound (hI : InlOK Tryz.prog z6.C fun R => z6.C.inlK 6) : LoopS z6.C 6 102 2 0 (loopAt 2 (ifun Tryz.f102).body) z6.l2sh z6.l2pack := by
  refine loopS fun ls p h => ?_
  unfold z6.l2pack at h; split at h <;> cases h
  rename_i a2001 t2002 s2003 i2004 d2005 k2006
  exact loop_one hI (sh := z6.l2sh) (so := z6.l2sh) (F := fun R rec done x => z6.l2P  rec done x) (enc := fun (x' : ((List UInt8) × Int × Int)) => fillSt z6.l2sh [.li a2001, .s t2002, .s x'.1, .i i2004, .i x'.2.1, .i x'.2.2]) [2, 4, 5] [2, 4, 5] (s2003, d2005, k2006) (by kernel_rfl) (by kernel_rfl) (fun x => by kernel_rfl) (fun o => by kernel_rfl) fun R k d x' => z6.l2_link R k d a2001 t2002 (x'.1) i2004 (x'.2.1) (x'.2.2)
theorem z6.l0_sound (hI : InlOK Tryz.prog z6.C fun R => z6.C.inlK 6) : LoopS z6.C 6 102 0 0 (loopAt 0 (ifun Tryz.f102).body) z6.l0sh z6.l0pack := by
  refine loopS fun ls p h => ?_
  unfold z6.l0pack at h; split at h <;> cases h
  rename_i a1001 t1002 s1003 i1004
  exact loop_one hI (sh := z6.l0sh) (so := z6.l0sh) (F := fun R rec done x => z6.l0P a1001 rec done x) (enc := fun (x' : ((List UInt8) × Int)) => fillSt z6.l0sh [.li a1001, .s t1002, .s x'.1, .i x'.2]) [2, 3] [2, 3] (s1003, i1004) (by kernel_rfl) (by kernel_rfl) (fun x => by kernel_rfl) (fun o => by kernel_rfl) fun R k d x' => z6.l0_link R k d a1001 t1002 (x'.1) (x'.2)
theorem z6.l4_sound (hI : InlOK Tryz.prog z6.C fun R => z6.C.inlK 6) : LoopS z6.C 6 102 4 0 (loopAt 4 (ifun Tryz.f102).body) z6.l4sh z6.l4pack := by
  refine loopS fun ls p h => ?_
  unfold z6.l4pack at h; split at h <;> cases h
  rename_i t3001 s3002 i3003
  exact loop_one hI (sh := z6.l4sh) (so := z6.l4sh) (F := fun R rec done x => z6.l4P s3002 rec done x) (enc := fun (x' : Int) => fillSt z6.l4sh [.s t3001, .s s3002, .i x']) [2] [2] i3003 (by kernel_rfl) (by kernel_rfl) (fun x => by kernel_rfl) (fun o => by kernel_rfl) fun R k d x' => z6.l4_link R k d t3001 s3002 (x')
theorem fun102 : FunOK Tryz.prog 102 Tryz.f102 (ifun Tryz.f102).body := ⟨Tryz.func102, rfl, by kernel_rfl⟩
theorem once102 : loopsOnce (ifun Tryz.f102).body = true := by kernel_rfl
theorem z6.loopsT (hI : InlOK Tryz.prog z6.C fun R => z6.C.inlK 6) : LoopsOK z6.C (fun R => z6.C.inlK 6) 102 0 (ifun Tryz.f102).body := by
  intro id b hm st p hp
  obtain rfl := loopsOnce_mem once102 hm
  unfold z6.C at hp
  simp only at hp
  try split at hp
  all_goals first
    | (simp at hp; done)
    | (exfalso; omega)
    | exact z6.l2_sound hI st p hp
    | exact z6.l0_sound hI st p hp
    | exact z6.l4_sound hI st p hp
theorem z6.hdec : DecOK z6.dec z6.enc := by
  intro v r h
  unfold z6.dec at h; split at h <;> cases h
  exact ⟨rfl, rfl⟩
theorem z6.sound (vs : List V) (p : Pack) (h : z6.pack vs = some p) : SoundC Tryz.prog 102 vs p := by
  unfold z6.pack at h; split at h <;> cases h
  exact loops_sound tab_ok mixed_ok rfl rfl rfl (fun g vs p h => by simp [z6.C] at h) fun102 z6.loopsT rfl (z6.link _) z6.hdec
theorem fun26 : FunOK Tryz.prog 26 Tryz.f26 (ifun Tryz.f26).body := ⟨Tryz.func26, rfl, by kernel_rfl⟩
theorem z7.hdec : DecOK z7.dec z7.enc := by
  intro v r h
  unfold z7.dec at h; split at h <;> cases h
  exact ⟨rfl, rfl⟩
theorem z7.sound (vs : List V) (p : Pack) (h : z7.pack vs = some p) : SoundC Tryz.prog 26 vs p := by
  unfold z7.pack at h; split at h <;> cases h
  exact plain_sound tab_ok mixed_ok rfl rfl rfl rfl (fun g vs p h => by unfold z7.C at h; simp only at h; split at h; exact z6.sound vs p h; simp at h) fun26 rfl (z7.link _ _) z7.hdec
theorem fun113 : FunOK Tryz.prog 113 Tryz.f113 (ifun Tryz.f113).body := ⟨Tryz.func113, rfl, by kernel_rfl⟩
theorem z8.hdec : DecOK z8.dec z8.enc := by
  intro v r h
  unfold z8.dec at h; split at h <;> cases h
  exact ⟨rfl, rfl⟩
theorem z8.sound (vs : List V) (p : Pack) (h : z8.pack vs = some p) : SoundC Tryz.prog 113 vs p := by
  unfold z8.pack at h; split at h <;> cases h
  exact plain_sound tab_ok mixed_ok rfl rfl rfl rfl (fun g vs p h => by simp [z8.C] at h) fun113 rfl (z8.link _ _) z8.hdec
theorem z9.l0_sound (hI : InlOK Tryz.prog z9.C fun R => z9.C.inlK 6) : LoopS z9.C 6 152 0 0 (loopAt 0 (ifun Tryz.f152).body) z9.l0sh z9.l0pack := by
  refine loopS fun ls p h => ?_
  unfold z9.l0pack at h; split at h <;> cases h
  rename_i n1001 s1002 s1003
  exact loop_one hI (sh := z9.l0sh) (so := z9.l0sh) (F := fun R rec done x => z9.l0P  rec done x) (enc := fun (x' : (Int × (List Int))) => fillSt z9.l0sh [.i x'.1, .li s1002, .li x'.2]) [0, 2] [0, 2] (n1001, s1003) (by kernel_rfl) (by kernel_rfl) (fun x => by kernel_rfl) (fun o => by kernel_rfl) fun R k d x' => z9.l0_link R k d (x'.1) s1002 (x'.2)
theorem fun152 : FunOK Tryz.prog 152 Tryz.f152 (ifun Tryz.f152).body := ⟨Tryz.func152, rfl, by kernel_rfl⟩
theorem once152 : loopsOnce (ifun Tryz.f152).body = true := by kernel_rfl
theorem z9.loopsT (hI : InlOK Tryz.prog z9.C fun R => z9.C.inlK 6) : LoopsOK z9.C (fun R => z9.C.inlK 6) 152 0 (ifun Tryz.f152).body := by
  intro id b hm st p hp
  obtain rfl := loopsOnce_mem once152 hm
  unfold z9.C at hp
  simp only at hp
  try split at hp
  all_goals first
    | (simp at hp; done)
    | (exfalso; omega)
    | exact z9.l0_sound hI st p hp
theorem z9.hdec : DecOK z9.dec z9.enc := by
  intro v r h
  unfold z9.dec at h; split at h <;> cases h
  exact ⟨rfl, rfl⟩
theorem z9.sound (vs : List V) (p : Pack) (h : z9.pack vs = some p) : SoundC Tryz.prog 152 vs p := by
  unfold z9.pack at h; split at h <;> cases h
  exact loops_sound tab_ok mixed_ok rfl rfl rfl (fun g vs p h => by simp [z9.C] at h) fun152 z9.loopsT rfl (z9.link _) z9.hdec
theorem fun60 : FunOK Tryz.prog 60 Tryz.f60 (ifun Tryz.f60).body := ⟨Tryz.func60, rfl, by kernel_rfl⟩
theorem z10.hdec : DecOK z10.dec z10.enc := by
  intro v r h
  unfold z10.dec at h; split at h <;> cases h
  exact ⟨rfl, rfl⟩
theorem z10.sound (vs : List V) (p : Pack) (h : z10.pack vs = some p) : SoundC Tryz.prog 60 vs p := by
  unfold z10.pack at h; split at h <;> cases h
  exact plain_sound tab_ok mixed_ok rfl rfl rfl rfl (fun g vs p h => by unfold z10.C at h; simp only at h; split at h; exact z9.sound vs p h; exact z8.sound vs p h; simp at h) fun60 rfl (z10.link _) z10.hdec
theorem fun219 : FunOK Tryz.prog 219 Tryz.f219 (ifun Tryz.f219).body := ⟨Tryz.func219, rfl, by kernel_rfl⟩
theorem z11.hdec : DecOK z11.dec z11.enc := by
  intro v r h
  unfold z11.dec at h; split at h <;> cases h
  exact ⟨rfl, rfl⟩
theorem z11.sound (vs : List V) (p : Pack) (h : z11.pack vs = some p) : SoundC Tryz.prog 219 vs p := by
  unfold z11.pack at h; split at h <;> cases h
  exact plain_sound tab_ok mixed_ok rfl rfl rfl rfl (fun g vs p h => by simp [z11.C] at h) fun219 rfl (z11.link _) z11.hdec
theorem fun153 : FunOK Tryz.prog 153 Tryz.f153 (ifun Tryz.f153).body := ⟨Tryz.func153, rfl, by kernel_rfl⟩
theorem z12.hdec : DecOK z12.dec z12.enc := by
  intro v r h
  unfold z12.dec at h; split at h <;> cases h
  exact ⟨rfl, rfl⟩
theorem z12.sound (vs : List V) (p : Pack) (h : z12.pack vs = some p) : SoundC Tryz.prog 153 vs p := by
  unfold z12.pack at h; split at h <;> cases h
  exact plain_sound tab_ok mixed_ok rfl rfl rfl rfl (fun g vs p h => by unfold z12.C at h; simp only at h; split at h; exact z11.sound vs p h; simp at h) fun153 rfl (z12.link _ _) z12.hdec
theorem fun95 : FunOK Tryz.prog 95 Tryz.f95 (ifun Tryz.f95).body := ⟨Tryz.func95, rfl, by kernel_rfl⟩
theorem z13.hdec : DecOK z13.dec z13.enc := by
  intro v r h
  unfold z13.dec at h; split at h <;> cases h
  exact ⟨rfl, rfl⟩
theorem z13.sound (vs : List V) (p : Pack) (h : z13.pack vs = some p) : SoundC Tryz.prog 95 vs p := by
  unfold z13.pack at h; split at h <;> cases h
  exact plain_sound tab_ok mixed_ok rfl rfl rfl rfl (fun g vs p h => by unfold z13.C at h; simp only at h; split at h; exact z12.sound vs p h; simp at h) fun95 rfl (z13.link _ _ _ _) z13.hdec
theorem fun234 : FunOK Tryz.prog 234 Tryz.f234 (ifun Tryz.f234).body := ⟨Tryz.func234, rfl, by kernel_rfl⟩
theorem z14.hdec : DecOK z14.dec z14.enc := by
  intro v r h
  unfold z14.dec at h; split at h <;> cases h
  exact ⟨rfl, rfl⟩
theorem z14.sound (vs : List V) (p : Pack) (h : z14.pack vs = some p) : SoundC Tryz.prog 234 vs p := by
  unfold z14.pack at h; split at h <;> cases h
  exact plain_sound tab_ok mixed_ok rfl rfl rfl rfl (fun g vs p h => by simp [z14.C] at h) fun234 rfl (z14.link _ _) z14.hdec
theorem z15.l0b6_sound (hI : InlOK Tryz.prog z15.C fun R => z15.C.inlK 6) : LoopS z15.C 6 235 0 0 (loopAt 0 (ifun Tryz.f235).body) z15.l0b6sh z15.l0b6pack := by
  refine loopS fun ls p h => ?_
  unfold z15.l0b6pack at h; split at h <;> cases h
  rename_i a7001 n7002 s7003
  exact loop_one hI (sh := z15.l0b6sh) (so := z15.l0b6sh) (F := fun R rec done x => z15.l0b6P a7001 rec done x) (enc := fun (x' : Int) => fillSt z15.l0b6sh [.li a7001, .i x', .li s7003]) [1] [1] n7002 (by kernel_rfl) (by kernel_rfl) (fun x => by kernel_rfl) (fun o => by kernel_rfl) fun R k d x' => z15.l0b6_link R k d a7001 (x') s7003
theorem fun235 : FunOK Tryz.prog 235 Tryz.f235 (ifun Tryz.f235).body := ⟨Tryz.func235, rfl, by kernel_rfl⟩
theorem once235 : loopsOnce (ifun Tryz.f235).body = true := by kernel_rfl
theorem z15.loopsT (hI : InlOK Tryz.prog z15.C fun R => z15.C.inlK 6) : LoopsOK z15.C (fun R => z15.C.inlK 6) 235 0 (ifun Tryz.f235).body := by
  intro id b hm st p hp
  obtain rfl := loopsOnce_mem once235 hm
  unfold z15.C at hp
  simp only at hp
  try split at hp
  all_goals first
    | (simp at hp; done)
    | (exfalso; omega)
    | exact z15.l0b6_sound hI st p hp
theorem z15.hdec : DecOK z15.dec z15.enc := by
  intro v r h
  unfold z15.dec at h; split at h <;> cases h
  exact ⟨rfl, rfl⟩
theorem z15.sound (vs : List V) (p : Pack) (h : z15.pack vs = some p) : SoundC Tryz.prog 235 vs p := by
  unfold z15.pack at h; split at h <;> cases h
  exact loops_sound tab_ok mixed_ok rfl rfl rfl (fun g vs p h => by simp [z15.C] at h) fun235 z15.loopsT rfl (z15.link _) z15.hdec
theorem z16.l2aa_sound (hI : InlOK Tryz.prog z16.C fun R => z16.C.inlK 6) : LoopS z16.C 6 208 2 0 (loopAt 2 (ifun Tryz.f208).body) z16.l2aash z16.l2aapack := by
  refine loopS fun ls p h => ?_
  unfold z16.l2aapack at h; split at h <;> cases h
  rename_i a4001 b4002 i4003 carry4004 k4005 s4006 s4007
  exact loop_one hI (sh := z16.l2aash) (so := z16.l2aash) (F := fun R rec done x => z16.l2aaP a4001 b4002 i4003 rec done x) (enc := fun (x' : (Int × Int × (List Int))) => fillSt z16.l2aash [.li a4001, .li b4002, .i i4003, .i x'.1, .i x'.2.1, .li s4006, .li x'.2.2]) [3, 4, 6] [3, 4, 6] (carry4004, k4005, s4007) (by kernel_rfl) (by kernel_rfl) (fun x => by kernel_rfl) (fun o => by kernel_rfl) fun R k d x' => z16.l2aa_link R k d a4001 b4002 i4003 (x'.1) (x'.2.1) s4006 (x'.2.2)
theorem z16.l0_sound (hI : InlOK Tryz.prog z16.C fun R => z16.C.inlK 6) : LoopS z16.C 6 208 0 0 (loopAt 0 (ifun Tryz.f208).body) z16.l0sh z16.l0pack := by
  refine loopS fun ls p h => ?_
  unfold z16.l0pack at h; split at h <;> cases h
  rename_i a1001 b1002 i1003 s1004 s1005
  exact loop_one hI (sh := z16.l0sh) (so := z16.l0sh) (F := fun R rec done x => z16.l0P a1001 b1002 rec done x) (enc := fun (x' : (Int × (List Int))) => fillSt z16.l0sh [.li a1001, .li b1002, .i x'.1, .li s1004, .li x'.2]) [2, 4] [2, 4] (i1003, s1005) (by kernel_rfl) (by kernel_rfl) (fun x => by kernel_rfl) (fun o => by kernel_rfl) fun R k d x' => z16.l0_link R k d a1001 b1002 (x'.1) s1004 (x'.2)
theorem fun208 : FunOK Tryz.prog 208 Tryz.f208 (ifun Tryz.f208).body := ⟨Tryz.func208, rfl, by kernel_rfl⟩
theorem once208 : loopsOnce (ifun Tryz.f208).body = true := by kernel_rfl
theorem z16.loopsT (hI : InlOK Tryz.prog z16.C fun R => z16.C.inlK 6) : LoopsOK z16.C (fun R => z16.C.inlK 6) 208 0 (ifun Tryz.f208).body := by
  intro id b hm st p hp
  obtain rfl := loopsOnce_mem once208 hm
  unfold z16.C at hp
  simp only at hp
  try split at hp
  all_goals first
    | (simp at hp; done)
    | (exfalso; omega)
    | exact z16.l2aa_sound hI st p hp
    | exact z16.l0_sound hI st p hp
theorem z16.hdec : DecOK z16.dec z16.enc := by
  intro v r h
  unfold z16.dec at h; split at h <;> cases h
  exact ⟨rfl, rfl⟩
theorem z16.sound (vs : List V) (p : Pack) (h : z16.pack vs = some p) : SoundC Tryz.prog 208 vs p := by
  unfold z16.pack at h; split at h <;> cases h
  exact loops_sound tab_ok mixed_ok rfl rfl rfl (fun g vs p h => by unfold z16.C at h; simp only at h; split at h; exact z14.sound vs p h; exact z15.sound vs p h; simp at h) fun208 z16.loopsT rfl (z16.link _ _) z16.hdec
theorem fun131 : FunOK Tryz.prog 131 Tryz.f131 (ifun Tryz.f131).body := ⟨Tryz.func131, rfl, by kernel_rfl⟩
theorem z17.hdec : DecOK z17.dec z17.enc := by
  intro v r h
  unfold z17.dec at h; split at h <;> cases h
  exact ⟨rfl, rfl⟩
theorem z17.sound (vs : List V) (p : Pack) (h : z17.pack vs = some p) : SoundC Tryz.prog 131 vs p := by
  unfold z17.pack at h; split at h <;> cases h
  exact plain_sound tab_ok mixed_ok rfl rfl rfl rfl (fun g vs p h => by unfold z17.C at h; simp only at h; split at h; exact z16.sound vs p h; exact z8.sound vs p h; simp at h) fun131 rfl (z17.link _ _ _ _) z17.hdec
theorem z18.l0_sound (hI : InlOK Tryz.prog z18.C fun R => z18.C.inlK 6) : LoopS z18.C 6 132 0 0 (loopAt 0 (ifun Tryz.f132).body) z18.l0sh z18.l0pack := by
  refine loopS fun ls p h => ?_
  unfold z18.l0pack at h; split at h <;> cases h
  rename_i t1001 s1002 s1003 s1004 s1005
  exact loop_one hI (sh := z18.l0sh) (so := z18.l0sh) (F := fun R rec done x => z18.l0P s1005 rec done x) (enc := fun (x' : ((List UInt8))) => fillSt z18.l0sh [.s t1001, .s x', .li s1003, .b s1004, .i s1005]) [1] [1] s1002 (by kernel_rfl) (by kernel_rfl) (fun x => by kernel_rfl) (fun o => by kernel_rfl) fun R k d x' => z18.l0_link R k d t1001 (x') s1003 s1004 s1005
theorem fun132 : FunOK Tryz.prog 132 Tryz.f132 (ifun Tryz.f132).body := ⟨Tryz.func132, rfl, by kernel_rfl⟩
theorem once132 : loopsOnce (ifun Tryz.f132).body = true := by kernel_rfl
theorem z18.loopsT (hI : InlOK Tryz.prog z18.C fun R => z18.C.inlK 6) : LoopsOK z18.C (fun R => z18.C.inlK 6) 132 0 (ifun Tryz.f132).body := by
  intro id b hm st p hp
  obtain rfl := loopsOnce_mem once132 hm
  unfold z18.C at hp
  simp only at hp
  try split at hp
  all_goals first
    | (simp at hp; done)
    | (exfalso; omega)
    | exact z18.l0_sound hI st p hp
theorem z18.hdec : DecOK z18.dec z18.enc := by
  intro v r h
  unfold z18.dec at h; split at h <;> cases h
  exact ⟨rfl, rfl⟩
theorem z18.sound (vs : List V) (p : Pack) (h : z18.pack vs = some p) : SoundC Tryz.prog 132 vs p := by
  unfold z18.pack at h; split at h <;> cases h
  exact loops_sound tab_ok mixed_ok rfl rfl rfl (fun g vs p h => by unfold z18.C at h; simp only at h; split at h; exact z6.sound vs p h; simp at h) fun132 z18.loopsT rfl (z18.link _ _ _) z18.hdec
theorem fun43 : FunOK Tryz.prog 43 Tryz.f43 (ifun Tryz.f43).body := ⟨Tryz.func43, rfl, by kernel_rfl⟩
theorem z19.hdec : DecOK z19.dec z19.enc := by
  intro v r h
  unfold z19.dec at h; split at h <;> cases h
  exact ⟨rfl, rfl⟩
theorem z19.sound (vs : List V) (p : Pack) (h : z19.pack vs = some p) : SoundC Tryz.prog 43 vs p := by
  unfold z19.pack at h; split at h <;> cases h
  exact plain_sound tab_ok mixed_ok rfl rfl rfl rfl (fun g vs p h => by unfold z19.C at h; simp only at h; split at h; exact z13.sound vs p h; exact z10.sound vs p h; exact z17.sound vs p h; exact z7.sound vs p h; exact z18.sound vs p h; simp at h) fun43 rfl (z19.link _ _ _ _ _ _ _ _ _ _ _ _ _) z19.hdec
theorem fun104 : FunOK Tryz.prog 104 Tryz.f104 (ifun Tryz.f104).body := ⟨Tryz.func104, rfl, by kernel_rfl⟩
theorem z20.hdec : DecOK z20.dec z20.enc := by
  intro v r h
  unfold z20.dec at h; split at h <;> cases h
  exact ⟨rfl, rfl⟩
theorem z20.sound (vs : List V) (p : Pack) (h : z20.pack vs = some p) : SoundC Tryz.prog 104 vs p := by
  unfold z20.pack at h; split at h <;> cases h
  exact plain_sound tab_ok mixed_ok rfl rfl rfl rfl (fun g vs p h => by simp [z20.C] at h) fun104 rfl (z20.link _) z20.hdec
theorem fun28 : FunOK Tryz.prog 28 Tryz.f28 (ifun Tryz.f28).body := ⟨Tryz.func28, rfl, by kernel_rfl⟩
theorem z21.hdec : DecOK z21.dec z21.enc := by
  intro v r h
  unfold z21.dec at h; split at h <;> cases h
  exact ⟨rfl, rfl⟩
theorem z21.sound (vs : List V) (p : Pack) (h : z21.pack vs = some p) : SoundC Tryz.prog 28 vs p := by
  unfold z21.pack at h; split at h <;> cases h
  exact plain_sound tab_ok mixed_ok rfl rfl rfl rfl (fun g vs p h => by unfold z21.C at h; simp only at h; split at h; exact z20.sound vs p h; simp at h) fun28 rfl (z21.link _ _) z21.hdec
theorem fun91 : FunOK Tryz.prog 91 Tryz.f91 (ifun Tryz.f91).body := ⟨Tryz.func91, rfl, by kernel_rfl⟩
theorem z22.hdec : DecOK z22.dec z22.enc := by
  intro v r h
  unfold z22.dec at h; split at h <;> cases h
  exact ⟨rfl, rfl⟩
theorem z22.sound (vs : List V) (p : Pack) (h : z22.pack vs = some p) : SoundC Tryz.prog 91 vs p := by
  unfold z22.pack at h; split at h <;> cases h
  exact plain_sound tab_ok mixed_ok rfl rfl rfl rfl (fun g vs p h => by unfold z22.C at h; simp only at h; split at h; exact z20.sound vs p h; simp at h) fun91 rfl (z22.link _ _) z22.hdec
theorem fun184 : FunOK Tryz.prog 184 Tryz.f184 (ifun Tryz.f184).body := ⟨Tryz.func184, rfl, by kernel_rfl⟩
theorem z23.hdec : DecOK z23.dec z23.enc := by
  intro v r h
  unfold z23.dec at h; split at h <;> cases h
  exact ⟨rfl, rfl⟩
theorem z23.sound (vs : List V) (p : Pack) (h : z23.pack vs = some p) : SoundC Tryz.prog 184 vs p := by
  unfold z23.pack at h; split at h <;> cases h
  exact plain_sound tab_ok mixed_ok rfl rfl rfl rfl (fun g vs p h => by simp [z23.C] at h) fun184 rfl (z23.link _ _) z23.hdec
theorem z24.l0b6_sound (hI : InlOK Tryz.prog z24.C fun R => z24.C.inlK 6) : LoopS z24.C 6 185 0 0 (loopAt 0 (ifun Tryz.f185).body) z24.l0b6sh z24.l0b6pack := by
  refine loopS fun ls p h => ?_
  unfold z24.l0b6pack at h; split at h <;> cases h
  rename_i l7001 n7002 s7003
  exact loop_one hI (sh := z24.l0b6sh) (so := z24.l0b6sh) (F := fun R rec done x => z24.l0b6P l7001 rec done x) (enc := fun (x' : Int) => fillSt z24.l0b6sh [.li l7001, .i x', .li s7003]) [1] [1] n7002 (by kernel_rfl) (by kernel_rfl) (fun x => by kernel_rfl) (fun o => by kernel_rfl) fun R k d x' => z24.l0b6_link R k d l7001 (x') s7003
theorem fun185 : FunOK Tryz.prog 185 Tryz.f185 (ifun Tryz.f185).body := ⟨Tryz.func185, rfl, by kernel_rfl⟩
theorem once185 : loopsOnce (ifun Tryz.f185).body = true := by kernel_rfl
theorem z24.loopsT (hI : InlOK Tryz.prog z24.C fun R => z24.C.inlK 6) : LoopsOK z24.C (fun R => z24.C.inlK 6) 185 0 (ifun Tryz.f185).body := by
  intro id b hm st p hp
  obtain rfl := loopsOnce_mem once185 hm
  unfold z24.C at hp
  simp only at hp
  try split at hp
  all_goals first
    | (simp at hp; done)
    | (exfalso; omega)
    | exact z24.l0b6_sound hI st p hp
theorem z24.hdec : DecOK z24.dec z24.enc := by
  intro v r h
  unfold z24.dec at h; split at h <;> cases h
  exact ⟨rfl, rfl⟩
theorem z24.sound (vs : List V) (p : Pack) (h : z24.pack vs = some p) : SoundC Tryz.prog 185 vs p := by
  unfold z24.pack at h; split at h <;> cases h
  exact loops_sound tab_ok mixed_ok rfl rfl rfl (fun g vs p h => by simp [z24.C] at h) fun185 z24.loopsT rfl (z24.link _) z24.hdec
theorem z25.l0_sound (hI : InlOK Tryz.prog z25.C fun R => z25.C.inlK 6) : LoopS z25.C 6 99 0 0 (loopAt 0 (ifun Tryz.f99).body) z25.l0sh z25.l0pack := by
  refine loopS fun ls p h => ?_
  unfold z25.l0pack at h; split at h <;> cases h
  rename_i carry1001 t1002 t1003 s1004 s1005 s1006 s1007
  exact loop_one hI (sh := z25.l0sh) (so := z25.l0sh) (F := fun R rec done x => z25.l0P t1002 s1004 s1005 rec done x) (enc := fun (x' : (Int × Int × (List Int))) => fillSt z25.l0sh [.i x'.1, .i t1002, .i x'.2.1, .li s1004, .li s1005, .li s1006, .li x'.2.2]) [0, 2, 6] [0, 2, 6] (carry1001, t1003, s1007) (by kernel_rfl) (by kernel_rfl) (fun x => by kernel_rfl) (fun o => by kernel_rfl) fun R k d x' => z25.l0_link R k d (x'.1) t1002 (x'.2.1) s1004 s1005 s1006 (x'.2.2)
theorem fun99 : FunOK Tryz.prog 99 Tryz.f99 (ifun Tryz.f99).body := ⟨Tryz.func99, rfl, by kernel_rfl⟩
theorem once99 : loopsOnce (ifun Tryz.f99).body = true := by kernel_rfl
theorem z25.loopsT (hI : InlOK Tryz.prog z25.C fun R => z25.C.inlK 6) : LoopsOK z25.C (fun R => z25.C.inlK 6) 99 0 (ifun Tryz.f99).body := by
  intro id b hm st p hp
  obtain rfl := loopsOnce_mem once99 hm
  unfold z25.C at hp
  simp only at hp
  try split at hp
  all_goals first
    | (simp at hp; done)
    | (exfalso; omega)
    | exact z25.l0_sound hI st p hp
theorem z25.hdec : DecOK z25.dec z25.enc := by
  intro v r h
  unfold z25.dec at h; split at h <;> cases h
  exact ⟨rfl, rfl⟩
theorem z25.sound (vs : List V) (p : Pack) (h : z25.pack vs = some p) : SoundC Tryz.prog 99 vs p := by
  unfold z25.pack at h; split at h <;> cases h
  exact loops_sound tab_ok mixed_ok rfl rfl rfl (fun g vs p h => by unfold z25.C at h; simp only at h; split at h; exact z23.sound vs p h; exact z0.sound vs p h; exact z24.sound vs p h; simp at h) fun99 z25.loopsT rfl (z25.link _ _) z25.hdec
theorem fun212 : FunOK Tryz.prog 212 Tryz.f212 (ifun Tryz.f212).body := ⟨Tryz.func212, rfl, by kernel_rfl⟩
theorem z26.hdec : DecOK z26.dec z26.enc := by
  intro v r h
  unfold z26.dec at h; split at h <;> cases h
  exact ⟨rfl, rfl⟩
theorem z26.sound (vs : List V) (p : Pack) (h : z26.pack vs = some p) : SoundC Tryz.prog 212 vs p := by
  unfold z26.pack at h; split at h <;> cases h
  exact plain_sound tab_ok mixed_ok rfl rfl rfl rfl (fun g vs p h => by simp [z26.C] at h) fun212 rfl (z26.link _) z26.hdec
theorem fun146 : FunOK Tryz.prog 146 Tryz.f146 (ifun Tryz.f146).body := ⟨Tryz.func146, rfl, by kernel_rfl⟩
theorem z27.hdec : DecOK z27.dec z27.enc := by
  intro v r h
  unfold z27.dec at h; split at h <;> cases h
  exact ⟨rfl, rfl⟩
theorem z27.sound (vs : List V) (p : Pack) (h : z27.pack vs = some p) : SoundC Tryz.prog 146 vs p := by
  unfold z27.pack at h; split at h <;> cases h
  exact plain_sound tab_ok mixed_ok rfl rfl rfl rfl (fun g vs p h => by unfold z27.C at h; simp only at h; split at h; exact z26.sound vs p h; simp at h) fun146 rfl (z27.link _ _) z27.hdec
theorem fun273 : FunOK Tryz.prog 273 Tryz.f273 (ifun Tryz.f273).body := ⟨Tryz.func273, rfl, by kernel_rfl⟩
theorem z28.hdec : DecOK z28.dec z28.enc := by
  intro v r h
  unfold z28.dec at h; split at h <;> cases h
  exact ⟨rfl, rfl⟩
theorem z28.sound (vs : List V) (p : Pack) (h : z28.pack vs = some p) : SoundC Tryz.prog 273 vs p := by
  unfold z28.pack at h; split at h <;> cases h
  exact plain_sound tab_ok mixed_ok rfl rfl rfl rfl (fun g vs p h => by simp [z28.C] at h) fun273 rfl (z28.link _) z28.hdec
theorem fun245 : FunOK Tryz.prog 245 Tryz.f245 (ifun Tryz.f245).body := ⟨Tryz.func245, rfl, by kernel_rfl⟩
theorem z29.hdec : DecOK z29.dec z29.enc := by
  intro v r h
  unfold z29.dec at h; split at h <;> cases h
  exact ⟨rfl, rfl⟩
theorem z29.sound (vs : List V) (p : Pack) (h : z29.pack vs = some p) : SoundC Tryz.prog 245 vs p := by
  unfold z29.pack at h; split at h <;> cases h
  exact plain_sound tab_ok mixed_ok rfl rfl rfl rfl (fun g vs p h => by unfold z29.C at h; simp only at h; split at h; exact z28.sound vs p h; simp at h) fun245 rfl (z29.link _ _) z29.hdec
theorem z30.l0_sound (hI : InlOK Tryz.prog z30.C fun R => z30.C.inlK 6) : LoopS z30.C 6 186 0 0 (loopAt 0 (ifun Tryz.f186).body) z30.l0sh z30.l0pack := by
  refine loopS fun ls p h => ?_
  unfold z30.l0pack at h; split at h <;> cases h
  rename_i t1001 i1002 s1003 s1004
  exact loop_two hI (sh := z30.l0sh) (so := z30.l0sh) (so' := z30.l0so1) (F := fun R rec done x => z30.l0P s1003 s1004 rec done x) (enc := fun (x' : Int) => fillSt z30.l0sh [.i t1001, .i x', .li s1003, .li s1004]) (.exit 0) [1] [1] [0] i1002 (by kernel_rfl) (by kernel_rfl) (fun x => by kernel_rfl) (fun o => by kernel_rfl) (fun o => by kernel_rfl) fun R k d x' => z30.l0_link R k d t1001 (x') s1003 s1004
theorem fun186 : FunOK Tryz.prog 186 Tryz.f186 (ifun Tryz.f186).body := ⟨Tryz.func186, rfl, by kernel_rfl⟩
theorem once186 : loopsOnce (ifun Tryz.f186).body = true := by kernel_rfl
theorem z30.loopsT (hI : InlOK Tryz.prog z30.C fun R => z30.C.inlK 6) : LoopsOK z30.C (fun R => z30.C.inlK 6) 186 0 (ifun Tryz.f186).body := by
  intro id b hm st p hp
  obtain rfl := loopsOnce_mem once186 hm
  unfold z30.C at hp
  simp only at hp
  try split at hp
  all_goals first
    | (simp at hp; done)
    | (exfalso; omega)
    | exact z30.l0_sound hI st p hp
theorem z30.hdec : DecOK z30.dec z30.enc := by
  intro v r h
  unfold z30.dec at h; split at h <;> cases h
  exact ⟨rfl, rfl⟩
theorem z30.sound (vs : List V) (p : Pack) (h : z30.pack vs = some p) : SoundC Tryz.prog 186 vs p := by
  unfold z30.pack at h; split at h <;> cases h
  exact loops_sound tab_ok mixed_ok rfl rfl rfl (fun g vs p h => by unfold z30.C at h; simp only at h; split at h; exact z27.sound vs p h; exact z29.sound vs p h; simp at h) fun186 z30.loopsT rfl (z30.link _ _) z30.hdec
theorem z31.l0_sound (hI : InlOK Tryz.prog z31.C fun R => z31.C.inlK 6) : LoopS z31.C 6 100 0 0 (loopAt 0 (ifun Tryz.f100).body) z31.l0sh z31.l0pack := by
  refine loopS fun ls p h => ?_
  unfold z31.l0pack at h; split at h <;> cases h
  rename_i t1001 borrow1002 t1003 t1004 s1005 s1006 s1007 s1008
  exact loop_one hI (sh := z31.l0sh) (so := z31.l0sh) (F := fun R rec done x => z31.l0P t1003 s1005 s1006 rec done x) (enc := fun (x' : (Int × Int × (List Int))) => fillSt z31.l0sh [.b t1001, .i x'.1, .i t1003, .i x'.2.1, .li s1005, .li s1006, .li s1007, .li x'.2.2]) [1, 3, 7] [1, 3, 7] (borrow1002, t1004, s1008) (by kernel_rfl) (by kernel_rfl) (fun x => by kernel_rfl) (fun o => by kernel_rfl) fun R k d x' => z31.l0_link R k d t1001 (x'.1) t1003 (x'.2.1) s1005 s1006 s1007 (x'.2.2)
theorem fun100 : FunOK Tryz.prog 100 Tryz.f100 (ifun Tryz.f100).body := ⟨Tryz.func100, rfl, by kernel_rfl⟩
theorem once100 : loopsOnce (ifun Tryz.f100).body = true := by kernel_rfl
theorem z31.loopsT (hI : InlOK Tryz.prog z31.C fun R => z31.C.inlK 6) : LoopsOK z31.C (fun R => z31.C.inlK 6) 100 0 (ifun Tryz.f100).body := by
  intro id b hm st p hp
  obtain rfl := loopsOnce_mem once100 hm
  unfold z31.C at hp
  simp only at hp
  try split at hp
  all_goals first
    | (simp at hp; done)
    | (exfalso; omega)
    | exact z31.l0_sound hI st p hp
theorem z31.hdec : DecOK z31.dec z31.enc := by
  intro v r h
  unfold z31.dec at h; split at h <;> cases h
  exact ⟨rfl, rfl⟩
theorem z31.sound (vs : List V) (p : Pack) (h : z31.pack vs = some p) : SoundC Tryz.prog 100 vs p := by
  unfold z31.pack at h; split at h <;> cases h
  exact loops_sound tab_ok mixed_ok rfl rfl rfl (fun g vs p h => by unfold z31.C at h; simp only at h; split at h; exact z30.sound vs p h; exact z23.sound vs p h; exact z1.sound vs p h; exact z24.sound vs p h; simp at h) fun100 z31.loopsT rfl (z31.link _ _) z31.hdec
theorem fun24 : FunOK Tryz.prog 24 Tryz.f24 (ifun Tryz.f24).body := ⟨Tryz.func24, rfl, by kernel_rfl⟩
theorem z32.hdec : DecOK z32.dec z32.enc := by
  intro v r h
  unfold z32.dec at h; split at h <;> cases h
  exact ⟨rfl, rfl⟩
theorem z32.sound (vs : List V) (p : Pack) (h : z32.pack vs = some p) : SoundC Tryz.prog 24 vs p := by
  unfold z32.pack at h; split at h <;> cases h
  exact plain_sound tab_ok mixed_ok rfl rfl rfl rfl (fun g vs p h => by unfold z32.C at h; simp only at h; split at h; exact z25.sound vs p h; exact z22.sound vs p h; exact z31.sound vs p h; simp at h) fun24 rfl (z32.link _ _ _ _) z32.hdec
theorem fun110 : FunOK Tryz.prog 110 Tryz.f110 (ifun Tryz.f110).body := ⟨Tryz.func110, rfl, by kernel_rfl⟩
theorem z33.hdec : DecOK z33.dec z33.enc := by
  intro v r h
  unfold z33.dec at h; split at h <;> cases h
  exact ⟨rfl, rfl⟩
theorem z33.sound (vs : List V) (p : Pack) (h : z33.pack vs = some p) : SoundC Tryz.prog 110 vs p := by
  unfold z33.pack at h; split at h <;> cases h
  exact plain_sound tab_ok mixed_ok rfl rfl rfl rfl (fun g vs p h => by unfold z33.C at h; simp only at h; split at h; exact z22.sound vs p h; simp at h) fun110 rfl (z33.link _ _) z33.hdec
theorem fun90 : FunOK Tryz.prog 90 Tryz.f90 (ifun Tryz.f90).body := ⟨Tryz.func90, rfl, by kernel_rfl⟩
theorem z34.hdec : DecOK z34.dec z34.enc := by
  intro v r h
  unfold z34.dec at h; split at h <;> cases h
  exact ⟨rfl, rfl⟩
theorem z34.sound (vs : List V) (p : Pack) (h : z34.pack vs = some p) : SoundC Tryz.prog 90 vs p := by
  unfold z34.pack at h; split at h <;> cases h
  exact plain_sound tab_ok mixed_ok rfl rfl rfl rfl (fun g vs p h => by unfold z34.C at h; simp only at h; split at h; exact z33.sound vs p h; exact z32.sound vs p h; simp at h) fun90 rfl (z34.link _ _ _ _) z34.hdec
theorem fun74 : FunOK Tryz.prog 74 Tryz.f74 (ifun Tryz.f74).body := ⟨Tryz.func74, rfl, by kernel_rfl⟩
theorem z35.hdec : DecOK z35.dec z35.enc := by
  intro v r h
  unfold z35.dec at h; split at h <;> cases h
  exact ⟨rfl, rfl⟩
theorem z35.sound (vs : List V) (p : Pack) (h : z35.pack vs = some p) : SoundC Tryz.prog 74 vs p := by
  unfold z35.pack at h; split at h <;> cases h
  exact plain_sound tab_ok mixed_ok rfl rfl rfl rfl (fun g vs p h => by unfold z35.C at h; simp only at h; split at h; exact z34.sound vs p h; exact z21.sound vs p h; simp at h) fun74 rfl (z35.link _ _ _ _) z35.hdec
theorem fun260 : FunOK Tryz.prog 260 Tryz.f260 (ifun Tryz.f260).body := ⟨Tryz.func260, rfl, by kernel_rfl⟩
theorem z36.hdec : DecOK z36.dec z36.enc := by
  intro v r h
  unfold z36.dec at h; split at h <;> cases h
  exact ⟨rfl, rfl⟩
theorem z36.sound (vs : List V) (p : Pack) (h : z36.pack vs = some p) : SoundC Tryz.prog 260 vs p := by
  unfold z36.pack at h; split at h <;> cases h
  exact plain_sound tab_ok mixed_ok rfl rfl rfl rfl (fun g vs p h => by simp [z36.C] at h) fun260 rfl (z36.link _ _) z36.hdec
theorem fun223 : FunOK Tryz.prog 223 Tryz.f223 (ifun Tryz.f223).body := ⟨Tryz.func223, rfl, by kernel_rfl⟩
theorem z37.hdec : DecOK z37.dec z37.enc := by
  intro v r h
  unfold z37.dec at h; split at h <;> cases h
  exact ⟨rfl, rfl⟩
theorem z37.sound (vs : List V) (p : Pack) (h : z37.pack vs = some p) : SoundC Tryz.prog 223 vs p := by
  unfold z37.pack at h; split at h <;> cases h
  exact plain_sound tab_ok mixed_ok rfl rfl rfl rfl (fun g vs p h => by unfold z37.C at h; simp only at h; split at h; exact z36.sound vs p h; simp at h) fun223 rfl (z37.link _ _) z37.hdec
theorem fun160 : FunOK Tryz.prog 160 Tryz.f160 (ifun Tryz.f160).body := ⟨Tryz.func160, rfl, by kernel_rfl⟩
theorem z38.hdec : DecOK z38.dec z38.enc := by
  intro v r h
  unfold z38.dec at h; split at h <;> cases h
  exact ⟨rfl, rfl⟩
theorem z38.sound (vs : List V) (p : Pack) (h : z38.pack vs = some p) : SoundC Tryz.prog 160 vs p := by
  unfold z38.pack at h; split at h <;> cases h
  exact plain_sound tab_ok mixed_ok rfl rfl rfl rfl (fun g vs p h => by unfold z38.C at h; simp only at h; split at h; exact z37.sound vs p h; simp at h) fun160 rfl (z38.link _ _) z38.hdec
theorem fun158 : FunOK Tryz.prog 158 Tryz.f158 (ifun Tryz.f158).body := ⟨Tryz.func158, rfl, by kernel_rfl⟩
theorem prim222 : SoundP Tryz.prog 222 (cloneP (.ints true .u64 []) 79 8) := clone_sound (C := tabC) tab_ok (f := Tryz.f222) (t := 35) ⟨Tryz.func222, rfl, by kernel_rfl⟩ rfl (by decide) (by kernel_rfl) (by kernel_rfl) (by kernel_rfl) (by decide) (by kernel_rfl) rfl rfl (by kernel_rfl)
theorem z39.inlF : InlF Tryz.prog z39.C where
  prim g h hp := by
    unfold z39.C at hp; simp only at hp; split at hp
    · simp only [Option.some.injEq] at hp; subst hp; exact prim222
    · simp at hp
  fn g fn h := by simp [z39.C] at h
  loops g fn h := by simp [z39.C] at h
theorem z39.hdec : DecOK z39.dec z39.enc := by
  intro v r h
  unfold z39.dec at h; split at h <;> cases h
  exact ⟨rfl, rfl⟩
theorem z39.sound (vs : List V) (p : Pack) (h : z39.pack vs = some p) : SoundC Tryz.prog 158 vs p := by
  unfold z39.pack at h; split at h <;> cases h
  exact full_sound tab_ok mixed_ok rfl (fun g vs p h => by unfold z39.C at h; simp only at h; split at h; exact z24.sound vs p h; simp at h) z39.inlF fun158 (fun _ => noLoops rfl _ _ _ _) rfl (z39.link _) z39.hdec
theorem fun268 : FunOK Tryz.prog 268 Tryz.f268 (ifun Tryz.f268).body := ⟨Tryz.func268, rfl, by kernel_rfl⟩
theorem z40.hdec : DecOK z40.dec z40.enc := by
  intro v r h
  unfold z40.dec at h; split at h <;> cases h
  exact ⟨rfl, rfl⟩
theorem z40.sound (vs : List V) (p : Pack) (h : z40.pack vs = some p) : SoundC Tryz.prog 268 vs p := by
  unfold z40.pack at h; split at h <;> cases h
  exact plain_sound tab_ok mixed_ok rfl rfl rfl rfl (fun g vs p h => by simp [z40.C] at h) fun268 rfl (z40.link _ _) z40.hdec
theorem z41.l0a_sound (hI : InlOK Tryz.prog z41.C fun R => z41.C.inlK 0) : LoopS z41.C 0 227 0 4 (loopAt 0 (ifun Tryz.f227).body) z41.l0ash z41.l0apack := by
  refine loopS fun ls p h => ?_
  unfold z41.l0apack at h; split at h <;> cases h
  rename_i x2001 l2002 l2003 carry2004 t2005 t2006 t2007 s2008 s2009 s2010 s2011
  exact loop_one hI (sh := z41.l0ash) (so := z41.l0ash) (F := fun R rec done x => z41.l0aP x2001 l2002 l2003 t2005 t2006 rec done x) (enc := fun (x' : (Int × Int × (List Int))) => fillSt z41.l0ash [.i x2001, .n l2002, .n l2003, .i x'.1, .li t2005, .i t2006, .i x'.2.1, .li s2008, .li s2009, .li x'.2.2, .li s2011]) [3, 6, 9] [3, 6, 9] (carry2004, t2007, s2010) (by kernel_rfl) (by kernel_rfl) (fun x => by kernel_rfl) (fun o => by kernel_rfl) fun R k d x' => z41.l0a_link R k d x2001 l2002 l2003 (x'.1) t2005 t2006 (x'.2.1) s2008 s2009 (x'.2.2) s2011
theorem z41.l0_sound (hI : InlOK Tryz.prog z41.C fun R => z41.C.inlK 6) : LoopS z41.C 6 164 0 0 (loopAt 0 (ifun Tryz.f164).body) z41.l0sh z41.l0pack := by
  refine loopS fun ls p h => ?_
  unfold z41.l0pack at h; split at h <;> cases h
  rename_i t1001 t1002 t1003 s1004 s1005 s1006
  exact loop_one hI (sh := z41.l0sh) (so := z41.l0sh) (F := fun R rec done x => z41.l0P t1001 t1002 s1004 rec done x) (enc := fun (x' : (Int × (List Int))) => fillSt z41.l0sh [.li t1001, .i t1002, .i x'.1, .li s1004, .li s1005, .li x'.2]) [2, 5] [2, 5] (t1003, s1006) (by kernel_rfl) (by kernel_rfl) (fun x => by kernel_rfl) (fun o => by kernel_rfl) fun R k d x' => z41.l0_link R k d t1001 t1002 (x'.1) s1004 s1005 (x'.2)
theorem fun164 : FunOK Tryz.prog 164 Tryz.f164 (ifun Tryz.f164).body := ⟨Tryz.func164, rfl, by kernel_rfl⟩
theorem once164 : loopsOnce (ifun Tryz.f164).body = true := by kernel_rfl
theorem fun227 : FunOK Tryz.prog 227 Tryz.f227 (ifun Tryz.f227).body := ⟨Tryz.func227, rfl, by kernel_rfl⟩
theorem once227 : loopsOnce (ifun Tryz.f227).body = true := by kernel_rfl
theorem z41.loopsT (hI : InlOK Tryz.prog z41.C fun R => z41.C.inlK 6) : LoopsOK z41.C (fun R => z41.C.inlK 6) 164 0 (ifun Tryz.f164).body := by
  intro id b hm st p hp
  obtain rfl := loopsOnce_mem once164 hm
  unfold z41.C at hp
  simp only at hp
  try split at hp
  all_goals first
    | (simp at hp; done)
    | (exfalso; omega)
    | exact z41.l0_sound hI st p hp
theorem z41.loops227 (hI : InlOK Tryz.prog z41.C fun R => z41.C.inlK 0) (base : Nat) : LoopsOK z41.C (fun R => z41.C.inlK 0) 227 base (ifun Tryz.f227).body := by
  intro id b hm st p hp
  obtain rfl := loopsOnce_mem once227 hm
  unfold z41.C at hp
  simp only at hp
  try split at hp
  all_goals first
    | (simp at hp; done)
    | (exfalso; omega)
    | exact z41.l0a_sound hI st p hp
theorem z41.inlF : InlF Tryz.prog z41.C where
  prim g h hp := by simp [z41.C] at hp
  fn g fn h := by
    unfold z41.C at h; simp only at h; split at h
    · simp only [Option.some.injEq] at h; subst h; exact ⟨_, _, fun227, rfl⟩
    · simp at h
  loops g fn h := by
    unfold z41.C at h; simp only at h; split at h
    · simp only [Option.some.injEq] at h; subst h; exact fun hI base => z41.loops227 hI base
    · simp at h
theorem z41.hdec : DecOK z41.dec z41.enc := by
  intro v r h
  unfold z41.dec at h; split at h <;> cases h
  exact ⟨rfl, rfl⟩
theorem z41.sound (vs : List V) (p : Pack) (h : z41.pack vs = some p) : SoundC Tryz.prog 164 vs p := by
  unfold z41.pack at h; split at h <;> cases h
  exact full_sound tab_ok mixed_ok rfl (fun g vs p h => by unfold z41.C at h; simp only at h; split at h; exact z40.sound vs p h; exact z0.sound vs p h; exact z24.sound vs p h; simp at h) z41.inlF fun164 z41.loopsT rfl (z41.link _ _) z41.hdec
theorem z42.l2_sound (hI : InlOK Tryz.prog z42.C fun R => z42.C.inlK 6) : LoopS z42.C 6 161 2 0 (loopAt 2 (ifun Tryz.f161).body) z42.l2sh z42.l2pack := by
  refine loopS fun ls p h => ?_
  unfold z42.l2pack at h; split at h <;> cases h
  rename_i s2001 t2002 k2003 part2004 s2005 s2006 s2007 s2008
  exact loop_one hI (sh := z42.l2sh) (so := z42.l2sh) (F := fun R rec done x => z42.l2P s2007 rec done x) (enc := fun (x' : (Int × Nat)) => fillSt z42.l2sh [.s s2001, .i t2002, .i k2003, .i x'.1, .li s2005, .li s2006, .s s2007, .n x'.2]) [3, 7] [3, 7] (part2004, s2008) (by kernel_rfl) (by kernel_rfl) (fun x => by kernel_rfl) (fun o => by kernel_rfl) fun R k d x' => z42.l2_link R k d s2001 t2002 k2003 (x'.1) s2005 s2006 s2007 (x'.2)
theorem z42.l2a_sound (hI : InlOK Tryz.prog z42.C fun R => z42.C.inlK 6) : LoopS z42.C 6 161 2 0 (loopAt 2 (ifun Tryz.f161).body) z42.l2ash z42.l2apack := by
  refine loopS fun ls p h => ?_
  unfold z42.l2apack at h; split at h <;> cases h
  rename_i s3001 t3002 k3003 part3004 t3005 t3006 s3007 s3008 s3009 s3010
  exact loop_one hI (sh := z42.l2ash) (so := z42.l2ash) (F := fun R rec done x => z42.l2aP s3009 rec done x) (enc := fun (x' : (Int × Nat)) => fillSt z42.l2ash [.s s3001, .i t3002, .i k3003, .i x'.1, .i t3005, .b t3006, .li s3007, .li s3008, .s s3009, .n x'.2]) [3, 9] [3, 9] (part3004, s3010) (by kernel_rfl) (by kernel_rfl) (fun x => by kernel_rfl) (fun o => by kernel_rfl) fun R k d x' => z42.l2a_link R k d s3001 t3002 k3003 (x'.1) t3005 t3006 s3007 s3008 s3009 (x'.2)
theorem z42.l0aa_sound (hI : InlOK Tryz.prog z42.C fun R => z42.C.inlK 6) : LoopS z42.C 6 161 0 0 (loopAt 0 (ifun Tryz.f161).body) z42.l0aash z42.l0aapack := by
  refine loopS fun ls p h => ?_
  unfold z42.l0aapack at h; split at h <;> cases h
  rename_i s5001 t5002 first5003 s5004 s5005
  exact loop_one hI (sh := z42.l0aash) (so := z42.l0aash) (F := fun R rec done x => z42.l0aaP  rec done x) (enc := fun (x' : ((List UInt8) × Bool × (List Int))) => fillSt z42.l0aash [.s x'.1, .i t5002, .b x'.2.1, .li s5004, .li x'.2.2]) [0, 2, 4] [0, 2, 4] (s5001, first5003, s5005) (by kernel_rfl) (by kernel_rfl) (fun x => by kernel_rfl) (fun o => by kernel_rfl) fun R k d x' => z42.l0aa_link R k d (x'.1) t5002 (x'.2.1) s5004 (x'.2.2)
theorem fun161 : FunOK Tryz.prog 161 Tryz.f161 (ifun Tryz.f161).body := ⟨Tryz.func161, rfl, by kernel_rfl⟩
theorem once161 : loopsOnce (ifun Tryz.f161).body = true := by kernel_rfl
theorem z42.loopsT (hI : InlOK Tryz.prog z42.C fun R => z42.C.inlK 6) : LoopsOK z42.C (fun R => z42.C.inlK 6) 161 0 (ifun Tryz.f161).body := by
  intro id b hm st p hp
  obtain rfl := loopsOnce_mem once161 hm
  unfold z42.C at hp
  simp only at hp
  try split at hp
  all_goals first
    | (simp at hp; done)
    | (exfalso; omega)
    | exact (orP_some hp).elim (fun h => z42.l2_sound hI st p h) (fun h => z42.l2a_sound hI st p h)
    | exact z42.l0aa_sound hI st p hp
theorem z42.hdec : DecOK z42.dec z42.enc := by
  intro v r h
  unfold z42.dec at h; split at h <;> cases h
  exact ⟨rfl, rfl⟩
theorem z42.sound (vs : List V) (p : Pack) (h : z42.pack vs = some p) : SoundC Tryz.prog 161 vs p := by
  unfold z42.pack at h; split at h <;> cases h
  exact loops_sound tab_ok mixed_ok rfl rfl rfl (fun g vs p h => by unfold z42.C at h; simp only at h; split at h; exact z3.sound vs p h; exact z39.sound vs p h; exact z41.sound vs p h; exact z25.sound vs p h; simp at h) fun161 z42.loopsT rfl (z42.link _) z42.hdec
theorem fun76 : FunOK Tryz.prog 76 Tryz.f76 (ifun Tryz.f76).body := ⟨Tryz.func76, rfl, by kernel_rfl⟩
theorem z43.hdec : DecOK z43.dec z43.enc := by
  intro v r h
  unfold z43.dec at h; split at h <;> cases h
  exact ⟨rfl, rfl⟩
theorem z43.sound (vs : List V) (p : Pack) (h : z43.pack vs = some p) : SoundC Tryz.prog 76 vs p := by
  unfold z43.pack at h; split at h <;> cases h
  exact plain_sound tab_ok mixed_ok rfl rfl rfl rfl (fun g vs p h => by unfold z43.C at h; simp only at h; split at h; exact z38.sound vs p h; exact z42.sound vs p h; exact z20.sound vs p h; exact z22.sound vs p h; simp at h) fun76 rfl (z43.link _) z43.hdec
theorem z44.l0_sound (hI : InlOK Tryz.prog z44.C fun R => z44.C.inlK 6) : LoopS z44.C 6 247 0 0 (loopAt 0 (ifun Tryz.f247).body) z44.l0sh z44.l0pack := by
  refine loopS fun ls p h => ?_
  unfold z44.l0pack at h; split at h <;> cases h
  rename_i times1001 s1002 s1003 s1004
  exact loop_one hI (sh := z44.l0sh) (so := z44.l0sh) (F := fun R rec done x => z44.l0P  rec done x) (enc := fun (x' : (Int × (List Int) × (List Int))) => fillSt z44.l0sh [.i x'.1, .li x'.2.1, .li s1003, .li x'.2.2]) [0, 1, 3] [0, 1, 3] (times1001, s1002, s1004) (by kernel_rfl) (by kernel_rfl) (fun x => by kernel_rfl) (fun o => by kernel_rfl) fun R k d x' => z44.l0_link R k d (x'.1) (x'.2.1) s1003 (x'.2.2)
theorem fun247 : FunOK Tryz.prog 247 Tryz.f247 (ifun Tryz.f247).body := ⟨Tryz.func247, rfl, by kernel_rfl⟩
theorem once247 : loopsOnce (ifun Tryz.f247).body = true := by kernel_rfl
theorem z44.loopsT (hI : InlOK Tryz.prog z44.C fun R => z44.C.inlK 6) : LoopsOK z44.C (fun R => z44.C.inlK 6) 247 0 (ifun Tryz.f247).body := by
  intro id b hm st p hp
  obtain rfl := loopsOnce_mem once247 hm
  unfold z44.C at hp
  simp only at hp
  try split at hp
  all_goals first
    | (simp at hp; done)
    | (exfalso; omega)
    | exact z44.l0_sound hI st p hp
theorem z44.hdec : DecOK z44.dec z44.enc := by
  intro v r h
  unfold z44.dec at h; split at h <;> cases h
  exact ⟨rfl, rfl⟩
theorem z44.sound (vs : List V) (p : Pack) (h : z44.pack vs = some p) : SoundC Tryz.prog 247 vs p := by
  unfold z44.pack at h; split at h <;> cases h
  exact loops_sound tab_ok mixed_ok rfl rfl rfl (fun g vs p h => by unfold z44.C at h; simp only at h; split at h; exact z39.sound vs p h; exact z41.sound vs p h; simp at h) fun247 z44.loopsT rfl (z44.link _ _) z44.hdec
theorem fun195 : FunOK Tryz.prog 195 Tryz.f195 (ifun Tryz.f195).body := ⟨Tryz.func195, rfl, by kernel_rfl⟩
theorem z45.hdec : DecOK z45.dec z45.enc := by
  intro v r h
  unfold z45.dec at h; split at h <;> cases h
  exact ⟨rfl, rfl⟩
theorem z45.sound (vs : List V) (p : Pack) (h : z45.pack vs = some p) : SoundC Tryz.prog 195 vs p := by
  unfold z45.pack at h; split at h <;> cases h
  exact plain_sound tab_ok mixed_ok rfl rfl rfl rfl (fun g vs p h => by unfold z45.C at h; simp only at h; split at h; exact z39.sound vs p h; exact z44.sound vs p h; simp at h) fun195 rfl (z45.link _) z45.hdec
theorem fun114 : FunOK Tryz.prog 114 Tryz.f114 (ifun Tryz.f114).body := ⟨Tryz.func114, rfl, by kernel_rfl⟩
theorem z46.hdec : DecOK z46.dec z46.enc := by
  intro v r h
  unfold z46.dec at h; split at h <;> cases h
  exact ⟨rfl, rfl⟩
theorem z46.sound (vs : List V) (p : Pack) (h : z46.pack vs = some p) : SoundC Tryz.prog 114 vs p := by
  unfold z46.pack at h; split at h <;> cases h
  exact plain_sound tab_ok mixed_ok rfl rfl rfl rfl (fun g vs p h => by unfold z46.C at h; simp only at h; split at h; exact z45.sound vs p h; exact z22.sound vs p h; simp at h) fun114 rfl z46.link z46.hdec
theorem fun36 : FunOK Tryz.prog 36 Tryz.f36 (ifun Tryz.f36).body := ⟨Tryz.func36, rfl, by kernel_rfl⟩
theorem z47.hdec : DecOK z47.dec z47.enc := by
  intro v r h
  unfold z47.dec at h; split at h <;> cases h
  exact ⟨rfl, rfl⟩
theorem z47.sound (vs : List V) (p : Pack) (h : z47.pack vs = some p) : SoundC Tryz.prog 36 vs p := by
  unfold z47.pack at h; split at h <;> cases h
  exact plain_sound tab_ok mixed_ok rfl rfl rfl rfl (fun g vs p h => by unfold z47.C at h; simp only at h; split at h; exact z43.sound vs p h; exact z21.sound vs p h; exact z46.sound vs p h; exact z35.sound vs p h; simp at h) fun36 rfl (z47.link _) z47.hdec
theorem fun68 : FunOK Tryz.prog 68 Tryz.f68 (ifun Tryz.f68).body := ⟨Tryz.func68, rfl, by kernel_rfl⟩
theorem z48.hdec : DecOK z48.dec z48.enc := by
  intro v r h
  unfold z48.dec at h; split at h <;> cases h
  exact ⟨rfl, rfl⟩
theorem z48.sound (vs : List V) (p : Pack) (h : z48.pack vs = some p) : SoundC Tryz.prog 68 vs p := by
  unfold z48.pack at h; split at h <;> cases h
  exact plain_sound tab_ok mixed_ok rfl rfl rfl rfl (fun g vs p h => by simp [z48.C] at h) fun68 rfl (z48.link _ _) z48.hdec
theorem fun69 : FunOK Tryz.prog 69 Tryz.f69 (ifun Tryz.f69).body := ⟨Tryz.func69, rfl, by kernel_rfl⟩
theorem z49.hdec : DecOK z49.dec z49.enc := by
  intro v r h
  unfold z49.dec at h; split at h <;> cases h
  exact ⟨rfl, rfl⟩
theorem z49.sound (vs : List V) (p : Pack) (h : z49.pack vs = some p) : SoundC Tryz.prog 69 vs p := by
  unfold z49.pack at h; split at h <;> cases h
  exact plain_sound tab_ok mixed_ok rfl rfl rfl rfl (fun g vs p h => by unfold z49.C at h; simp only at h; split at h; exact z39.sound vs p h; exact z22.sound vs p h; simp at h) fun69 rfl (z49.link _) z49.hdec
theorem fun199 : FunOK Tryz.prog 199 Tryz.f199 (ifun Tryz.f199).body := ⟨Tryz.func199, rfl, by kernel_rfl⟩
theorem z50.hdec : DecOK z50.dec z50.enc := by
  intro v r h
  unfold z50.dec at h; split at h <;> cases h
  exact ⟨rfl, rfl⟩
theorem z50.sound (vs : List V) (p : Pack) (h : z50.pack vs = some p) : SoundC Tryz.prog 199 vs p := by
  unfold z50.pack at h; split at h <;> cases h
  exact plain_sound tab_ok mixed_ok rfl rfl rfl rfl (fun g vs p h => by unfold z50.C at h; simp only at h; split at h; exact z3.sound vs p h; simp at h) fun199 rfl (z50.link _) z50.hdec
theorem fun118 : FunOK Tryz.prog 118 Tryz.f118 (ifun Tryz.f118).body := ⟨Tryz.func118, rfl, by kernel_rfl⟩
theorem fun198 : FunOK Tryz.prog 198 Tryz.f198 (ifun Tryz.f198).body := ⟨Tryz.func198, rfl, by kernel_rfl⟩
theorem fun248 : FunOK Tryz.prog 248 Tryz.f248 (ifun Tryz.f248).body := ⟨Tryz.func248, rfl, by kernel_rfl⟩
theorem fun275 : FunOK Tryz.prog 275 Tryz.f275 (ifun Tryz.f275).body := ⟨Tryz.func275, rfl, by kernel_rfl⟩
theorem fun283 : FunOK Tryz.prog 283 Tryz.f283 (ifun Tryz.f283).body := ⟨Tryz.func283, rfl, by kernel_rfl⟩
theorem z51.inlF : InlF Tryz.prog z51.C where
  prim g h hp := by simp [z51.C] at hp
  fn g fn h := by
    unfold z51.C at h; simp only at h; split at h
    · simp only [Option.some.injEq] at h; subst h; exact ⟨_, _, fun198, rfl⟩
    · simp only [Option.some.injEq] at h; subst h; exact ⟨_, _, fun248, rfl⟩
    · simp only [Option.some.injEq] at h; subst h; exact ⟨_, _, fun275, rfl⟩
    · simp only [Option.some.injEq] at h; subst h; exact ⟨_, _, fun283, rfl⟩
    · simp at h
  loops g fn h := by
    unfold z51.C at h; simp only at h; split at h
    · simp only [Option.some.injEq] at h; subst h; exact fun hI base => noLoops rfl _ _ _ _
    · simp only [Option.some.injEq] at h; subst h; exact fun hI base => noLoops rfl _ _ _ _
    · simp only [Option.some.injEq] at h; subst h; exact fun hI base => noLoops rfl _ _ _ _
    · simp only [Option.some.injEq] at h; subst h; exact fun hI base => noLoops rfl _ _ _ _
    · simp at h
theorem z51.hdec : DecOK z51.dec z51.enc := by
  intro v r h
  unfold z51.dec at h; split at h <;> cases h
  exact ⟨rfl, rfl⟩
theorem z51.sound (vs : List V) (p : Pack) (h : z51.pack vs = some p) : SoundC Tryz.prog 118 vs p := by
  unfold z51.pack at h; split at h <;> cases h
  exact full_sound tab_ok mixed_ok rfl (fun g vs p h => by unfold z51.C at h; simp only at h; split at h; exact z38.sound vs p h; exact z50.sound vs p h; exact z3.sound vs p h; exact z4.sound vs p h; exact z42.sound vs p h; exact z22.sound vs p h; exact z2.sound vs p h; simp at h) z51.inlF fun118 (fun _ => noLoops rfl _ _ _ _) rfl (z51.link _) z51.hdec
theorem fun202 : FunOK Tryz.prog 202 Tryz.f202 (ifun Tryz.f202).body := ⟨Tryz.func202, rfl, by kernel_rfl⟩
theorem z52.hdec : DecOK z52.dec z52.enc := by
  intro v r h
  unfold z52.dec at h; split at h <;> cases h
  exact ⟨rfl, rfl⟩
theorem z52.sound (vs : List V) (p : Pack) (h : z52.pack vs = some p) : SoundC Tryz.prog 202 vs p := by
  unfold z52.pack at h; split at h <;> cases h
  exact plain_sound tab_ok mixed_ok rfl rfl rfl rfl (fun g vs p h => by simp [z52.C] at h) fun202 rfl (z52.link _) z52.hdec
theorem fun119 : FunOK Tryz.prog 119 Tryz.f119 (ifun Tryz.f119).body := ⟨Tryz.func119, rfl, by kernel_rfl⟩
theorem z53.hdec : DecOK z53.dec z53.enc := by
  intro v r h
  unfold z53.dec at h; split at h <;> cases h
  exact ⟨rfl, rfl⟩
theorem z53.sound (vs : List V) (p : Pack) (h : z53.pack vs = some p) : SoundC Tryz.prog 119 vs p := by
  unfold z53.pack at h; split at h <;> cases h
  exact plain_sound tab_ok mixed_ok rfl rfl rfl rfl (fun g vs p h => by unfold z53.C at h; simp only at h; split at h; exact z52.sound vs p h; simp at h) fun119 rfl (z53.link _ _ _) z53.hdec
theorem fun120 : FunOK Tryz.prog 120 Tryz.f120 (ifun Tryz.f120).body := ⟨Tryz.func120, rfl, by kernel_rfl⟩
theorem z54.hdec : DecOK z54.dec z54.enc := by
  intro v r h
  unfold z54.dec at h; split at h <;> cases h
  exact ⟨rfl, rfl⟩
theorem z54.sound (vs : List V) (p : Pack) (h : z54.pack vs = some p) : SoundC Tryz.prog 120 vs p := by
  unfold z54.pack at h; split at h <;> cases h
  exact plain_sound tab_ok mixed_ok rfl rfl rfl rfl (fun g vs p h => by simp [z54.C] at h) fun120 rfl (z54.link _ _ _) z54.hdec
theorem fun156 : FunOK Tryz.prog 156 Tryz.f156 (ifun Tryz.f156).body := ⟨Tryz.func156, rfl, by kernel_rfl⟩
theorem z55.hdec : DecOK z55.dec z55.enc := by
  intro v r h
  unfold z55.dec at h; split at h <;> cases h
  exact ⟨rfl, rfl⟩
theorem z55.sound (vs : List V) (p : Pack) (h : z55.pack vs = some p) : SoundC Tryz.prog 156 vs p := by
  unfold z55.pack at h; split at h <;> cases h
  exact plain_sound tab_ok mixed_ok rfl rfl rfl rfl (fun g vs p h => by unfold z55.C at h; simp only at h; split at h; exact z41.sound vs p h; exact z22.sound vs p h; simp at h) fun156 rfl (z55.link _ _ _ _) z55.hdec
theorem fun204 : FunOK Tryz.prog 204 Tryz.f204 (ifun Tryz.f204).body := ⟨Tryz.func204, rfl, by kernel_rfl⟩
theorem z56.hdec : DecOK z56.dec z56.enc := by
  intro v r h
  unfold z56.dec at h; split at h <;> cases h
  exact ⟨rfl, rfl⟩
theorem z56.sound (vs : List V) (p : Pack) (h : z56.pack vs = some p) : SoundC Tryz.prog 204 vs p := by
  unfold z56.pack at h; split at h <;> cases h
  exact plain_sound tab_ok mixed_ok rfl rfl rfl rfl (fun g vs p h => by unfold z56.C at h; simp only at h; split at h; exact z45.sound vs p h; exact z22.sound vs p h; simp at h) fun204 rfl (z56.link _) z56.hdec
theorem fun203 : FunOK Tryz.prog 203 Tryz.f203 (ifun Tryz.f203).body := ⟨Tryz.func203, rfl, by kernel_rfl⟩
theorem z57.hdec : DecOK z57.dec z57.enc := by
  intro v r h
  unfold z57.dec at h; split at h <;> cases h
  exact ⟨rfl, rfl⟩
theorem z57.sound (vs : List V) (p : Pack) (h : z57.pack vs = some p) : SoundC Tryz.prog 203 vs p := by
  unfold z57.pack at h; split at h <;> cases h
  exact plain_sound tab_ok mixed_ok rfl rfl rfl rfl (fun g vs p h => by unfold z57.C at h; simp only at h; split at h; exact z56.sound vs p h; exact z55.sound vs p h; simp at h) fun203 rfl (z57.link _ _ _ _) z57.hdec
theorem fun121 : FunOK Tryz.prog 121 Tryz.f121 (ifun Tryz.f121).body := ⟨Tryz.func121, rfl, by kernel_rfl⟩
theorem z58.hdec : DecOK z58.dec z58.enc := by
  intro v r h
  unfold z58.dec at h; split at h <;> cases h
  exact ⟨rfl, rfl⟩
theorem z58.sound (vs : List V) (p : Pack) (h : z58.pack vs = some p) : SoundC Tryz.prog 121 vs p := by
  unfold z58.pack at h; split at h <;> cases h
  exact plain_sound tab_ok mixed_ok rfl rfl rfl rfl (fun g vs p h => by unfold z58.C at h; simp only at h; split at h; exact z57.sound vs p h; exact z35.sound vs p h; simp at h) fun121 rfl (z58.link _ _ _ _ _ _) z58.hdec
theorem fun122 : FunOK Tryz.prog 122 Tryz.f122 (ifun Tryz.f122).body := ⟨Tryz.func122, rfl, by kernel_rfl⟩
theorem z59.hdec : DecOK z59.dec z59.enc := by
  intro v r h
  unfold z59.dec at h; split at h <;> cases h
  exact ⟨rfl, rfl⟩
theorem z59.sound (vs : List V) (p : Pack) (h : z59.pack vs = some p) : SoundC Tryz.prog 122 vs p := by
  unfold z59.pack at h; split at h <;> cases h
  exact plain_sound tab_ok mixed_ok rfl rfl rfl rfl (fun g vs p h => by simp [z59.C] at h) fun122 rfl (z59.link _ _ _) z59.hdec
theorem fun92 : FunOK Tryz.prog 92 Tryz.f92 (ifun Tryz.f92).body := ⟨Tryz.func92, rfl, by kernel_rfl⟩
theorem z60.hdec : DecOK z60.dec z60.enc := by
  intro v r h
  unfold z60.dec at h; split at h <;> cases h
  exact ⟨rfl, rfl⟩
theorem z60.sound (vs : List V) (p : Pack) (h : z60.pack vs = some p) : SoundC Tryz.prog 92 vs p := by
  unfold z60.pack at h; split at h <;> cases h
  exact plain_sound tab_ok mixed_ok rfl rfl rfl rfl (fun g vs p h => by simp [z60.C] at h) fun92 rfl (z60.link _ _) z60.hdec
theorem fun188 : FunOK Tryz.prog 188 Tryz.f188 (ifun Tryz.f188).body := ⟨Tryz.func188, rfl, by kernel_rfl⟩
theorem z61.inlF : InlF Tryz.prog z61.C where
  prim g h hp := by
    unfold z61.C at hp; simp only at hp; split at hp
    · simp only [Option.some.injEq] at hp; subst hp; exact prim222
    · simp at hp
  fn g fn h := by simp [z61.C] at h
  loops g fn h := by simp [z61.C] at h
theorem z61.hdec : DecOK z61.dec z61.enc := by
  intro v r h
  unfold z61.dec at h; split at h <;> cases h
  exact ⟨rfl, rfl⟩
theorem z61.sound (vs : List V) (p : Pack) (h : z61.pack vs = some p) : SoundC Tryz.prog 188 vs p := by
  unfold z61.pack at h; split at h <;> cases h
  exact full_sound tab_ok mixed_ok rfl (fun g vs p h => by simp [z61.C] at h) z61.inlF fun188 (fun _ => noLoops rfl _ _ _ _) rfl (z61.link _) z61.hdec
theorem fun280 : FunOK Tryz.prog 280 Tryz.f280 (ifun Tryz.f280).body := ⟨Tryz.func280, rfl, by kernel_rfl⟩
theorem z62.hdec : DecOK z62.dec z62.enc := by
  intro v r h
  unfold z62.dec at h; split at h <;> cases h
  exact ⟨rfl, rfl⟩
theorem z62.sound (vs : List V) (p : Pack) (h : z62.pack vs = some p) : SoundC Tryz.prog 280 vs p := by
  unfold z62.pack at h; split at h <;> cases h
  exact plain_sound tab_ok mixed_ok rfl rfl rfl rfl (fun g vs p h => by simp [z62.C] at h) fun280 rfl (z62.link _) z62.hdec
theorem fun262 : FunOK Tryz.prog 262 Tryz.f262 (ifun Tryz.f262).body := ⟨Tryz.func262, rfl, by kernel_rfl⟩
theorem z63.hdec : DecOK z63.dec z63.enc := by
  intro v r h
  unfold z63.dec at h; split at h <;> cases h
  exact ⟨rfl, rfl⟩
theorem z63.sound (vs : List V) (p : Pack) (h : z63.pack vs = some p) : SoundC Tryz.prog 262 vs p := by
  unfold z63.pack at h; split at h <;> cases h
  exact plain_sound tab_ok mixed_ok rfl rfl rfl rfl (fun g vs p h => by unfold z63.C at h; simp only at h; split at h; exact z62.sound vs p h; simp at h) fun262 rfl (z63.link _) z63.hdec
theorem z64.l0b8_sound (hI : InlOK Tryz.prog z64.C fun R => z64.C.inlK 6) : LoopS z64.C 6 261 0 0 (loopAt 0 (ifun Tryz.f261).body) z64.l0b8sh z64.l0b8pack := by
  refine loopS fun ls p h => ?_
  unfold z64.l0b8pack at h; split at h <;> cases h
  rename_i y9001 quo9002 rem9003 s9004 yn9005 yn9006 un9007 un9008 un9009 q9010 rhat9011
  exact loop_one hI (sh := z64.l0b8sh) (so := z64.l0b8sh) (F := fun R rec done x => z64.l0b8P yn9005 yn9006 un9008 rec done x) (enc := fun (x' : (Int × Int)) => fillSt z64.l0b8sh [.i y9001, .i quo9002, .i rem9003, .i s9004, .i yn9005, .i yn9006, .i un9007, .i un9008, .i un9009, .i x'.1, .i x'.2]) [9, 10] [9, 10] (q9010, rhat9011) (by kernel_rfl) (by kernel_rfl) (fun x => by kernel_rfl) (fun o => by kernel_rfl) fun R k d x' => z64.l0b8_link R k d y9001 quo9002 rem9003 s9004 yn9005 yn9006 un9007 un9008 un9009 (x'.1) (x'.2)
theorem z64.l2b8_sound (hI : InlOK Tryz.prog z64.C fun R => z64.C.inlK 6) : LoopS z64.C 6 261 2 0 (loopAt 2 (ifun Tryz.f261).body) z64.l2b8sh z64.l2b8pack := by
  refine loopS fun ls p h => ?_
  unfold z64.l2b8pack at h; split at h <;> cases h
  rename_i y18001 quo18002 rem18003 s18004 yn18005 yn18006 un18007 q18008 rhat18009 un18010 q18011
  exact loop_one hI (sh := z64.l2b8sh) (so := z64.l2b8sh) (F := fun R rec done x => z64.l2b8P yn18005 yn18006 un18007 rec done x) (enc := fun (x' : (Int × Int)) => fillSt z64.l2b8sh [.i y18001, .i quo18002, .i rem18003, .i s18004, .i yn18005, .i yn18006, .i un18007, .i q18008, .i x'.1, .i un18010, .i x'.2]) [8, 10] [8, 10] (rhat18009, q18011) (by kernel_rfl) (by kernel_rfl) (fun x => by kernel_rfl) (fun o => by kernel_rfl) fun R k d x' => z64.l2b8_link R k d y18001 quo18002 rem18003 s18004 yn18005 yn18006 un18007 q18008 (x'.1) un18010 (x'.2)
theorem fun261 : FunOK Tryz.prog 261 Tryz.f261 (ifun Tryz.f261).body := ⟨Tryz.func261, rfl, by kernel_rfl⟩
theorem once261 : loopsOnce (ifun Tryz.f261).body = true := by kernel_rfl
theorem z64.loopsT (hI : InlOK Tryz.prog z64.C fun R => z64.C.inlK 6) : LoopsOK z64.C (fun R => z64.C.inlK 6) 261 0 (ifun Tryz.f261).body := by
  intro id b hm st p hp
  obtain rfl := loopsOnce_mem once261 hm
  unfold z64.C at hp
  simp only at hp
  try split at hp
  all_goals first
    | (simp at hp; done)
    | (exfalso; omega)
    | exact z64.l0b8_sound hI st p hp
    | exact z64.l2b8_sound hI st p hp
theorem z64.hdec : DecOK z64.dec z64.enc := by
  intro v r h
  unfold z64.dec at h; split at h <;> cases h
  exact ⟨rfl, rfl⟩
theorem z64.sound (vs : List V) (p : Pack) (h : z64.pack vs = some p) : SoundC Tryz.prog 261 vs p := by
  unfold z64.pack at h; split at h <;> cases h
  exact loops_sound tab_ok mixed_ok rfl rfl rfl (fun g vs p h => by unfold z64.C at h; simp only at h; split at h; exact z63.sound vs p h; simp at h) fun261 z64.loopsT rfl (z64.link _ _ _) z64.hdec
theorem z65.l0_sound (hI : InlOK Tryz.prog z65.C fun R => z65.C.inlK 6) : LoopS z65.C 6 224 0 0 (loopAt 0 (ifun Tryz.f224).body) z65.l0sh z65.l0pack := by
  refine loopS fun ls p h => ?_
  unfold z65.l0pack at h; split at h <;> cases h
  rename_i l1001 d1002 t1003 rest1004 i1005 s1006 s1007
  exact loop_one hI (sh := z65.l0sh) (so := z65.l0sh) (F := fun R rec done x => z65.l0P l1001 d1002 rec done x) (enc := fun (x' : (Int × Int × (List Int))) => fillSt z65.l0sh [.li l1001, .i d1002, .i t1003, .i x'.1, .i x'.2.1, .li s1006, .li x'.2.2]) [3, 4, 6] [3, 4, 6] (rest1004, i1005, s1007) (by kernel_rfl) (by kernel_rfl) (fun x => by kernel_rfl) (fun o => by kernel_rfl) fun R k d x' => z65.l0_link R k d l1001 d1002 t1003 (x'.1) (x'.2.1) s1006 (x'.2.2)
theorem fun224 : FunOK Tryz.prog 224 Tryz.f224 (ifun Tryz.f224).body := ⟨Tryz.func224, rfl, by kernel_rfl⟩
theorem once224 : loopsOnce (ifun Tryz.f224).body = true := by kernel_rfl
theorem z65.loopsT (hI : InlOK Tryz.prog z65.C fun R => z65.C.inlK 6) : LoopsOK z65.C (fun R => z65.C.inlK 6) 224 0 (ifun Tryz.f224).body := by
  intro id b hm st p hp
  obtain rfl := loopsOnce_mem once224 hm
  unfold z65.C at hp
  simp only at hp
  try split at hp
  all_goals first
    | (simp at hp; done)
    | (exfalso; omega)
    | exact z65.l0_sound hI st p hp
theorem z65.hdec : DecOK z65.dec z65.enc := by
  intro v r h
  unfold z65.dec at h; split at h <;> cases h
  exact ⟨rfl, rfl⟩
theorem z65.sound (vs : List V) (p : Pack) (h : z65.pack vs = some p) : SoundC Tryz.prog 224 vs p := by
  unfold z65.pack at h; split at h <;> cases h
  exact loops_sound tab_ok mixed_ok rfl rfl rfl (fun g vs p h => by unfold z65.C at h; simp only at h; split at h; exact z64.sound vs p h; simp at h) fun224 z65.loopsT rfl (z65.link _ _) z65.hdec
theorem fun162 : FunOK Tryz.prog 162 Tryz.f162 (ifun Tryz.f162).body := ⟨Tryz.func162, rfl, by kernel_rfl⟩
theorem z66.hdec : DecOK z66.dec z66.enc := by
  intro v r h
  unfold z66.dec at h; split at h <;> cases h
  exact ⟨rfl, rfl⟩
theorem z66.sound (vs : List V) (p : Pack) (h : z66.pack vs = some p) : SoundC Tryz.prog 162 vs p := by
  unfold z66.pack at h; split at h <;> cases h
  exact plain_sound tab_ok mixed_ok rfl rfl rfl rfl (fun g vs p h => by unfold z66.C at h; simp only at h; split at h; exact z20.sound vs p h; exact z30.sound vs p h; exact z61.sound vs p h; exact z65.sound vs p h; exact z39.sound vs p h; exact z5.sound vs p h; simp at h) fun162 rfl (z66.link _ _) z66.hdec
theorem z67.l0_sound (hI : InlOK Tryz.prog z67.C fun R => z67.C.inlK 6) : LoopS z67.C 6 226 0 0 (loopAt 0 (ifun Tryz.f226).body) z67.l0sh z67.l0pack := by
  refine loopS fun ls p h => ?_
  unfold z67.l0pack at h; split at h <;> cases h
  rename_i s1001 s1002 s1003
  exact loop_one hI (sh := z67.l0sh) (so := z67.l0sh) (F := fun R rec done x => z67.l0P  rec done x) (enc := fun (x' : ((List Int) × (List Int))) => fillSt z67.l0sh [.li x'.1, .li x'.2, .li s1003]) [0, 1] [0, 1] (s1001, s1002) (by kernel_rfl) (by kernel_rfl) (fun x => by kernel_rfl) (fun o => by kernel_rfl) fun R k d x' => z67.l0_link R k d (x'.1) (x'.2) s1003
theorem fun226 : FunOK Tryz.prog 226 Tryz.f226 (ifun Tryz.f226).body := ⟨Tryz.func226, rfl, by kernel_rfl⟩
theorem once226 : loopsOnce (ifun Tryz.f226).body = true := by kernel_rfl
theorem z67.loopsT (hI : InlOK Tryz.prog z67.C fun R => z67.C.inlK 6) : LoopsOK z67.C (fun R => z67.C.inlK 6) 226 0 (ifun Tryz.f226).body := by
  intro id b hm st p hp
  obtain rfl := loopsOnce_mem once226 hm
  unfold z67.C at hp
  simp only at hp
  try split at hp
  all_goals first
    | (simp at hp; done)
    | (exfalso; omega)
    | exact z67.l0_sound hI st p hp
theorem z67.hdec : DecOK z67.dec z67.enc := by
  intro v r h
  unfold z67.dec at h; split at h <;> cases h
  exact ⟨rfl, rfl⟩
theorem z67.sound (vs : List V) (p : Pack) (h : z67.pack vs = some p) : SoundC Tryz.prog 226 vs p := by
  unfold z67.pack at h; split at h <;> cases h
  exact loops_sound tab_ok mixed_ok rfl rfl rfl (fun g vs p h => by unfold z67.C at h; simp only at h; split at h; exact z20.sound vs p h; exact z66.sound vs p h; simp at h) fun226 z67.loopsT rfl (z67.link _ _) z67.hdec
theorem fun163 : FunOK Tryz.prog 163 Tryz.f163 (ifun Tryz.f163).body := ⟨Tryz.func163, rfl, by kernel_rfl⟩
theorem z68.hdec : DecOK z68.dec z68.enc := by
  intro v r h
  unfold z68.dec at h; split at h <;> cases h
  exact ⟨rfl, rfl⟩
theorem z68.sound (vs : List V) (p : Pack) (h : z68.pack vs = some p) : SoundC Tryz.prog 163 vs p := by
  unfold z68.pack at h; split at h <;> cases h
  exact plain_sound tab_ok mixed_ok rfl rfl rfl rfl (fun g vs p h => by unfold z68.C at h; simp only at h; split at h; exact z60.sound vs p h; exact z67.sound vs p h; exact z66.sound vs p h; exact z39.sound vs p h; exact z31.sound vs p h; exact z21.sound vs p h; exact z22.sound vs p h; simp at h) fun163 rfl (z68.link _ _ _) z68.hdec
theorem fun176 : FunOK Tryz.prog 176 Tryz.f176 (ifun Tryz.f176).body := ⟨Tryz.func176, rfl, by kernel_rfl⟩
theorem z69.hdec : DecOK z69.dec z69.enc := by
  intro v r h
  unfold z69.dec at h; split at h <;> cases h
  exact ⟨rfl, rfl⟩
theorem z69.sound (vs : List V) (p : Pack) (h : z69.pack vs = some p) : SoundC Tryz.prog 176 vs p := by
  unfold z69.pack at h; split at h <;> cases h
  exact plain_sound tab_ok mixed_ok rfl rfl rfl rfl (fun g vs p h => by unfold z69.C at h; simp only at h; split at h; exact z21.sound vs p h; exact z33.sound vs p h; exact z60.sound vs p h; exact z68.sound vs p h; simp at h) fun176 rfl (z69.link _ _ _ _) z69.hdec
theorem fun123 : FunOK Tryz.prog 123 Tryz.f123 (ifun Tryz.f123).body := ⟨Tryz.func123, rfl, by kernel_rfl⟩
theorem z70.hdec : DecOK z70.dec z70.enc := by
  intro v r h
  unfold z70.dec at h; split at h <;> cases h
  exact ⟨rfl, rfl⟩
theorem z70.sound (vs : List V) (p : Pack) (h : z70.pack vs = some p) : SoundC Tryz.prog 123 vs p := by
  unfold z70.pack at h; split at h <;> cases h
  exact plain_sound tab_ok mixed_ok rfl rfl rfl rfl (fun g vs p h => by unfold z70.C at h; simp only at h; split at h; exact z56.sound vs p h; exact z69.sound vs p h; simp at h) fun123 rfl (z70.link _ _ _) z70.hdec
theorem fun130 : FunOK Tryz.prog 130 Tryz.f130 (ifun Tryz.f130).body := ⟨Tryz.func130, rfl, by kernel_rfl⟩
theorem z71.hdec : DecOK z71.dec z71.enc := by
  intro v r h
  unfold z71.dec at h; split at h <;> cases h
  exact ⟨rfl, rfl⟩
theorem z71.sound (vs : List V) (p : Pack) (h : z71.pack vs = some p) : SoundC Tryz.prog 130 vs p := by
  unfold z71.pack at h; split at h <;> cases h
  exact plain_sound tab_ok mixed_ok rfl rfl rfl rfl (fun g vs p h => by unfold z71.C at h; simp only at h; split at h; exact z39.sound vs p h; exact z25.sound vs p h; simp at h) fun130 rfl (z71.link _ _ _) z71.hdec
theorem fun157 : FunOK Tryz.prog 157 Tryz.f157 (ifun Tryz.f157).body := ⟨Tryz.func157, rfl, by kernel_rfl⟩
theorem z72.hdec : DecOK z72.dec z72.enc := by
  intro v r h
  unfold z72.dec at h; split at h <;> cases h
  exact ⟨rfl, rfl⟩
theorem z72.sound (vs : List V) (p : Pack) (h : z72.pack vs = some p) : SoundC Tryz.prog 157 vs p := by
  unfold z72.pack at h; split at h <;> cases h
  exact plain_sound tab_ok mixed_ok rfl rfl rfl rfl (fun g vs p h => by unfold z72.C at h; simp only at h; split at h; exact z71.sound vs p h; exact z22.sound vs p h; simp at h) fun157 rfl (z72.link _ _ _) z72.hdec
theorem fun124 : FunOK Tryz.prog 124 Tryz.f124 (ifun Tryz.f124).body := ⟨Tryz.func124, rfl, by kernel_rfl⟩
theorem z73.hdec : DecOK z73.dec z73.enc := by
  intro v r h
  unfold z73.dec at h; split at h <;> cases h
  exact ⟨rfl, rfl⟩
theorem z73.sound (vs : List V) (p : Pack) (h : z73.pack vs = some p) : SoundC Tryz.prog 124 vs p := by
  unfold z73.pack at h; split at h <;> cases h
  exact plain_sound tab_ok mixed_ok rfl rfl rfl rfl (fun g vs p h => by unfold z73.C at h; simp only at h; split at h; exact z72.sound vs p h; exact z55.sound vs p h; exact z69.sound vs p h; simp at h) fun124 rfl (z73.link _ _ _ _ _ _) z73.hdec
theorem fun38 : FunOK Tryz.prog 38 Tryz.f38 (ifun Tryz.f38).body := ⟨Tryz.func38, rfl, by kernel_rfl⟩
theorem z74.hdec : DecOK z74.dec z74.enc := by
  intro v r h
  unfold z74.dec at h; split at h <;> cases h
  exact ⟨rfl, rfl⟩
theorem z74.sound (vs : List V) (p : Pack) (h : z74.pack vs = some p) : SoundC Tryz.prog 38 vs p := by
  unfold z74.pack at h; split at h <;> cases h
  exact plain_sound tab_ok mixed_ok rfl rfl rfl rfl (fun g vs p h => by unfold z74.C at h; simp only at h; split at h; exact z51.sound vs p h; exact z49.sound vs p h; exact z53.sound vs p h; exact z54.sound vs p h; exact z21.sound vs p h; exact z58.sound vs p h; exact z59.sound vs p h; exact z70.sound vs p h; exact z48.sound vs p h; exact z73.sound vs p h; simp at h) fun38 rfl (z74.link _) z74.hdec
theorem fun137 : FunOK Tryz.prog 137 Tryz.f137 (ifun Tryz.f137).body := ⟨Tryz.func137, rfl, by kernel_rfl⟩
theorem z75.hdec : DecOK z75.dec z75.enc := by
  intro v r h
  unfold z75.dec at h; split at h <;> cases h
  exact ⟨rfl, rfl⟩
theorem z75.sound (vs : List V) (p : Pack) (h : z75.pack vs = some p) : SoundC Tryz.prog 137 vs p := by
  unfold z75.pack at h; split at h <;> cases h
  exact plain_sound tab_ok mixed_ok rfl rfl rfl rfl (fun g vs p h => by simp [z75.C] at h) fun137 rfl z75.link z75.hdec
theorem fun47 : FunOK Tryz.prog 47 Tryz.f47 (ifun Tryz.f47).body := ⟨Tryz.func47, rfl, by kernel_rfl⟩
theorem z76.hdec : DecOK z76.dec z76.enc := by
  intro v r h
  unfold z76.dec at h; split at h <;> cases h
  exact ⟨rfl, rfl⟩
theorem z76.sound (vs : List V) (p : Pack) (h : z76.pack vs = some p) : SoundC Tryz.prog 47 vs p := by
  unfold z76.pack at h; split at h <;> cases h
  exact plain_sound tab_ok mixed_ok rfl rfl rfl rfl (fun g vs p h => by unfold z76.C at h; simp only at h; split at h; exact z75.sound vs p h; simp at h) fun47 rfl (z76.link _) z76.hdec
theorem fun214 : FunOK Tryz.prog 214 Tryz.f214 (ifun Tryz.f214).body := ⟨Tryz.func214, rfl, by kernel_rfl⟩
theorem z77.hdec : DecOK z77.dec z77.enc := by
  intro v r h
  unfold z77.dec at h; split at h <;> cases h
  exact ⟨rfl, rfl⟩
theorem z77.sound (vs : List V) (p : Pack) (h : z77.pack vs = some p) : SoundC Tryz.prog 214 vs p := by
  unfold z77.pack at h; split at h <;> cases h
  exact plain_sound tab_ok mixed_ok rfl rfl rfl rfl (fun g vs p h => by simp [z77.C] at h) fun214 rfl (z77.link _) z77.hdec
theorem fun215 : FunOK Tryz.prog 215 Tryz.f215 (ifun Tryz.f215).body := ⟨Tryz.func215, rfl, by kernel_rfl⟩
theorem z78.hdec : DecOK z78.dec z78.enc := by
  intro v r h
  unfold z78.dec at h; split at h <;> cases h
  exact ⟨rfl, rfl⟩
theorem z78.sound (vs : List V) (p : Pack) (h : z78.pack vs = some p) : SoundC Tryz.prog 215 vs p := by
  unfold z78.pack at h; split at h <;> cases h
  exact plain_sound tab_ok mixed_ok rfl rfl rfl rfl (fun g vs p h => by simp [z78.C] at h) fun215 rfl z78.link z78.hdec
theorem fun149 : FunOK Tryz.prog 149 Tryz.f149 (ifun Tryz.f149).body := ⟨Tryz.func149, rfl, by kernel_rfl⟩
theorem z79.hdec : DecOK z79.dec z79.enc := by
  intro v r h
  unfold z79.dec at h; split at h <;> cases h
  exact ⟨rfl, rfl⟩
theorem z79.sound (vs : List V) (p : Pack) (h : z79.pack vs = some p) : SoundC Tryz.prog 149 vs p := by
  unfold z79.pack at h; split at h <;> cases h
  exact plain_sound tab_ok mixed_ok rfl rfl rfl rfl (fun g vs p h => by unfold z79.C at h; simp only at h; split at h; exact z77.sound vs p h; exact z78.sound vs p h; simp at h) fun149 rfl (z79.link _) z79.hdec
theorem fun228 : FunOK Tryz.prog 228 Tryz.f228 (ifun Tryz.f228).body := ⟨Tryz.func228, rfl, by kernel_rfl⟩
theorem z80.hdec : DecOK z80.dec z80.enc := by
  intro v r h
  unfold z80.dec at h; split at h <;> cases h
  exact ⟨rfl, rfl⟩
theorem z80.sound (vs : List V) (p : Pack) (h : z80.pack vs = some p) : SoundC Tryz.prog 228 vs p := by
  unfold z80.pack at h; split at h <;> cases h
  exact plain_sound tab_ok mixed_ok rfl rfl rfl rfl (fun g vs p h => by simp [z80.C] at h) fun228 rfl (z80.link _) z80.hdec
theorem fun257 : FunOK Tryz.prog 257 Tryz.f257 (ifun Tryz.f257).body := ⟨Tryz.func257, rfl, by kernel_rfl⟩
theorem z81.hdec : DecOK z81.dec z81.enc := by
  intro v r h
  unfold z81.dec at h; split at h <;> cases h
  exact ⟨rfl, rfl⟩
theorem z81.sound (vs : List V) (p : Pack) (h : z81.pack vs = some p) : SoundC Tryz.prog 257 vs p := by
  unfold z81.pack at h; split at h <;> cases h
  exact plain_sound tab_ok mixed_ok rfl rfl rfl rfl (fun g vs p h => by simp [z81.C] at h) fun257 rfl z81.link z81.hdec
theorem fun209 : FunOK Tryz.prog 209 Tryz.f209 (ifun Tryz.f209).body := ⟨Tryz.func209, rfl, by kernel_rfl⟩
theorem z82.hdec : DecOK z82.dec z82.enc := by
  intro v r h
  unfold z82.dec at h; split at h <;> cases h
  exact ⟨rfl, rfl⟩
theorem z82.sound (vs : List V) (p : Pack) (h : z82.pack vs = some p) : SoundC Tryz.prog 209 vs p := by
  unfold z82.pack at h; split at h <;> cases h
  exact plain_sound tab_ok mixed_ok rfl rfl rfl rfl (fun g vs p h => by unfold z82.C at h; simp only at h; split at h; exact z80.sound vs p h; exact z81.sound vs p h; simp at h) fun209 rfl (z82.link _) z82.hdec
theorem fun133 : FunOK Tryz.prog 133 Tryz.f133 (ifun Tryz.f133).body := ⟨Tryz.func133, rfl, by kernel_rfl⟩
theorem z83.hdec : DecOK z83.dec z83.enc := by
  intro v r h
  unfold z83.dec at h; split at h <;> cases h
  exact ⟨rfl, rfl⟩
theorem z83.sound (vs : List V) (p : Pack) (h : z83.pack vs = some p) : SoundC Tryz.prog 133 vs p := by
  unfold z83.pack at h; split at h <;> cases h
  exact plain_sound tab_ok mixed_ok rfl rfl rfl rfl (fun g vs p h => by unfold z83.C at h; simp only at h; split at h; exact z76.sound vs p h; exact z82.sound vs p h; exact z79.sound vs p h; simp at h) fun133 rfl (z83.link _ _ _ _ _ _ _ _ _ _) z83.hdec
theorem fun258 : FunOK Tryz.prog 258 Tryz.f258 (ifun Tryz.f258).body := ⟨Tryz.func258, rfl, by kernel_rfl⟩
theorem z84.hdec : DecOK z84.dec z84.enc := by
  intro v r h
  unfold z84.dec at h; split at h <;> cases h
  exact ⟨rfl, rfl⟩
theorem z84.sound (vs : List V) (p : Pack) (h : z84.pack vs = some p) : SoundC Tryz.prog 258 vs p := by
  unfold z84.pack at h; split at h <;> cases h
  exact plain_sound tab_ok mixed_ok rfl rfl rfl rfl (fun g vs p h => by simp [z84.C] at h) fun258 rfl (z84.link _) z84.hdec
theorem fun259 : FunOK Tryz.prog 259 Tryz.f259 (ifun Tryz.f259).body := ⟨Tryz.func259, rfl, by kernel_rfl⟩
theorem z85.hdec : DecOK z85.dec z85.enc := by
  intro v r h
  unfold z85.dec at h; split at h <;> cases h
  exact ⟨rfl, rfl⟩
theorem z85.sound (vs : List V) (p : Pack) (h : z85.pack vs = some p) : SoundC Tryz.prog 259 vs p := by
  unfold z85.pack at h; split at h <;> cases h
  exact plain_sound tab_ok mixed_ok rfl rfl rfl rfl (fun g vs p h => by unfold z85.C at h; simp only at h; split at h; exact z84.sound vs p h; simp at h) fun259 rfl (z85.link _) z85.hdec
theorem fun210 : FunOK Tryz.prog 210 Tryz.f210 (ifun Tryz.f210).body := ⟨Tryz.func210, rfl, by kernel_rfl⟩
theorem z86.hdec : DecOK z86.dec z86.enc := by
  intro v r h
  unfold z86.dec at h; split at h <;> cases h
  exact ⟨rfl, rfl⟩
theorem z86.sound (vs : List V) (p : Pack) (h : z86.pack vs = some p) : SoundC Tryz.prog 210 vs p := by
  unfold z86.pack at h; split at h <;> cases h
  exact plain_sound tab_ok mixed_ok rfl rfl rfl rfl (fun g vs p h => by unfold z86.C at h; simp only at h; split at h; exact z84.sound vs p h; exact z85.sound vs p h; simp at h) fun210 rfl (z86.link _ _) z86.hdec
theorem fun142 : FunOK Tryz.prog 142 Tryz.f142 (ifun Tryz.f142).body := ⟨Tryz.func142, rfl, by kernel_rfl⟩
theorem z87.hdec : DecOK z87.dec z87.enc := by
  intro v r h
  unfold z87.dec at h; split at h <;> cases h
  exact ⟨rfl, rfl⟩
theorem z87.sound (vs : List V) (p : Pack) (h : z87.pack vs = some p) : SoundC Tryz.prog 142 vs p := by
  unfold z87.pack at h; split at h <;> cases h
  exact plain_sound tab_ok mixed_ok rfl rfl rfl rfl (fun g vs p h => by unfold z87.C at h; simp only at h; split at h; exact z86.sound vs p h; simp at h) fun142 rfl (z87.link _ _ _) z87.hdec
theorem fun134 : FunOK Tryz.prog 134 Tryz.f134 (ifun Tryz.f134).body := ⟨Tryz.func134, rfl, by kernel_rfl⟩
theorem z88.hdec : DecOK z88.dec z88.enc := by
  intro v r h
  unfold z88.dec at h; split at h <;> cases h
  exact ⟨rfl, rfl⟩
theorem z88.sound (vs : List V) (p : Pack) (h : z88.pack vs = some p) : SoundC Tryz.prog 134 vs p := by
  unfold z88.pack at h; split at h <;> cases h
  exact plain_sound tab_ok mixed_ok rfl rfl rfl rfl (fun g vs p h => by unfold z88.C at h; simp only at h; split at h; exact z87.sound vs p h; exact z86.sound vs p h; simp at h) fun134 rfl (z88.link _ _ _ _) z88.hdec
theorem fun44 : FunOK Tryz.prog 44 Tryz.f44 (ifun Tryz.f44).body := ⟨Tryz.func44, rfl, by kernel_rfl⟩
theorem z89.hdec : DecOK z89.dec z89.enc := by
  intro v r h
  unfold z89.dec at h; split at h <;> cases h
  exact ⟨rfl, rfl⟩
theorem z89.sound (vs : List V) (p : Pack) (h : z89.pack vs = some p) : SoundC Tryz.prog 44 vs p := by
  unfold z89.pack at h; split at h <;> cases h
  exact plain_sound tab_ok mixed_ok rfl rfl rfl rfl (fun g vs p h => by unfold z89.C at h; simp only at h; split at h; exact z47.sound vs p h; exact z21.sound vs p h; exact z74.sound vs p h; exact z83.sound vs p h; exact z88.sound vs p h; simp at h) fun44 rfl (z89.link _ _ _ _ _ _ _ _ _ _) z89.hdec
theorem z90.l0_sound (hI : InlOK Tryz.prog z90.C fun R => z90.C.inlK 6) : LoopS z90.C 6 138 0 0 (loopAt 0 (ifun Tryz.f138).body) z90.l0sh z90.l0pack := by
  refine loopS fun ls p h => ?_
  unfold z90.l0pack at h; split at h <;> cases h
  rename_i step1001 n1002 t1003 k1004 s1005 s1006 s1007 s1008 s1009
  exact loop_two hI (sh := z90.l0sh) (so := z90.l0sh) (so' := z90.l0so1) (F := fun R rec done x => z90.l0P step1001 n1002 s1005 s1006 s1007 rec done x) (enc := fun (x' : (Int × (List (List V)))) => fillSt z90.l0sh [.i step1001, .i n1002, .i t1003, .i x'.1, .i s1005, .i s1006, .i s1007, .lr s1008, .lr x'.2]) (.exit 0) [3, 8] [3, 8] [0, 1, 6] (k1004, s1009) (by kernel_rfl) (by kernel_rfl) (fun x => by kernel_rfl) (fun o => by kernel_rfl) (fun o => by kernel_rfl) fun R k d x' => z90.l0_link R k d step1001 n1002 t1003 (x'.1) s1005 s1006 s1007 s1008 (x'.2)
theorem fun138 : FunOK Tryz.prog 138 Tryz.f138 (ifun Tryz.f138).body := ⟨Tryz.func138, rfl, by kernel_rfl⟩
theorem once138 : loopsOnce (ifun Tryz.f138).body = true := by kernel_rfl
theorem z90.loopsT (hI : InlOK Tryz.prog z90.C fun R => z90.C.inlK 6) : LoopsOK z90.C (fun R => z90.C.inlK 6) 138 0 (ifun Tryz.f138).body := by
  intro id b hm st p hp
  obtain rfl := loopsOnce_mem once138 hm
  unfold z90.C at hp
  simp only at hp
  try split at hp
  all_goals first
    | (simp at hp; done)
    | (exfalso; omega)
    | exact z90.l0_sound hI st p hp
theorem z90.hdec : DecOK z90.dec z90.enc := by
  intro v r h
  unfold z90.dec at h; split at h <;> cases h
  exact ⟨rfl, rfl⟩
theorem z90.sound (vs : List V) (p : Pack) (h : z90.pack vs = some p) : SoundC Tryz.prog 138 vs p := by
  unfold z90.pack at h; split at h <;> cases h
  exact loops_sound tab_ok mixed_ok rfl rfl rfl (fun g vs p h => by unfold z90.C at h; simp only at h; split at h; exact z87.sound vs p h; exact z88.sound vs p h; simp at h) fun138 z90.loopsT rfl (z90.link _ _ _ _ _) z90.hdec
theorem fun48 : FunOK Tryz.prog 48 Tryz.f48 (ifun Tryz.f48).body := ⟨Tryz.func48, rfl, by kernel_rfl⟩
theorem z91.hdec : DecOK z91.dec z91.enc := by
  intro v r h
  unfold z91.dec at h; split at h <;> cases h
  exact ⟨rfl, rfl⟩
theorem z91.sound (vs : List V) (p : Pack) (h : z91.pack vs = some p) : SoundC Tryz.prog 48 vs p := by
  unfold z91.pack at h; split at h <;> cases h
  exact plain_sound tab_ok mixed_ok rfl rfl rfl rfl (fun g vs p h => by unfold z91.C at h; simp only at h; split at h; exact z89.sound vs p h; exact z90.sound vs p h; simp at h) fun48 rfl (z91.link _ _ _ _ _ _ _ _ _ _) z91.hdec
theorem z92.l0_sound (hI : InlOK Tryz.prog z92.C fun R => z92.C.inlK 6) : LoopS z92.C 6 49 0 0 (loopAt 0 (ifun Tryz.f49).body) z92.l0sh z92.l0pack := by
  refine loopS fun ls p h => ?_
  unfold z92.l0pack at h; split at h <;> cases h
  rename_i t1001 t1002 t1003 t1004 s1005 s1006 s1007 s1008 s1009
  exact loop_one hI (sh := z92.l0sh) (so := z92.l0sh) (F := fun R rec done x => z92.l0P t1002 t1003 rec done x) (enc := fun (x' : (Int × (List (List V)) × Int × Int × Int)) => fillSt z92.l0sh [.i t1001, .lr t1002, .i t1003, .i x'.1, .lr s1005, .lr x'.2.1, .i x'.2.2.1, .i x'.2.2.2.1, .i x'.2.2.2.2]) [3, 5, 6, 7, 8] [3, 5, 6, 7, 8] (t1004, s1006, s1007, s1008, s1009) (by kernel_rfl) (by kernel_rfl) (fun x => by kernel_rfl) (fun o => by kernel_rfl) fun R k d x' => z92.l0_link R k d t1001 t1002 t1003 (x'.1) s1005 (x'.2.1) (x'.2.2.1) (x'.2.2.2.1) (x'.2.2.2.2)
theorem fun49 : FunOK Tryz.prog 49 Tryz.f49 (ifun Tryz.f49).body := ⟨Tryz.func49, rfl, by kernel_rfl⟩
theorem once49 : loopsOnce (ifun Tryz.f49).body = true := by kernel_rfl
theorem z92.loopsT (hI : InlOK Tryz.prog z92.C fun R => z92.C.inlK 6) : LoopsOK z92.C (fun R => z92.C.inlK 6) 49 0 (ifun Tryz.f49).body := by
  intro id b hm st p hp
  obtain rfl := loopsOnce_mem once49 hm
  unfold z92.C at hp
  simp only at hp
  try split at hp
  all_goals first
    | (simp at hp; done)
    | (exfalso; omega)
    | exact z92.l0_sound hI st p hp
theorem z92.hdec : DecOK z92.dec z92.enc := by
  intro v r h
  unfold z92.dec at h; split at h <;> cases h
  exact ⟨rfl, rfl⟩
theorem z92.sound (vs : List V) (p : Pack) (h : z92.pack vs = some p) : SoundC Tryz.prog 49 vs p := by
  unfold z92.pack at h; split at h <;> cases h
  exact loops_sound tab_ok mixed_ok rfl rfl rfl (fun g vs p h => by unfold z92.C at h; simp only at h; split at h; exact z91.sound vs p h; simp at h) fun49 z92.loopsT rfl (z92.link _ _ _ _ _ _ _ _ _ _) z92.hdec
theorem z93.l2_sound (hI : InlOK Tryz.prog z93.C fun R => z93.C.inlK 6) : LoopS z93.C 6 192 2 0 (loopAt 2 (ifun Tryz.f192).body) z93.l2sh z93.l2pack := by
  refine loopS fun ls p h => ?_
  unfold z93.l2pack at h; split at h <;> cases h
  rename_i s2001 end2002 d2003 i2004 s2005 s2006
  exact loop_one hI (sh := z93.l2sh) (so := z93.l2sh) (F := fun R rec done x => z93.l2P s2001 end2002 rec done x) (enc := fun (x' : (Int × Int)) => fillSt z93.l2sh [.s s2001, .i end2002, .i x'.1, .i x'.2, .li s2005, .li s2006]) [2, 3] [2, 3] (d2003, i2004) (by kernel_rfl) (by kernel_rfl) (fun x => by kernel_rfl) (fun o => by kernel_rfl) fun R k d x' => z93.l2_link R k d s2001 end2002 (x'.1) (x'.2) s2005 s2006
theorem z93.l0_sound (hI : InlOK Tryz.prog z93.C fun R => z93.C.inlK 6) : LoopS z93.C 6 192 0 0 (loopAt 0 (ifun Tryz.f192).body) z93.l0sh z93.l0pack := by
  refine loopS fun ls p h => ?_
  unfold z93.l0pack at h; split at h <;> cases h
  rename_i s1001 end1002 s1003 s1004
  exact loop_one hI (sh := z93.l0sh) (so := z93.l0sh) (F := fun R rec done x => z93.l0P s1001 rec done x) (enc := fun (x' : (Int × (List Int))) => fillSt z93.l0sh [.s s1001, .i x'.1, .li s1003, .li x'.2]) [1, 3] [1, 3] (end1002, s1004) (by kernel_rfl) (by kernel_rfl) (fun x => by kernel_rfl) (fun o => by kernel_rfl) fun R k d x' => z93.l0_link R k d s1001 (x'.1) s1003 (x'.2)
theorem fun192 : FunOK Tryz.prog 192 Tryz.f192 (ifun Tryz.f192).body := ⟨Tryz.func192, rfl, by kernel_rfl⟩
theorem once192 : loopsOnce (ifun Tryz.f192).body = true := by kernel_rfl
theorem z93.loopsT (hI : InlOK Tryz.prog z93.C fun R => z93.C.inlK 6) : LoopsOK z93.C (fun R => z93.C.inlK 6) 192 0 (ifun Tryz.f192).body := by
  intro id b hm st p hp
  obtain rfl := loopsOnce_mem once192 hm
  unfold z93.C at hp
  simp only at hp
  try split at hp
  all_goals first
    | (simp at hp; done)
    | (exfalso; omega)
    | exact z93.l2_sound hI st p hp
    | exact z93.l0_sound hI st p hp
theorem z93.hdec : DecOK z93.dec z93.enc := by
  intro v r h
  unfold z93.dec at h; split at h <;> cases h
  exact ⟨rfl, rfl⟩
theorem z93.sound (vs : List V) (p : Pack) (h : z93.pack vs = some p) : SoundC Tryz.prog 192 vs p := by
  unfold z93.pack at h; split at h <;> cases h
  exact loops_sound tab_ok mixed_ok rfl rfl rfl (fun g vs p h => by unfold z93.C at h; simp only at h; split at h; exact z15.sound vs p h; simp at h) fun192 z93.loopsT rfl (z93.link _) z93.hdec
theorem fun103 : FunOK Tryz.prog 103 Tryz.f103 (ifun Tryz.f103).body := ⟨Tryz.func103, rfl, by kernel_rfl⟩
theorem z94.hdec : DecOK z94.dec z94.enc := by
  intro v r h
  unfold z94.dec at h; split at h <;> cases h
  exact ⟨rfl, rfl⟩
theorem z94.sound (vs : List V) (p : Pack) (h : z94.pack vs = some p) : SoundC Tryz.prog 103 vs p := by
  unfold z94.pack at h; split at h <;> cases h
  exact plain_sound tab_ok mixed_ok rfl rfl rfl rfl (fun g vs p h => by unfold z94.C at h; simp only at h; split at h; exact z93.sound vs p h; exact z8.sound vs p h; simp at h) fun103 rfl (z94.link _) z94.hdec
theorem z95.l0b4_sound (hI : InlOK Tryz.prog z95.C fun R => z95.C.inlK 6) : LoopS z95.C 6 196 0 0 (loopAt 0 (ifun Tryz.f196).body) z95.l0b4sh z95.l0b4pack := by
  refine loopS fun ls p h => ?_
  unfold z95.l0b4pack at h; split at h <;> cases h
  rename_i s5001 t5002 i5003
  exact loop_two hI (sh := z95.l0b4sh) (so := z95.l0b4sh) (so' := z95.l0b4so1) (F := fun R rec done x => z95.l0b4P s5001 rec done x) (enc := fun (x' : Int) => fillSt z95.l0b4sh [.s s5001, .b t5002, .i x']) (.exit 0) [2] [2] [0] i5003 (by kernel_rfl) (by kernel_rfl) (fun x => by kernel_rfl) (fun o => by kernel_rfl) (fun o => by kernel_rfl) fun R k d x' => z95.l0b4_link R k d s5001 t5002 (x')
theorem fun196 : FunOK Tryz.prog 196 Tryz.f196 (ifun Tryz.f196).body := ⟨Tryz.func196, rfl, by kernel_rfl⟩
theorem once196 : loopsOnce (ifun Tryz.f196).body = true := by kernel_rfl
theorem z95.loopsT (hI : InlOK Tryz.prog z95.C fun R => z95.C.inlK 6) : LoopsOK z95.C (fun R => z95.C.inlK 6) 196 0 (ifun Tryz.f196).body := by
  intro id b hm st p hp
  obtain rfl := loopsOnce_mem once196 hm
  unfold z95.C at hp
  simp only at hp
  try split at hp
  all_goals first
    | (simp at hp; done)
    | (exfalso; omega)
    | exact z95.l0b4_sound hI st p hp
theorem z95.hdec : DecOK z95.dec z95.enc := by
  intro v r h
  unfold z95.dec at h; split at h <;> cases h
  exact ⟨rfl, rfl⟩
theorem z95.sound (vs : List V) (p : Pack) (h : z95.pack vs = some p) : SoundC Tryz.prog 196 vs p := by
  unfold z95.pack at h; split at h <;> cases h
  exact loops_sound tab_ok mixed_ok rfl rfl rfl (fun g vs p h => by simp [z95.C] at h) fun196 z95.loopsT rfl (z95.link _) z95.hdec
theorem fun115 : FunOK Tryz.prog 115 Tryz.f115 (ifun Tryz.f115).body := ⟨Tryz.func115, rfl, by kernel_rfl⟩
theorem z96.hdec : DecOK z96.dec z96.enc := by
  intro v r h
  unfold z96.dec at h; split at h <;> cases h
  exact ⟨rfl, rfl⟩
theorem z96.sound (vs : List V) (p : Pack) (h : z96.pack vs = some p) : SoundC Tryz.prog 115 vs p := by
  unfold z96.pack at h; split at h <;> cases h
  exact plain_sound tab_ok mixed_ok rfl rfl rfl rfl (fun g vs p h => by unfold z96.C at h; simp only at h; split at h; exact z10.sound vs p h; exact z95.sound vs p h; exact z94.sound vs p h; simp at h) fun115 rfl (z96.link _) z96.hdec
theorem z97.l0_sound (hI : InlOK Tryz.prog z97.C fun R => z97.C.inlK 6) : LoopS z97.C 6 116 0 0 (loopAt 0 (ifun Tryz.f116).body) z97.l0sh z97.l0pack := by
  refine loopS fun ls p h => ?_
  unfold z97.l0pack at h; split at h <;> cases h
  rename_i times1001 s1002 i1003 s1004
  exact loop_one hI (sh := z97.l0sh) (so := z97.l0sh) (F := fun R rec done x => z97.l0P times1001 rec done x) (enc := fun (x' : ((List UInt8) × Int)) => fillSt z97.l0sh [.i times1001, .s x'.1, .i x'.2, .li s1004]) [1, 2] [1, 2] (s1002, i1003) (by kernel_rfl) (by kernel_rfl) (fun x => by kernel_rfl) (fun o => by kernel_rfl) fun R k d x' => z97.l0_link R k d times1001 (x'.1) (x'.2) s1004
theorem fun116 : FunOK Tryz.prog 116 Tryz.f116 (ifun Tryz.f116).body := ⟨Tryz.func116, rfl, by kernel_rfl⟩
theorem once116 : loopsOnce (ifun Tryz.f116).body = true := by kernel_rfl
theorem z97.loopsT (hI : InlOK Tryz.prog z97.C fun R => z97.C.inlK 6) : LoopsOK z97.C (fun R => z97.C.inlK 6) 116 0 (ifun Tryz.f116).body := by
  intro id b hm st p hp
  obtain rfl := loopsOnce_mem once116 hm
  unfold z97.C at hp
  simp only at hp
  try split at hp
  all_goals first
    | (simp at hp; done)
    | (exfalso; omega)
    | exact z97.l0_sound hI st p hp
theorem z97.hdec : DecOK z97.dec z97.enc := by
  intro v r h
  unfold z97.dec at h; split at h <;> cases h
  exact ⟨rfl, rfl⟩
theorem z97.sound (vs : List V) (p : Pack) (h : z97.pack vs = some p) : SoundC Tryz.prog 116 vs p := by
  unfold z97.pack at h; split at h <;> cases h
  exact loops_sound tab_ok mixed_ok rfl rfl rfl (fun g vs p h => by unfold z97.C at h; simp only at h; split at h; exact z93.sound vs p h; simp at h) fun116 z97.loopsT rfl (z97.link _) z97.hdec
theorem fun35 : FunOK Tryz.prog 35 Tryz.f35 (ifun Tryz.f35).body := ⟨Tryz.func35, rfl, by kernel_rfl⟩
theorem z98.hdec : DecOK z98.dec z98.enc := by
  intro v r h
  unfold z98.dec at h; split at h <;> cases h
  exact ⟨rfl, rfl⟩
theorem z98.sound (vs : List V) (p : Pack) (h : z98.pack vs = some p) : SoundC Tryz.prog 35 vs p := by
  unfold z98.pack at h; split at h <;> cases h
  exact plain_sound tab_ok mixed_ok rfl rfl rfl rfl (fun g vs p h => by unfold z98.C at h; simp only at h; split at h; exact z8.sound vs p h; simp at h) fun35 rfl (z98.link _ _) z98.hdec
theorem z99.l0b6_sound (hI : InlOK Tryz.prog z99.C fun R => z99.C.inlK 6) : LoopS z99.C 6 170 0 0 (loopAt 0 (ifun Tryz.f170).body) z99.l0b6sh z99.l0b6pack := by
  refine loopS fun ls p h => ?_
  unfold z99.l0b6pack at h; split at h <;> cases h
  rename_i a7001 b7002 carry7003 i7004 s7005 s7006
  exact loop_one hI (sh := z99.l0b6sh) (so := z99.l0b6sh) (F := fun R rec done x => z99.l0b6P a7001 b7002 rec done x) (enc := fun (x' : (Int × Int × (List Int))) => fillSt z99.l0b6sh [.li a7001, .li b7002, .i x'.1, .i x'.2.1, .li s7005, .li x'.2.2]) [2, 3, 5] [2, 3, 5] (carry7003, i7004, s7006) (by kernel_rfl) (by kernel_rfl) (fun x => by kernel_rfl) (fun o => by kernel_rfl) fun R k d x' => z99.l0b6_link R k d a7001 b7002 (x'.1) (x'.2.1) s7005 (x'.2.2)
theorem fun170 : FunOK Tryz.prog 170 Tryz.f170 (ifun Tryz.f170).body := ⟨Tryz.func170, rfl, by kernel_rfl⟩
theorem once170 : loopsOnce (ifun Tryz.f170).body = true := by kernel_rfl
theorem z99.loopsT (hI : InlOK Tryz.prog z99.C fun R => z99.C.inlK 6) : LoopsOK z99.C (fun R => z99.C.inlK 6) 170 0 (ifun Tryz.f170).body := by
  intro id b hm st p hp
  obtain rfl := loopsOnce_mem once170 hm
  unfold z99.C at hp
  simp only at hp
  try split at hp
  all_goals first
    | (simp at hp; done)
    | (exfalso; omega)
    | exact z99.l0b6_sound hI st p hp
theorem z99.hdec : DecOK z99.dec z99.enc := by
  intro v r h
  unfold z99.dec at h; split at h <;> cases h
  exact ⟨rfl, rfl⟩
theorem z99.sound (vs : List V) (p : Pack) (h : z99.pack vs = some p) : SoundC Tryz.prog 170 vs p := by
  unfold z99.pack at h; split at h <;> cases h
  exact loops_sound tab_ok mixed_ok rfl rfl rfl (fun g vs p h => by unfold z99.C at h; simp only at h; split at h; exact z14.sound vs p h; exact z15.sound vs p h; simp at h) fun170 z99.loopsT rfl (z99.link _ _) z99.hdec
theorem z100.l0_sound (hI : InlOK Tryz.prog z100.C fun R => z100.C.inlK 6) : LoopS z100.C 6 171 0 0 (loopAt 0 (ifun Tryz.f171).body) z100.l0sh z100.l0pack := by
  refine loopS fun ls p h => ?_
  unfold z100.l0pack at h; split at h <;> cases h
  rename_i a1001 b1002 t1003 i1004
  exact loop_two hI (sh := z100.l0sh) (so := z100.l0sh) (so' := z100.l0so1) (F := fun R rec done x => z100.l0P a1001 b1002 rec done x) (enc := fun (x' : Int) => fillSt z100.l0sh [.li a1001, .li b1002, .i t1003, .i x']) (.exit 0) [3] [3] [0] i1004 (by kernel_rfl) (by kernel_rfl) (fun x => by kernel_rfl) (fun o => by kernel_rfl) (fun o => by kernel_rfl) fun R k d x' => z100.l0_link R k d a1001 b1002 t1003 (x')
theorem fun171 : FunOK Tryz.prog 171 Tryz.f171 (ifun Tryz.f171).body := ⟨Tryz.func171, rfl, by kernel_rfl⟩
theorem once171 : loopsOnce (ifun Tryz.f171).body = true := by kernel_rfl
theorem z100.loopsT (hI : InlOK Tryz.prog z100.C fun R => z100.C.inlK 6) : LoopsOK z100.C (fun R => z100.C.inlK 6) 171 0 (ifun Tryz.f171).body := by
  intro id b hm st p hp
  obtain rfl := loopsOnce_mem once171 hm
  unfold z100.C at hp
  simp only at hp
  try split at hp
  all_goals first
    | (simp at hp; done)
    | (exfalso; omega)
    | exact z100.l0_sound hI st p hp
theorem z100.hdec : DecOK z100.dec z100.enc := by
  intro v r h
  unfold z100.dec at h; split at h <;> cases h
  exact ⟨rfl, rfl⟩
theorem z100.sound (vs : List V) (p : Pack) (h : z100.pack vs = some p) : SoundC Tryz.prog 171 vs p := by
  unfold z100.pack at h; split at h <;> cases h
  exact loops_sound tab_ok mixed_ok rfl rfl rfl (fun g vs p h => by simp [z100.C] at h) fun171 z100.loopsT rfl (z100.link _ _) z100.hdec
theorem z101.l0_sound (hI : InlOK Tryz.prog z101.C fun R => z101.C.inlK 6) : LoopS z101.C 6 172 0 0 (loopAt 0 (ifun Tryz.f172).body) z101.l0sh z101.l0pack := by
  refine loopS fun ls p h => ?_
  unfold z101.l0pack at h; split at h <;> cases h
  rename_i a1001 b1002 borrow1003 i1004 s1005 s1006
  exact loop_one hI (sh := z101.l0sh) (so := z101.l0sh) (F := fun R rec done x => z101.l0P a1001 b1002 rec done x) (enc := fun (x' : (Int × Int × (List Int))) => fillSt z101.l0sh [.li a1001, .li b1002, .i x'.1, .i x'.2.1, .li s1005, .li x'.2.2]) [2, 3, 5] [2, 3, 5] (borrow1003, i1004, s1006) (by kernel_rfl) (by kernel_rfl) (fun x => by kernel_rfl) (fun o => by kernel_rfl) fun R k d x' => z101.l0_link R k d a1001 b1002 (x'.1) (x'.2.1) s1005 (x'.2.2)
theorem fun172 : FunOK Tryz.prog 172 Tryz.f172 (ifun Tryz.f172).body := ⟨Tryz.func172, rfl, by kernel_rfl⟩
theorem once172 : loopsOnce (ifun Tryz.f172).body = true := by kernel_rfl
theorem z101.loopsT (hI : InlOK Tryz.prog z101.C fun R => z101.C.inlK 6) : LoopsOK z101.C (fun R => z101.C.inlK 6) 172 0 (ifun Tryz.f172).body := by
  intro id b hm st p hp
  obtain rfl := loopsOnce_mem once172 hm
  unfold z101.C at hp
  simp only at hp
  try split at hp
  all_goals first
    | (simp at hp; done)
    | (exfalso; omega)
    | exact z101.l0_sound hI st p hp
theorem z101.hdec : DecOK z101.dec z101.enc := by
  intro v r h
  unfold z101.dec at h; split at h <;> cases h
  exact ⟨rfl, rfl⟩
theorem z101.sound (vs : List V) (p : Pack) (h : z101.pack vs = some p) : SoundC Tryz.prog 172 vs p := by
  unfold z101.pack at h; split at h <;> cases h
  exact loops_sound tab_ok mixed_ok rfl rfl rfl (fun g vs p h => by unfold z101.C at h; simp only at h; split at h; exact z14.sound vs p h; exact z15.sound vs p h; simp at h) fun172 z101.loopsT rfl (z101.link _ _) z101.hdec
theorem fun85 : FunOK Tryz.prog 85 Tryz.f85 (ifun Tryz.f85).body := ⟨Tryz.func85, rfl, by kernel_rfl⟩
theorem z102.hdec : DecOK z102.dec z102.enc := by
  intro v r h
  unfold z102.dec at h; split at h <;> cases h
  exact ⟨rfl, rfl⟩
theorem z102.sound (vs : List V) (p : Pack) (h : z102.pack vs = some p) : SoundC Tryz.prog 85 vs p := by
  unfold z102.pack at h; split at h <;> cases h
  exact plain_sound tab_ok mixed_ok rfl rfl rfl rfl (fun g vs p h => by unfold z102.C at h; simp only at h; split at h; exact z99.sound vs p h; exact z8.sound vs p h; exact z100.sound vs p h; exact z101.sound vs p h; simp at h) fun85 rfl (z102.link _ _ _ _) z102.hdec
theorem fun63 : FunOK Tryz.prog 63 Tryz.f63 (ifun Tryz.f63).body := ⟨Tryz.func63, rfl, by kernel_rfl⟩
theorem z103.hdec : DecOK z103.dec z103.enc := by
  intro v r h
  unfold z103.dec at h; split at h <;> cases h
  exact ⟨rfl, rfl⟩
theorem z103.sound (vs : List V) (p : Pack) (h : z103.pack vs = some p) : SoundC Tryz.prog 63 vs p := by
  unfold z103.pack at h; split at h <;> cases h
  exact plain_sound tab_ok mixed_ok rfl rfl rfl rfl (fun g vs p h => by unfold z103.C at h; simp only at h; split at h; exact z98.sound vs p h; exact z102.sound vs p h; simp at h) fun63 rfl (z103.link _ _ _ _) z103.hdec
theorem fun197 : FunOK Tryz.prog 197 Tryz.f197 (ifun Tryz.f197).body := ⟨Tryz.func197, rfl, by kernel_rfl⟩
theorem z104.hdec : DecOK z104.dec z104.enc := by
  intro v r h
  unfold z104.dec at h; split at h <;> cases h
  exact ⟨rfl, rfl⟩
theorem z104.sound (vs : List V) (p : Pack) (h : z104.pack vs = some p) : SoundC Tryz.prog 197 vs p := by
  unfold z104.pack at h; split at h <;> cases h
  exact plain_sound tab_ok mixed_ok rfl rfl rfl rfl (fun g vs p h => by simp [z104.C] at h) fun197 rfl (z104.link _ _) z104.hdec
theorem fun117 : FunOK Tryz.prog 117 Tryz.f117 (ifun Tryz.f117).body := ⟨Tryz.func117, rfl, by kernel_rfl⟩
theorem z105.hdec : DecOK z105.dec z105.enc := by
  intro v r h
  unfold z105.dec at h; split at h <;> cases h
  exact ⟨rfl, rfl⟩
theorem z105.sound (vs : List V) (p : Pack) (h : z105.pack vs = some p) : SoundC Tryz.prog 117 vs p := by
  unfold z105.pack at h; split at h <;> cases h
  exact plain_sound tab_ok mixed_ok rfl rfl rfl rfl (fun g vs p h => by unfold z105.C at h; simp only at h; split at h; exact z103.sound vs p h; exact z104.sound vs p h; simp at h) fun117 rfl (z105.link _ _ _ _) z105.hdec
theorem fun37 : FunOK Tryz.prog 37 Tryz.f37 (ifun Tryz.f37).body := ⟨Tryz.func37, rfl, by kernel_rfl⟩
theorem z106.hdec : DecOK z106.dec z106.enc := by
  intro v r h
  unfold z106.dec at h; split at h <;> cases h
  exact ⟨rfl, rfl⟩
theorem z106.sound (vs : List V) (p : Pack) (h : z106.pack vs = some p) : SoundC Tryz.prog 37 vs p := by
  unfold z106.pack at h; split at h <;> cases h
  exact plain_sound tab_ok mixed_ok rfl rfl rfl rfl (fun g vs p h => by unfold z106.C at h; simp only at h; split at h; exact z10.sound vs p h; exact z96.sound vs p h; exact z97.sound vs p h; exact z8.sound vs p h; exact z105.sound vs p h; simp at h) fun37 rfl (z106.link _) z106.hdec
theorem z107.l2_sound (hI : InlOK Tryz.prog z107.C fun R => z107.C.inlK 6) : LoopS z107.C 6 221 2 0 (loopAt 2 (ifun Tryz.f221).body) z107.l2sh z107.l2pack := by
  refine loopS fun ls p h => ?_
  unfold z107.l2pack at h; split at h <;> cases h
  rename_i a2001 b2002 rest2003 i2004 low2005 high2006 s2007 s2008 s2009
  exact loop_one hI (sh := z107.l2sh) (so := z107.l2sh) (F := fun R rec done x => z107.l2P b2002 rest2003 rec done x) (enc := fun (x' : (Int × Int)) => fillSt z107.l2sh [.li a2001, .li b2002, .li rest2003, .i i2004, .i x'.1, .i x'.2, .li s2007, .li s2008, .li s2009]) [4, 5] [4, 5] (low2005, high2006) (by kernel_rfl) (by kernel_rfl) (fun x => by kernel_rfl) (fun o => by kernel_rfl) fun R k d x' => z107.l2_link R k d a2001 b2002 rest2003 i2004 (x'.1) (x'.2) s2007 s2008 s2009
theorem z107.l0a_sound (hI : InlOK Tryz.prog z107.C fun R => z107.C.inlK 6) : LoopS z107.C 6 221 0 0 (loopAt 0 (ifun Tryz.f221).body) z107.l0ash z107.l0apack := by
  refine loopS fun ls p h => ?_
  unfold z107.l0apack at h; split at h <;> cases h
  rename_i a3001 b3002 rest3003 i3004 s3005 s3006 s3007
  exact loop_one hI (sh := z107.l0ash) (so := z107.l0ash) (F := fun R rec done x => z107.l0aP a3001 b3002 rec done x) (enc := fun (x' : ((List Int) × Int × (List Int))) => fillSt z107.l0ash [.li a3001, .li b3002, .li x'.1, .i x'.2.1, .li s3005, .li s3006, .li x'.2.2]) [2, 3, 6] [2, 3, 6] (rest3003, i3004, s3007) (by kernel_rfl) (by kernel_rfl) (fun x => by kernel_rfl) (fun o => by kernel_rfl) fun R k d x' => z107.l0a_link R k d a3001 b3002 (x'.1) (x'.2.1) s3005 s3006 (x'.2.2)
theorem fun221 : FunOK Tryz.prog 221 Tryz.f221 (ifun Tryz.f221).body := ⟨Tryz.func221, rfl, by kernel_rfl⟩
theorem once221 : loopsOnce (ifun Tryz.f221).body = true := by kernel_rfl
theorem z107.loopsT (hI : InlOK Tryz.prog z107.C fun R => z107.C.inlK 6) : LoopsOK z107.C (fun R => z107.C.inlK 6) 221 0 (ifun Tryz.f221).body := by
  intro id b hm st p hp
  obtain rfl := loopsOnce_mem once221 hm
  unfold z107.C at hp
  simp only at hp
  try split at hp
  all_goals first
    | (simp at hp; done)
    | (exfalso; omega)
    | exact z107.l2_sound hI st p hp
    | exact z107.l0a_sound hI st p hp
theorem z107.hdec : DecOK z107.dec z107.enc := by
  intro v r h
  unfold z107.dec at h; split at h <;> cases h
  exact ⟨rfl, rfl⟩
theorem z107.sound (vs : List V) (p : Pack) (h : z107.pack vs = some p) : SoundC Tryz.prog 221 vs p := by
  unfold z107.pack at h; split at h <;> cases h
  exact loops_sound tab_ok mixed_ok rfl rfl rfl (fun g vs p h => by unfold z107.C at h; simp only at h; split at h; exact z15.sound vs p h; exact z9.sound vs p h; exact z16.sound vs p h; exact z100.sound vs p h; exact z101.sound vs p h; simp at h) fun221 z107.loopsT rfl (z107.link _ _) z107.hdec
theorem z108.l0_sound (hI : InlOK Tryz.prog z108.C fun R => z108.C.inlK 6) : LoopS z108.C 6 256 0 0 (loopAt 0 (ifun Tryz.f256).body) z108.l0sh z108.l0pack := by
  refine loopS fun ls p h => ?_
  unfold z108.l0pack at h; split at h <;> cases h
  rename_i a1001 b1002 s1003
  exact loop_one hI (sh := z108.l0sh) (so := z108.l0sh) (F := fun R rec done x => z108.l0P  rec done x) (enc := fun (x' : ((List Int) × (List Int))) => fillSt z108.l0sh [.li x'.1, .li x'.2, .li s1003]) [0, 1] [0, 1] (a1001, b1002) (by kernel_rfl) (by kernel_rfl) (fun x => by kernel_rfl) (fun o => by kernel_rfl) fun R k d x' => z108.l0_link R k d (x'.1) (x'.2) s1003
theorem fun256 : FunOK Tryz.prog 256 Tryz.f256 (ifun Tryz.f256).body := ⟨Tryz.func256, rfl, by kernel_rfl⟩
theorem once256 : loopsOnce (ifun Tryz.f256).body = true := by kernel_rfl
theorem z108.loopsT (hI : InlOK Tryz.prog z108.C fun R => z108.C.inlK 6) : LoopsOK z108.C (fun R => z108.C.inlK 6) 256 0 (ifun Tryz.f256).body := by
  intro id b hm st p hp
  obtain rfl := loopsOnce_mem once256 hm
  unfold z108.C at hp
  simp only at hp
  try split at hp
  all_goals first
    | (simp at hp; done)
    | (exfalso; omega)
    | exact z108.l0_sound hI st p hp
theorem z108.hdec : DecOK z108.dec z108.enc := by
  intro v r h
  unfold z108.dec at h; split at h <;> cases h
  exact ⟨rfl, rfl⟩
theorem z108.sound (vs : List V) (p : Pack) (h : z108.pack vs = some p) : SoundC Tryz.prog 256 vs p := by
  unfold z108.pack at h; split at h <;> cases h
  exact loops_sound tab_ok mixed_ok rfl rfl rfl (fun g vs p h => by unfold z108.C at h; simp only at h; split at h; exact z107.sound vs p h; simp at h) fun256 z108.loopsT rfl (z108.link _ _) z108.hdec
theorem fun206 : FunOK Tryz.prog 206 Tryz.f206 (ifun Tryz.f206).body := ⟨Tryz.func206, rfl, by kernel_rfl⟩
theorem z109.hdec : DecOK z109.dec z109.enc := by
  intro v r h
  unfold z109.dec at h; split at h <;> cases h
  exact ⟨rfl, rfl⟩
theorem z109.sound (vs : List V) (p : Pack) (h : z109.pack vs = some p) : SoundC Tryz.prog 206 vs p := by
  unfold z109.pack at h; split at h <;> cases h
  exact plain_sound tab_ok mixed_ok rfl rfl rfl rfl (fun g vs p h => by unfold z109.C at h; simp only at h; split at h; exact z108.sound vs p h; exact z107.sound vs p h; exact z8.sound vs p h; simp at h) fun206 rfl (z109.link _ _ _) z109.hdec
theorem fun205 : FunOK Tryz.prog 205 Tryz.f205 (ifun Tryz.f205).body := ⟨Tryz.func205, rfl, by kernel_rfl⟩
theorem z110.hdec : DecOK z110.dec z110.enc := by
  intro v r h
  unfold z110.dec at h; split at h <;> cases h
  exact ⟨rfl, rfl⟩
theorem z110.sound (vs : List V) (p : Pack) (h : z110.pack vs = some p) : SoundC Tryz.prog 205 vs p := by
  unfold z110.pack at h; split at h <;> cases h
  exact plain_sound tab_ok mixed_ok rfl rfl rfl rfl (fun g vs p h => by unfold z110.C at h; simp only at h; split at h; exact z98.sound vs p h; exact z109.sound vs p h; simp at h) fun205 rfl (z110.link _ _ _ _) z110.hdec
theorem fun125 : FunOK Tryz.prog 125 Tryz.f125 (ifun Tryz.f125).body := ⟨Tryz.func125, rfl, by kernel_rfl⟩
theorem z111.hdec : DecOK z111.dec z111.enc := by
  intro v r h
  unfold z111.dec at h; split at h <;> cases h
  exact ⟨rfl, rfl⟩
theorem z111.sound (vs : List V) (p : Pack) (h : z111.pack vs = some p) : SoundC Tryz.prog 125 vs p := by
  unfold z111.pack at h; split at h <;> cases h
  exact plain_sound tab_ok mixed_ok rfl rfl rfl rfl (fun g vs p h => by unfold z111.C at h; simp only at h; split at h; exact z10.sound vs p h; exact z110.sound vs p h; simp at h) fun125 rfl (z111.link _ _) z111.hdec
theorem z112.l0b10_sound (hI : InlOK Tryz.prog z112.C fun R => z112.C.inlK 6) : LoopS z112.C 6 126 0 0 (loopAt 0 (ifun Tryz.f126).body) z112.l0b10sh z112.l0b10pack := by
  refine loopS fun ls p h => ?_
  unfold z112.l0b10pack at h; split at h <;> cases h
  rename_i s11001 t11002 below11003 i11004 all11005 ahead11006 behind11007 zero11008 s11009 s11010 s11011 s11012 s11013 s11014
  exact loop_two hI (sh := z112.l0b10sh) (so := z112.l0b10sh) (so' := z112.l0b10so1) (F := fun R rec done x => z112.l0b10P s11001 rec done x) (enc := fun (x' : (Int × (List UInt8) × Int × Int × Bool)) => fillSt z112.l0b10sh [.s s11001, .i t11002, .b below11003, .i x'.1, .s x'.2.1, .i x'.2.2.1, .i x'.2.2.2.1, .b x'.2.2.2.2, .li s11009, .b s11010, .i s11011, .li s11012, .b s11013, .i s11014]) (.exit 0) [3, 4, 5, 6, 7] [3, 4, 5, 6, 7] [0] (i11004, all11005, ahead11006, behind11007, zero11008) (by kernel_rfl) (by kernel_rfl) (fun x => by kernel_rfl) (fun o => by kernel_rfl) (fun o => by kernel_rfl) fun R k d x' => z112.l0b10_link R k d s11001 t11002 below11003 (x'.1) (x'.2.1) (x'.2.2.1) (x'.2.2.2.1) (x'.2.2.2.2) s11009 s11010 s11011 s11012 s11013 s11014
theorem fun126 : FunOK Tryz.prog 126 Tryz.f126 (ifun Tryz.f126).body := ⟨Tryz.func126, rfl, by kernel_rfl⟩
theorem once126 : loopsOnce (ifun Tryz.f126).body = true := by kernel_rfl
theorem z112.loopsT (hI : InlOK Tryz.prog z112.C fun R => z112.C.inlK 6) : LoopsOK z112.C (fun R => z112.C.inlK 6) 126 0 (ifun Tryz.f126).body := by
  intro id b hm st p hp
  obtain rfl := loopsOnce_mem once126 hm
  unfold z112.C at hp
  simp only at hp
  try split at hp
  all_goals first
    | (simp at hp; done)
    | (exfalso; omega)
    | exact z112.l0b10_sound hI st p hp
theorem z112.hdec : DecOK z112.dec z112.enc := by
  intro v r h
  unfold z112.dec at h; split at h <;> cases h
  exact ⟨rfl, rfl⟩
theorem z112.sound (vs : List V) (p : Pack) (h : z112.pack vs = some p) : SoundC Tryz.prog 126 vs p := by
  unfold z112.pack at h; split at h <;> cases h
  exact loops_sound tab_ok mixed_ok rfl rfl rfl (fun g vs p h => by unfold z112.C at h; simp only at h; split at h; exact z93.sound vs p h; exact z8.sound vs p h; simp at h) fun126 z112.loopsT rfl (z112.link _) z112.hdec
theorem fun127 : FunOK Tryz.prog 127 Tryz.f127 (ifun Tryz.f127).body := ⟨Tryz.func127, rfl, by kernel_rfl⟩
theorem z113.hdec : DecOK z113.dec z113.enc := by
  intro v r h
  unfold z113.dec at h; split at h <;> cases h
  exact ⟨rfl, rfl⟩
theorem z113.sound (vs : List V) (p : Pack) (h : z113.pack vs = some p) : SoundC Tryz.prog 127 vs p := by
  unfold z113.pack at h; split at h <;> cases h
  exact plain_sound tab_ok mixed_ok rfl rfl rfl rfl (fun g vs p h => by unfold z113.C at h; simp only at h; split at h; exact z97.sound vs p h; exact z109.sound vs p h; simp at h) fun127 rfl (z113.link _ _ _) z113.hdec
theorem fun207 : FunOK Tryz.prog 207 Tryz.f207 (ifun Tryz.f207).body := ⟨Tryz.func207, rfl, by kernel_rfl⟩
theorem z114.hdec : DecOK z114.dec z114.enc := by
  intro v r h
  unfold z114.dec at h; split at h <;> cases h
  exact ⟨rfl, rfl⟩
theorem z114.sound (vs : List V) (p : Pack) (h : z114.pack vs = some p) : SoundC Tryz.prog 207 vs p := by
  unfold z114.pack at h; split at h <;> cases h
  exact plain_sound tab_ok mixed_ok rfl rfl rfl rfl (fun g vs p h => by unfold z114.C at h; simp only at h; split at h; exact z8.sound vs p h; exact z17.sound vs p h; simp at h) fun207 rfl (z114.link _ _ _ _ _ _) z114.hdec
theorem fun128 : FunOK Tryz.prog 128 Tryz.f128 (ifun Tryz.f128).body := ⟨Tryz.func128, rfl, by kernel_rfl⟩
theorem z115.hdec : DecOK z115.dec z115.enc := by
  intro v r h
  unfold z115.dec at h; split at h <;> cases h
  exact ⟨rfl, rfl⟩
theorem z115.sound (vs : List V) (p : Pack) (h : z115.pack vs = some p) : SoundC Tryz.prog 128 vs p := by
  unfold z115.pack at h; split at h <;> cases h
  exact plain_sound tab_ok mixed_ok rfl rfl rfl rfl (fun g vs p h => by unfold z115.C at h; simp only at h; split at h; exact z114.sound vs p h; exact z105.sound vs p h; simp at h) fun128 rfl (z115.link _ _ _ _ _ _) z115.hdec
theorem fun129 : FunOK Tryz.prog 129 Tryz.f129 (ifun Tryz.f129).body := ⟨Tryz.func129, rfl, by kernel_rfl⟩
theorem z116.hdec : DecOK z116.dec z116.enc := by
  intro v r h
  unfold z116.dec at h; split at h <;> cases h
  exact ⟨rfl, rfl⟩
theorem z116.sound (vs : List V) (p : Pack) (h : z116.pack vs = some p) : SoundC Tryz.prog 129 vs p := by
  unfold z116.pack at h; split at h <;> cases h
  exact plain_sound tab_ok mixed_ok rfl rfl rfl rfl (fun g vs p h => by unfold z116.C at h; simp only at h; split at h; exact z114.sound vs p h; exact z8.sound vs p h; exact z17.sound vs p h; exact z110.sound vs p h; simp at h) fun129 rfl (z116.link _ _ _ _ _ _) z116.hdec
theorem fun39 : FunOK Tryz.prog 39 Tryz.f39 (ifun Tryz.f39).body := ⟨Tryz.func39, rfl, by kernel_rfl⟩
theorem z117.hdec : DecOK z117.dec z117.enc := by
  intro v r h
  unfold z117.dec at h; split at h <;> cases h
  exact ⟨rfl, rfl⟩
theorem z117.sound (vs : List V) (p : Pack) (h : z117.pack vs = some p) : SoundC Tryz.prog 39 vs p := by
  unfold z117.pack at h; split at h <;> cases h
  exact plain_sound tab_ok mixed_ok rfl rfl rfl rfl (fun g vs p h => by unfold z117.C at h; simp only at h; split at h; exact z111.sound vs p h; exact z112.sound vs p h; exact z113.sound vs p h; exact z115.sound vs p h; exact z116.sound vs p h; simp at h) fun39 rfl (z117.link _) z117.hdec
theorem fun80 : FunOK Tryz.prog 80 Tryz.f80 (ifun Tryz.f80).body := ⟨Tryz.func80, rfl, by kernel_rfl⟩
theorem z118.hdec : DecOK z118.dec z118.enc := by
  intro v r h
  unfold z118.dec at h; split at h <;> cases h
  exact ⟨rfl, rfl⟩
theorem z118.sound (vs : List V) (p : Pack) (h : z118.pack vs = some p) : SoundC Tryz.prog 80 vs p := by
  unfold z118.pack at h; split at h <;> cases h
  exact plain_sound tab_ok mixed_ok rfl rfl rfl rfl (fun g vs p h => by unfold z118.C at h; simp only at h; split at h; exact z12.sound vs p h; simp at h) fun80 rfl (z118.link _ _ _) z118.hdec
theorem z119.l0_sound (hI : InlOK Tryz.prog z119.C fun R => z119.C.inlK 6) : LoopS z119.C 6 135 0 0 (loopAt 0 (ifun Tryz.f135).body) z119.l0sh z119.l0pack := by
  refine loopS fun ls p h => ?_
  unfold z119.l0pack at h; split at h <;> cases h
  rename_i t1001 y1002 m1003 s1004 s1005 s1006 s1007 s1008 s1009
  exact loop_one hI (sh := z119.l0sh) (so := z119.l0sh) (F := fun R rec done x => z119.l0P  rec done x) (enc := fun (x' : (Int × Int)) => fillSt z119.l0sh [.b t1001, .i x'.1, .i x'.2, .i s1004, .i s1005, .i s1006, .i s1007, .i s1008, .i s1009]) [1, 2] [1, 2] (y1002, m1003) (by kernel_rfl) (by kernel_rfl) (fun x => by kernel_rfl) (fun o => by kernel_rfl) fun R k d x' => z119.l0_link R k d t1001 (x'.1) (x'.2) s1004 s1005 s1006 s1007 s1008 s1009
theorem z119.l2_sound (hI : InlOK Tryz.prog z119.C fun R => z119.C.inlK 6) : LoopS z119.C 6 135 2 0 (loopAt 2 (ifun Tryz.f135).body) z119.l2sh z119.l2pack := by
  refine loopS fun ls p h => ?_
  unfold z119.l2pack at h; split at h <;> cases h
  rename_i t2001 y2002 m2003 s2004 s2005 s2006 s2007 s2008 s2009
  exact loop_one hI (sh := z119.l2sh) (so := z119.l2sh) (F := fun R rec done x => z119.l2P  rec done x) (enc := fun (x' : (Int × Int)) => fillSt z119.l2sh [.b t2001, .i x'.1, .i x'.2, .i s2004, .i s2005, .i s2006, .i s2007, .i s2008, .i s2009]) [1, 2] [1, 2] (y2002, m2003) (by kernel_rfl) (by kernel_rfl) (fun x => by kernel_rfl) (fun o => by kernel_rfl) fun R k d x' => z119.l2_link R k d t2001 (x'.1) (x'.2) s2004 s2005 s2006 s2007 s2008 s2009
theorem fun135 : FunOK Tryz.prog 135 Tryz.f135 (ifun Tryz.f135).body := ⟨Tryz.func135, rfl, by kernel_rfl⟩
theorem once135 : loopsOnce (ifun Tryz.f135).body = true := by kernel_rfl
theorem z119.loopsT (hI : InlOK Tryz.prog z119.C fun R => z119.C.inlK 6) : LoopsOK z119.C (fun R => z119.C.inlK 6) 135 0 (ifun Tryz.f135).body := by
  intro id b hm st p hp
  obtain rfl := loopsOnce_mem once135 hm
  unfold z119.C at hp
  simp only at hp
  try split at hp
  all_goals first
    | (simp at hp; done)
    | (exfalso; omega)
    | exact z119.l0_sound hI st p hp
    | exact z119.l2_sound hI st p hp
theorem z119.hdec : DecOK z119.dec z119.enc := by
  intro v r h
  unfold z119.dec at h; split at h <;> cases h
  exact ⟨rfl, rfl⟩
theorem z119.sound (vs : List V) (p : Pack) (h : z119.pack vs = some p) : SoundC Tryz.prog 135 vs p := by
  unfold z119.pack at h; split at h <;> cases h
  exact loops_sound tab_ok mixed_ok rfl rfl rfl (fun g vs p h => by unfold z119.C at h; simp only at h; split at h; exact z12.sound vs p h; simp at h) fun135 z119.loopsT rfl (z119.link _ _ _ _) z119.hdec
theorem fun45 : FunOK Tryz.prog 45 Tryz.f45 (ifun Tryz.f45).body := ⟨Tryz.func45, rfl, by kernel_rfl⟩
theorem z120.hdec : DecOK z120.dec z120.enc := by
  intro v r h
  unfold z120.dec at h; split at h <;> cases h
  exact ⟨rfl, rfl⟩
theorem z120.sound (vs : List V) (p : Pack) (h : z120.pack vs = some p) : SoundC Tryz.prog 45 vs p := by
  unfold z120.pack at h; split at h <;> cases h
  exact plain_sound tab_ok mixed_ok rfl rfl rfl rfl (fun g vs p h => by unfold z120.C at h; simp only at h; split at h; exact z106.sound vs p h; exact z117.sound vs p h; exact z118.sound vs p h; exact z119.sound vs p h; simp at h) fun45 rfl (z120.link _ _ _ _ _ _ _ _ _ _) z120.hdec
theorem z121.l0_sound (hI : InlOK Tryz.prog z121.C fun R => z121.C.inlK 6) : LoopS z121.C 6 139 0 0 (loopAt 0 (ifun Tryz.f139).body) z121.l0sh z121.l0pack := by
  refine loopS fun ls p h => ?_
  unfold z121.l0pack at h; split at h <;> cases h
  rename_i step1001 n1002 t1003 k1004 s1005 s1006 s1007 s1008 s1009
  exact loop_two hI (sh := z121.l0sh) (so := z121.l0sh) (so' := z121.l0so1) (F := fun R rec done x => z121.l0P step1001 n1002 s1005 s1006 s1007 rec done x) (enc := fun (x' : (Int × (List (List V)))) => fillSt z121.l0sh [.i step1001, .i n1002, .i t1003, .i x'.1, .i s1005, .i s1006, .i s1007, .lr s1008, .lr x'.2]) (.exit 0) [3, 8] [3, 8] [0, 1, 6] (k1004, s1009) (by kernel_rfl) (by kernel_rfl) (fun x => by kernel_rfl) (fun o => by kernel_rfl) (fun o => by kernel_rfl) fun R k d x' => z121.l0_link R k d step1001 n1002 t1003 (x'.1) s1005 s1006 s1007 s1008 (x'.2)
theorem fun139 : FunOK Tryz.prog 139 Tryz.f139 (ifun Tryz.f139).body := ⟨Tryz.func139, rfl, by kernel_rfl⟩
theorem once139 : loopsOnce (ifun Tryz.f139).body = true := by kernel_rfl
theorem z121.loopsT (hI : InlOK Tryz.prog z121.C fun R => z121.C.inlK 6) : LoopsOK z121.C (fun R => z121.C.inlK 6) 139 0 (ifun Tryz.f139).body := by
  intro id b hm st p hp
  obtain rfl := loopsOnce_mem once139 hm
  unfold z121.C at hp
  simp only at hp
  try split at hp
  all_goals first
    | (simp at hp; done)
    | (exfalso; omega)
    | exact z121.l0_sound hI st p hp
theorem z121.hdec : DecOK z121.dec z121.enc := by
  intro v r h
  unfold z121.dec at h; split at h <;> cases h
  exact ⟨rfl, rfl⟩
theorem z121.sound (vs : List V) (p : Pack) (h : z121.pack vs = some p) : SoundC Tryz.prog 139 vs p := by
  unfold z121.pack at h; split at h <;> cases h
  exact loops_sound tab_ok mixed_ok rfl rfl rfl (fun g vs p h => by unfold z121.C at h; simp only at h; split at h; exact z118.sound vs p h; exact z119.sound vs p h; simp at h) fun139 z121.loopsT rfl (z121.link _ _ _ _ _) z121.hdec
theorem fun50 : FunOK Tryz.prog 50 Tryz.f50 (ifun Tryz.f50).body := ⟨Tryz.func50, rfl, by kernel_rfl⟩
theorem z122.hdec : DecOK z122.dec z122.enc := by
  intro v r h
  unfold z122.dec at h; split at h <;> cases h
  exact ⟨rfl, rfl⟩
theorem z122.sound (vs : List V) (p : Pack) (h : z122.pack vs = some p) : SoundC Tryz.prog 50 vs p := by
  unfold z122.pack at h; split at h <;> cases h
  exact plain_sound tab_ok mixed_ok rfl rfl rfl rfl (fun g vs p h => by unfold z122.C at h; simp only at h; split at h; exact z120.sound vs p h; exact z121.sound vs p h; simp at h) fun50 rfl (z122.link _ _ _ _ _ _ _ _ _ _) z122.hdec
theorem z123.l0_sound (hI : InlOK Tryz.prog z123.C fun R => z123.C.inlK 6) : LoopS z123.C 6 51 0 0 (loopAt 0 (ifun Tryz.f51).body) z123.l0sh z123.l0pack := by
  refine loopS fun ls p h => ?_
  unfold z123.l0pack at h; split at h <;> cases h
  rename_i s1001 s1002 t1003 t1004 t1005
  exact loop_two hI (sh := z123.l0sh) (so := z123.l0sh) (so' := z123.l0so1) (F := fun R rec done x => z123.l0P s1001 s1002 t1004 rec done x) (enc := fun (x' : Int) => fillSt z123.l0sh [.lr s1001, .lr s1002, .b t1003, .i t1004, .i x']) (.exit 0) [4] [4] [0] t1005 (by kernel_rfl) (by kernel_rfl) (fun x => by kernel_rfl) (fun o => by kernel_rfl) (fun o => by kernel_rfl) fun R k d x' => z123.l0_link R k d s1001 s1002 t1003 t1004 (x')
theorem fun51 : FunOK Tryz.prog 51 Tryz.f51 (ifun Tryz.f51).body := ⟨Tryz.func51, rfl, by kernel_rfl⟩
theorem once51 : loopsOnce (ifun Tryz.f51).body = true := by kernel_rfl
theorem z123.loopsT (hI : InlOK Tryz.prog z123.C fun R => z123.C.inlK 6) : LoopsOK z123.C (fun R => z123.C.inlK 6) 51 0 (ifun Tryz.f51).body := by
  intro id b hm st p hp
  obtain rfl := loopsOnce_mem once51 hm
  unfold z123.C at hp
  simp only at hp
  try split at hp
  all_goals first
    | (simp at hp; done)
    | (exfalso; omega)
    | exact z123.l0_sound hI st p hp
theorem z123.hdec : DecOK z123.dec z123.enc := by
  intro v r h
  unfold z123.dec at h; split at h <;> cases h
  exact ⟨rfl, rfl⟩
theorem z123.sound (vs : List V) (p : Pack) (h : z123.pack vs = some p) : SoundC Tryz.prog 51 vs p := by
  unfold z123.pack at h; split at h <;> cases h
  exact loops_sound tab_ok mixed_ok rfl rfl rfl (fun g vs p h => by simp [z123.C] at h) fun51 z123.loopsT rfl (z123.link _ _) z123.hdec
theorem z124.l0_sound (hI : InlOK Tryz.prog z124.C fun R => z124.C.inlK 6) : LoopS z124.C 6 145 0 0 (loopAt 0 (ifun Tryz.f145).body) z124.l0sh z124.l0pack := by
  refine loopS fun ls p h => ?_
  unfold z124.l0pack at h; split at h <;> cases h
  rename_i t1001 zero1002 t1003 t1004 t1005
  exact loop_two hI (sh := z124.l0sh) (so := z124.l0sh) (so' := z124.l0so1) (F := fun R rec done x => z124.l0P zero1002 t1003 t1004 rec done x) (enc := fun (x' : Int) => fillSt z124.l0sh [.i t1001, .i zero1002, .li t1003, .i t1004, .i x']) (.exit 0) [4] [4] [0] t1005 (by kernel_rfl) (by kernel_rfl) (fun x => by kernel_rfl) (fun o => by kernel_rfl) (fun o => by kernel_rfl) fun R k d x' => z124.l0_link R k d t1001 zero1002 t1003 t1004 (x')
theorem fun145 : FunOK Tryz.prog 145 Tryz.f145 (ifun Tryz.f145).body := ⟨Tryz.func145, rfl, by kernel_rfl⟩
theorem once145 : loopsOnce (ifun Tryz.f145).body = true := by kernel_rfl
theorem z124.loopsT (hI : InlOK Tryz.prog z124.C fun R => z124.C.inlK 6) : LoopsOK z124.C (fun R => z124.C.inlK 6) 145 0 (ifun Tryz.f145).body := by
  intro id b hm st p hp
  obtain rfl := loopsOnce_mem once145 hm
  unfold z124.C at hp
  simp only at hp
  try split at hp
  all_goals first
    | (simp at hp; done)
    | (exfalso; omega)
    | exact z124.l0_sound hI st p hp
theorem z124.hdec : DecOK z124.dec z124.enc := by
  intro v r h
  unfold z124.dec at h; split at h <;> cases h
  exact ⟨rfl, rfl⟩
theorem z124.sound (vs : List V) (p : Pack) (h : z124.pack vs = some p) : SoundC Tryz.prog 145 vs p := by
  unfold z124.pack at h; split at h <;> cases h
  exact loops_sound tab_ok mixed_ok rfl rfl rfl (fun g vs p h => by simp [z124.C] at h) fun145 z124.loopsT rfl (z124.link _) z124.hdec
theorem fun57 : FunOK Tryz.prog 57 Tryz.f57 (ifun Tryz.f57).body := ⟨Tryz.func57, rfl, by kernel_rfl⟩
theorem z125.hdec : DecOK z125.dec z125.enc := by
  intro v r h
  unfold z125.dec at h; split at h <;> cases h
  exact ⟨rfl, rfl⟩
theorem z125.sound (vs : List V) (p : Pack) (h : z125.pack vs = some p) : SoundC Tryz.prog 57 vs p := by
  unfold z125.pack at h; split at h <;> cases h
  exact plain_sound tab_ok mixed_ok rfl rfl rfl rfl (fun g vs p h => by unfold z125.C at h; simp only at h; split at h; exact z27.sound vs p h; exact z124.sound vs p h; simp at h) fun57 rfl (z125.link _ _ _ _ _ _) z125.hdec
theorem z126.l0_sound (hI : InlOK Tryz.prog z126.C fun R => z126.C.inlK 1) : LoopS z126.C 1 143 0 2 (loopAt 0 (ifun Tryz.f143).body) z126.l0sh z126.l0pack := by
  refine loopS fun ls p h => ?_
  unfold z126.l0pack at h; split at h <;> cases h
  rename_i s1001 t1002 t1003 t1004 s1005 s1006 s1007 s1008 s1009 s1010 s1011 s1012 s1013 s1014 s1015 s1016 s1017
  exact loop_two hI (sh := z126.l0sh) (so := z126.l0sh) (so' := z126.l0so1) (F := fun R rec done x => z126.l0P s1001 t1003 s1015 s1016 s1017 rec done x) (enc := fun (x' : Int) => fillSt z126.l0sh [.lr s1001, .i t1002, .i t1003, .i x', .s s1005, .s s1006, .i s1007, .i s1008, .i s1009, .i s1010, .i s1011, .i s1012, .i s1013, .i s1014, .i s1015, .i s1016, .i s1017]) (.exit 0) [3] [3] [0] t1004 (by kernel_rfl) (by kernel_rfl) (fun x => by kernel_rfl) (fun o => by kernel_rfl) (fun o => by kernel_rfl) fun R k d x' => z126.l0_link R k d s1001 t1002 t1003 (x') s1005 s1006 s1007 s1008 s1009 s1010 s1011 s1012 s1013 s1014 s1015 s1016 s1017
theorem fun55 : FunOK Tryz.prog 55 Tryz.f55 (ifun Tryz.f55).body := ⟨Tryz.func55, rfl, by kernel_rfl⟩
theorem fun143 : FunOK Tryz.prog 143 Tryz.f143 (ifun Tryz.f143).body := ⟨Tryz.func143, rfl, by kernel_rfl⟩
theorem once143 : loopsOnce (ifun Tryz.f143).body = true := by kernel_rfl
theorem fun144 : FunOK Tryz.prog 144 Tryz.f144 (ifun Tryz.f144).body := ⟨Tryz.func144, rfl, by kernel_rfl⟩
theorem z126.loops143 (hI : InlOK Tryz.prog z126.C fun R => z126.C.inlK 1) (base : Nat) : LoopsOK z126.C (fun R => z126.C.inlK 1) 143 base (ifun Tryz.f143).body := by
  intro id b hm st p hp
  obtain rfl := loopsOnce_mem once143 hm
  unfold z126.C at hp
  simp only at hp
  try split at hp
  all_goals first
    | (simp at hp; done)
    | (exfalso; omega)
    | exact z126.l0_sound hI st p hp
theorem z126.loops144 (hI : InlOK Tryz.prog z126.C fun R => z126.C.inlK 0) (base : Nat) : LoopsOK z126.C (fun R => z126.C.inlK 0) 144 base (ifun Tryz.f144).body := by
  intro id b hm st p hp
  exfalso
  unfold z126.C at hp
  simp only at hp
  try split at hp
  all_goals first | (simp at hp; done) | omega
theorem z126.inlF : InlF Tryz.prog z126.C where
  prim g h hp := by simp [z126.C] at hp
  fn g fn h := by
    unfold z126.C at h; simp only at h; split at h
    · simp only [Option.some.injEq] at h; subst h; exact ⟨_, _, fun143, rfl⟩
    · simp only [Option.some.injEq] at h; subst h; exact ⟨_, _, fun144, rfl⟩
    · simp at h
  loops g fn h := by
    unfold z126.C at h; simp only at h; split at h
    · simp only [Option.some.injEq] at h; subst h; exact fun hI base => z126.loops143 hI base
    · simp only [Option.some.injEq] at h; subst h; exact fun hI base => z126.loops144 hI base
    · simp at h
theorem z126.hdec : DecOK z126.dec z126.enc := by
  intro v r h
  unfold z126.dec at h; split at h <;> cases h
  exact ⟨rfl, rfl⟩
theorem z126.noTop : LoopsOK z126.C (fun R => z126.C.inlK 6) 55 0 (ifun Tryz.f55).body := by
  intro id b hm st p hp
  exfalso
  unfold z126.C at hp
  simp only at hp
  try split at hp
  all_goals first | (simp at hp; done) | omega
theorem z126.sound (vs : List V) (p : Pack) (h : z126.pack vs = some p) : SoundC Tryz.prog 55 vs p := by
  unfold z126.pack at h; split at h <;> cases h
  exact full_sound tab_ok mixed_ok rfl (fun g vs p h => by unfold z126.C at h; simp only at h; split at h; exact z91.sound vs p h; exact z87.sound vs p h; exact z125.sound vs p h; simp at h) z126.inlF fun55 (fun _ => z126.noTop) rfl (z126.link _ _ _ _ _ _ _ _ _ _ _ _ _) z126.hdec
theorem fun53 : FunOK Tryz.prog 53 Tryz.f53 (ifun Tryz.f53).body := ⟨Tryz.func53, rfl, by kernel_rfl⟩
theorem z127.hdec : DecOK z127.dec z127.enc := by
  intro v r h
  unfold z127.dec at h; split at h <;> cases h
  exact ⟨rfl, rfl⟩
theorem z127.sound (vs : List V) (p : Pack) (h : z127.pack vs = some p) : SoundC Tryz.prog 53 vs p := by
  unfold z127.pack at h; split at h <;> cases h
  exact plain_sound tab_ok mixed_ok rfl rfl rfl rfl (fun g vs p h => by unfold z127.C at h; simp only at h; split at h; exact z91.sound vs p h; exact z126.sound vs p h; exact z92.sound vs p h; exact z123.sound vs p h; simp at h) fun53 rfl z127.link z127.hdec
theorem fun211 : FunOK Tryz.prog 211 Tryz.f211 (ifun Tryz.f211).body := ⟨Tryz.func211, rfl, by kernel_rfl⟩
theorem z128.hdec : DecOK z128.dec z128.enc := by
  intro v r h
  unfold z128.dec at h; split at h <;> cases h
  exact ⟨rfl, rfl⟩
theorem z128.sound (vs : List V) (p : Pack) (h : z128.pack vs = some p) : SoundC Tryz.prog 211 vs p := by
  unfold z128.pack at h; split at h <;> cases h
  exact plain_sound tab_ok mixed_ok rfl rfl rfl rfl (fun g vs p h => by simp [z128.C] at h) fun211 rfl (z128.link _) z128.hdec
theorem z129.l0_sound (hI : InlOK Tryz.prog z129.C fun R => z129.C.inlK 6) : LoopS z129.C 6 140 0 0 (loopAt 0 (ifun Tryz.f140).body) z129.l0sh z129.l0pack := by
  refine loopS fun ls p h => ?_
  unfold z129.l0pack at h; split at h <;> cases h
  rename_i t1001 t1002 n1003 m1004 s1005 s1006 s1007
  exact loop_one hI (sh := z129.l0sh) (so := z129.l0sh) (F := fun R rec done x => z129.l0P s1005 s1006 rec done x) (enc := fun (x' : (Int × Int)) => fillSt z129.l0sh [.i t1001, .i t1002, .i x'.1, .i x'.2, .i s1005, .i s1006, .i s1007]) [2, 3] [2, 3] (n1003, m1004) (by kernel_rfl) (by kernel_rfl) (fun x => by kernel_rfl) (fun o => by kernel_rfl) fun R k d x' => z129.l0_link R k d t1001 t1002 (x'.1) (x'.2) s1005 s1006 s1007
theorem fun140 : FunOK Tryz.prog 140 Tryz.f140 (ifun Tryz.f140).body := ⟨Tryz.func140, rfl, by kernel_rfl⟩
theorem once140 : loopsOnce (ifun Tryz.f140).body = true := by kernel_rfl
theorem z129.loopsT (hI : InlOK Tryz.prog z129.C fun R => z129.C.inlK 6) : LoopsOK z129.C (fun R => z129.C.inlK 6) 140 0 (ifun Tryz.f140).body := by
  intro id b hm st p hp
  obtain rfl := loopsOnce_mem once140 hm
  unfold z129.C at hp
  simp only at hp
  try split at hp
  all_goals first
    | (simp at hp; done)
    | (exfalso; omega)
    | exact z129.l0_sound hI st p hp
theorem z129.hdec : DecOK z129.dec z129.enc := by
  intro v r h
  unfold z129.dec at h; split at h <;> cases h
  exact ⟨rfl, rfl⟩
theorem z129.sound (vs : List V) (p : Pack) (h : z129.pack vs = some p) : SoundC Tryz.prog 140 vs p := by
  unfold z129.pack at h; split at h <;> cases h
  exact loops_sound tab_ok mixed_ok rfl rfl rfl (fun g vs p h => by unfold z129.C at h; simp only at h; split at h; exact z87.sound vs p h; exact z128.sound vs p h; exact z86.sound vs p h; simp at h) fun140 z129.loopsT rfl (z129.link _ _ _) z129.hdec
theorem z130.l0_sound (hI : InlOK Tryz.prog z130.C fun R => z130.C.inlK 6) : LoopS z130.C 6 141 0 0 (loopAt 0 (ifun Tryz.f141).body) z130.l0sh z130.l0pack := by
  refine loopS fun ls p h => ?_
  unfold z130.l0pack at h; split at h <;> cases h
  rename_i n1001 t1002 s1003 s1004 s1005 s1006 s1007 s1008
  exact loop_one hI (sh := z130.l0sh) (so := z130.l0sh) (F := fun R rec done x => z130.l0P n1001 rec done x) (enc := fun (x' : Int) => fillSt z130.l0sh [.i n1001, .i t1002, .i s1003, .i s1004, .i s1005, .i x', .i s1007, .i s1008]) [5] [5] s1006 (by kernel_rfl) (by kernel_rfl) (fun x => by kernel_rfl) (fun o => by kernel_rfl) fun R k d x' => z130.l0_link R k d n1001 t1002 s1003 s1004 s1005 (x') s1007 s1008
theorem z130.l2b6_sound (hI : InlOK Tryz.prog z130.C fun R => z130.C.inlK 6) : LoopS z130.C 6 141 2 0 (loopAt 2 (ifun Tryz.f141).body) z130.l2b6sh z130.l2b6pack := by
  refine loopS fun ls p h => ?_
  unfold z130.l2b6pack at h; split at h <;> cases h
  rename_i n8001 t8002 s8003 s8004 s8005 s8006 s8007 s8008
  exact loop_one hI (sh := z130.l2b6sh) (so := z130.l2b6sh) (F := fun R rec done x => z130.l2b6P n8001 rec done x) (enc := fun (x' : Int) => fillSt z130.l2b6sh [.i n8001, .i t8002, .i s8003, .i s8004, .i s8005, .i x', .i s8007, .i s8008]) [5] [5] s8006 (by kernel_rfl) (by kernel_rfl) (fun x => by kernel_rfl) (fun o => by kernel_rfl) fun R k d x' => z130.l2b6_link R k d n8001 t8002 s8003 s8004 s8005 (x') s8007 s8008
theorem z130.l4_sound (hI : InlOK Tryz.prog z130.C fun R => z130.C.inlK 6) : LoopS z130.C 6 141 4 0 (loopAt 4 (ifun Tryz.f141).body) z130.l4sh z130.l4pack := by
  refine loopS fun ls p h => ?_
  unfold z130.l4pack at h; split at h <;> cases h
  rename_i n9001 t9002 s9003 s9004 s9005 s9006 s9007 s9008
  exact loop_one hI (sh := z130.l4sh) (so := z130.l4sh) (F := fun R rec done x => z130.l4P s9006 rec done x) (enc := fun (x' : (Int × Int)) => fillSt z130.l4sh [.i x'.1, .i t9002, .i s9003, .i s9004, .i s9005, .i s9006, .i x'.2, .i s9008]) [0, 6] [0, 6] (n9001, s9007) (by kernel_rfl) (by kernel_rfl) (fun x => by kernel_rfl) (fun o => by kernel_rfl) fun R k d x' => z130.l4_link R k d (x'.1) t9002 s9003 s9004 s9005 s9006 (x'.2) s9008
theorem fun141 : FunOK Tryz.prog 141 Tryz.f141 (ifun Tryz.f141).body := ⟨Tryz.func141, rfl, by kernel_rfl⟩
theorem once141 : loopsOnce (ifun Tryz.f141).body = true := by kernel_rfl
theorem z130.loopsT (hI : InlOK Tryz.prog z130.C fun R => z130.C.inlK 6) : LoopsOK z130.C (fun R => z130.C.inlK 6) 141 0 (ifun Tryz.f141).body := by
  intro id b hm st p hp
  obtain rfl := loopsOnce_mem once141 hm
  unfold z130.C at hp
  simp only at hp
  try split at hp
  all_goals first
    | (simp at hp; done)
    | (exfalso; omega)
    | exact z130.l0_sound hI st p hp
    | exact z130.l2b6_sound hI st p hp
    | exact z130.l4_sound hI st p hp
theorem z130.hdec : DecOK z130.dec z130.enc := by
  intro v r h
  unfold z130.dec at h; split at h <;> cases h
  exact ⟨rfl, rfl⟩
theorem z130.sound (vs : List V) (p : Pack) (h : z130.pack vs = some p) : SoundC Tryz.prog 141 vs p := by
  unfold z130.pack at h; split at h <;> cases h
  exact loops_sound tab_ok mixed_ok rfl rfl rfl (fun g vs p h => by unfold z130.C at h; simp only at h; split at h; exact z128.sound vs p h; exact z86.sound vs p h; simp at h) fun141 z130.loopsT rfl (z130.link _) z130.hdec
theorem fun54 : FunOK Tryz.prog 54 Tryz.f54 (ifun Tryz.f54).body := ⟨Tryz.func54, rfl, by kernel_rfl⟩
theorem z131.hdec : DecOK z131.dec z131.enc := by
  intro v r h
  unfold z131.dec at h; split at h <;> cases h
  exact ⟨rfl, rfl⟩
theorem z131.sound (vs : List V) (p : Pack) (h : z131.pack vs = some p) : SoundC Tryz.prog 54 vs p := by
  unfold z131.pack at h; split at h <;> cases h
  exact plain_sound tab_ok mixed_ok rfl rfl rfl rfl (fun g vs p h => by unfold z131.C at h; simp only at h; split at h; exact z129.sound vs p h; exact z130.sound vs p h; simp at h) fun54 rfl (z131.link _ _ _ _) z131.hdec
theorem z132.l0_sound (hI : InlOK Tryz.prog z132.C fun R => z132.C.inlK 6) : LoopS z132.C 6 81 0 0 (loopAt 0 (ifun Tryz.f81).body) z132.l0sh z132.l0pack := by
  refine loopS fun ls p h => ?_
  unfold z132.l0pack at h; split at h <;> cases h
  rename_i t1001 x1002 y1003 i1004
  exact loop_two hI (sh := z132.l0sh) (so := z132.l0sh) (so' := z132.l0so1) (F := fun R rec done x => z132.l0P x1002 y1003 rec done x) (enc := fun (x' : Int) => fillSt z132.l0sh [.i t1001, .li x1002, .li y1003, .i x']) (.exit 0) [3] [3] [0] i1004 (by kernel_rfl) (by kernel_rfl) (fun x => by kernel_rfl) (fun o => by kernel_rfl) (fun o => by kernel_rfl) fun R k d x' => z132.l0_link R k d t1001 x1002 y1003 (x')
theorem fun81 : FunOK Tryz.prog 81 Tryz.f81 (ifun Tryz.f81).body := ⟨Tryz.func81, rfl, by kernel_rfl⟩
theorem once81 : loopsOnce (ifun Tryz.f81).body = true := by kernel_rfl
theorem z132.loopsT (hI : InlOK Tryz.prog z132.C fun R => z132.C.inlK 6) : LoopsOK z132.C (fun R => z132.C.inlK 6) 81 0 (ifun Tryz.f81).body := by
  intro id b hm st p hp
  obtain rfl := loopsOnce_mem once81 hm
  unfold z132.C at hp
  simp only at hp
  try split at hp
  all_goals first
    | (simp at hp; done)
    | (exfalso; omega)
    | exact z132.l0_sound hI st p hp
theorem z132.hdec : DecOK z132.dec z132.enc := by
  intro v r h
  unfold z132.dec at h; split at h <;> cases h
  exact ⟨rfl, rfl⟩
theorem z132.sound (vs : List V) (p : Pack) (h : z132.pack vs = some p) : SoundC Tryz.prog 81 vs p := by
  unfold z132.pack at h; split at h <;> cases h
  exact loops_sound tab_ok mixed_ok rfl rfl rfl (fun g vs p h => by simp [z132.C] at h) fun81 z132.loopsT rfl (z132.link _ _ _ _ _ _) z132.hdec
theorem z133.l0_sound (hI : InlOK Tryz.prog z133.C fun R => z133.C.inlK 6) : LoopS z133.C 6 56 0 0 (loopAt 0 (ifun Tryz.f56).body) z133.l0sh z133.l0pack := by
  refine loopS fun ls p h => ?_
  unfold z133.l0pack at h; split at h <;> cases h
  rename_i t1001 t1002 l1003 n1004 i1005 s1006 s1007 s1008
  exact loop_one hI (sh := z133.l0sh) (so := z133.l0sh) (F := fun R rec done x => z133.l0P l1003 s1006 s1007 s1008 rec done x) (enc := fun (x' : (Int × Int)) => fillSt z133.l0sh [.i t1001, .i t1002, .lr l1003, .i x'.1, .i x'.2, .i s1006, .i s1007, .i s1008]) [3, 4] [3, 4] (n1004, i1005) (by kernel_rfl) (by kernel_rfl) (fun x => by kernel_rfl) (fun o => by kernel_rfl) fun R k d x' => z133.l0_link R k d t1001 t1002 l1003 (x'.1) (x'.2) s1006 s1007 s1008
theorem fun56 : FunOK Tryz.prog 56 Tryz.f56 (ifun Tryz.f56).body := ⟨Tryz.func56, rfl, by kernel_rfl⟩
theorem once56 : loopsOnce (ifun Tryz.f56).body = true := by kernel_rfl
theorem z133.loopsT (hI : InlOK Tryz.prog z133.C fun R => z133.C.inlK 6) : LoopsOK z133.C (fun R => z133.C.inlK 6) 56 0 (ifun Tryz.f56).body := by
  intro id b hm st p hp
  obtain rfl := loopsOnce_mem once56 hm
  unfold z133.C at hp
  simp only at hp
  try split at hp
  all_goals first
    | (simp at hp; done)
    | (exfalso; omega)
    | exact z133.l0_sound hI st p hp
theorem z133.hdec : DecOK z133.dec z133.enc := by
  intro v r h
  unfold z133.dec at h; split at h <;> cases h
  exact ⟨rfl, rfl⟩
theorem z133.sound (vs : List V) (p : Pack) (h : z133.pack vs = some p) : SoundC Tryz.prog 56 vs p := by
  unfold z133.pack at h; split at h <;> cases h
  exact loops_sound tab_ok mixed_ok rfl rfl rfl (fun g vs p h => by unfold z133.C at h; simp only at h; split at h; exact z122.sound vs p h; exact z118.sound vs p h; exact z132.sound vs p h; simp at h) fun56 z133.loopsT rfl (z133.link _ _ _ _ _ _ _ _ _ _ _ _ _) z133.hdec
theorem z134.l0b3_sound (hI : InlOK Tryz.prog z134.C fun R => z134.C.inlK 6) : LoopS z134.C 6 11 0 0 (loopAt 0 (ifun Tryz.f11).body) z134.l0b3sh z134.l0b3pack := by
  refine loopS fun ls p h => ?_
  unfold z134.l0b3pack at h; split at h <;> cases h
  rename_i t4001 t4002 t4003 t4004 s4005 s4006 s4007 s4008 s4009 s4010 s4011 s4012 s4013 s4014 s4015 s4016 s4017 s4018 s4019 s4020 s4021 s4022 s4023 s4024
  exact loop_two hI (sh := z134.l0b3sh) (so := z134.l0b3sh) (so' := z134.l0b3so1) (F := fun R rec done x => z134.l0b3P t4002 t4003 s4005 s4006 s4007 s4008 s4009 s4010 s4011 s4012 s4013 s4014 s4015 s4016 s4017 s4018 s4019 s4020 s4021 s4022 s4023 s4024 rec done x) (enc := fun (x' : Int) => fillSt z134.l0b3sh [.b t4001, .lr t4002, .i t4003, .i x', .s s4005, .s s4006, .i s4007, .i s4008, .i s4009, .i s4010, .i s4011, .i s4012, .i s4013, .i s4014, .s s4015, .s s4016, .i s4017, .i s4018, .i s4019, .i s4020, .i s4021, .i s4022, .i s4023, .i s4024]) (.exit 0) [3] [3] [0] t4004 (by kernel_rfl) (by kernel_rfl) (fun x => by kernel_rfl) (fun o => by kernel_rfl) (fun o => by kernel_rfl) fun R k d x' => z134.l0b3_link R k d t4001 t4002 t4003 (x') s4005 s4006 s4007 s4008 s4009 s4010 s4011 s4012 s4013 s4014 s4015 s4016 s4017 s4018 s4019 s4020 s4021 s4022 s4023 s4024
theorem fun11 : FunOK Tryz.prog 11 Tryz.f11 (ifun Tryz.f11).body := ⟨Tryz.func11, rfl, by kernel_rfl⟩
theorem once11 : loopsOnce (ifun Tryz.f11).body = true := by kernel_rfl
theorem z134.loopsT (hI : InlOK Tryz.prog z134.C fun R => z134.C.inlK 6) : LoopsOK z134.C (fun R => z134.C.inlK 6) 11 0 (ifun Tryz.f11).body := by
  intro id b hm st p hp
  obtain rfl := loopsOnce_mem once11 hm
  unfold z134.C at hp
  simp only at hp
  try split at hp
  all_goals first
    | (simp at hp; done)
    | (exfalso; omega)
    | exact z134.l0b3_sound hI st p hp
theorem z134.hdec : DecOK z134.dec z134.enc := by
  intro v r h
  unfold z134.dec at h; split at h <;> cases h
  exact ⟨rfl, rfl⟩
theorem z134.sound (vs : List V) (p : Pack) (h : z134.pack vs = some p) : SoundC Tryz.prog 11 vs p := by
  unfold z134.pack at h; split at h <;> cases h
  exact loops_sound tab_ok mixed_ok rfl rfl rfl (fun g vs p h => by unfold z134.C at h; simp only at h; split at h; exact z19.sound vs p h; exact z131.sound vs p h; exact z126.sound vs p h; exact z133.sound vs p h; exact z127.sound vs p h; simp at h) fun11 z134.loopsT rfl (z134.link _ _ _ _ _ _ _ _ _ _ _ _ _ _ _ _) z134.hdec
end
end Go.Proofs.YtgjncgiekniniaaGreatDoor.A
end
section
set_option linter.unusedVariables false
set_option linter.unusedSimpArgs false
namespace Go.Proofs.YtgjncgiekniniaaGreatDoor.A
open Go Go.RowKit Go.ChangeShapes Go.WideShapes
noncomputable section
inductive SC where
  | b
  | i (k : IntKind)
  | s
inductive CT where
  | sc (c : SC)
  | sl (cs : List SC)
def scOf : CT → Option SC
  | .sc c => some c
  | _ => none
def scsOf : List CT → Option (List SC)
  | [] => some []
  | c :: l => (scOf c).bind fun x => (scsOf l).map (x :: ·)
def okS : SC → V → Prop
  | .b, v => ∃ x, v = .bool x
  | .i k, v => ∃ n, v = .int k n ∧ (Lit.int k n).wf = true
  | .s, v => ∃ l, v = .str l ∧ l.length ≤ maxLen
def okSL : List SC → List V → Prop
  | [], vs => vs = []
  | c :: cs, vs => ∃ v l, vs = v :: l ∧ okS c v ∧ okSL cs l
def okC : CT → V → Prop
  | .sc c, v => okS c v
  | .sl [.i k], v => ∃ l, v = .ints false k l ∧ (∀ n ∈ l, (Lit.int k n).wf = true) ∧ l.length ≤ maxLen
  | .sl [.s], v => ∃ l, v = .strs false l ∧ (∀ s ∈ l, s.length ≤ maxLen) ∧ l.length ≤ maxLen
  | .sl cs, v => ∃ l, v = .recs false cs.length l ∧ (∀ r ∈ l, okSL cs r) ∧ l.length ≤ maxLen
def okCL : List CT → List V → Prop
  | [], vs => vs = []
  | c :: cs, vs => ∃ v l, vs = v :: l ∧ okC c v ∧ okCL cs l
def ctsF (P : Program) (rec : TypeId → Option (List CT)) : Nat → List Field → Option (List CT)
  | _, [] => some []
  | off, f :: fs => if f.offset = off then (rec f.type).bind fun l => if P.cellsOf f.type = l.length then (ctsF P rec (off + l.length) fs).map (l ++ ·) else none else none
def ctsA (l : List CT) : Nat → List CT
  | 0 => []
  | n + 1 => l ++ ctsA l n
def cts (P : Program) : Nat → TypeId → Option (List CT)
  | 0, _ => none
  | n + 1, t =>
    match P.underlying t with
    | some .bool => some [.sc .b]
    | some (.int k) => some [.sc (.i k)]
    | some .string => some [.sc .s]
    | some (.struct fs) => (ctsF P (cts P n) 0 fs.toList).bind fun l => if P.cellsOf t = l.length then some l else none
    | some (.array m e) => (cts P n e).bind fun l => if P.cellsOf e = l.length ∧ P.cellsOf t = m * l.length then some (ctsA l m) else none
    | some (.slice e) => (cts P n e).bind fun l => (scsOf l).bind fun cs => if P.cellsOf e = cs.length ∧ 0 < cs.length then some [.sl cs] else none
    | _ => none
abbrev noO : Nat → Prop := fun _ => False
def cellR (W : World) (c : CT) (cv : Value) (v : V) : Prop := okC c v ∧ Rep0 noO W cv v ∧ cv.oneCell' = true
def cellsR (W : World) (l : List CT) (cs : List Value) (vs : List V) : Prop :=
  cs.length = l.length ∧ vs.length = l.length ∧ ∀ (j : Nat) (c : CT) (cv : Value) (v : V), l[j]? = some c → cs[j]? = some cv → vs[j]? = some v → cellR W c cv v
theorem cellsR_nil (W : World) : cellsR W [] [] [] := ⟨rfl, rfl, fun (j : Nat) c cv v h => by simp at h⟩
theorem cellsR_one {W : World} {c : CT} {cv : Value} {v : V} (h : cellR W c cv v) : cellsR W [c] [cv] [v] := by
  refine ⟨rfl, rfl, fun j c' cv' v' h1 h2 h3 => ?_⟩
  cases j with
  | zero => simp at h1 h2 h3; subst h1 h2 h3; exact h
  | succ j => simp at h1
theorem cellsR_append {W : World} {l l' : List CT} {cs cs' : List Value} {vs vs' : List V} (h : cellsR W l cs vs) (h' : cellsR W l' cs' vs') : cellsR W (l ++ l') (cs ++ cs') (vs ++ vs') := by
  obtain ⟨a1, a2, a3⟩ := h; obtain ⟨b1, b2, b3⟩ := h'
  refine ⟨by simp [a1, b1], by simp [a2, b2], fun j c cv v h1 h2 h3 => ?_⟩
  by_cases hj : j < l.length
  · rw [List.getElem?_append_left hj] at h1
    rw [List.getElem?_append_left (by omega)] at h2 h3
    exact a3 j c cv v h1 h2 h3
  · rw [List.getElem?_append_right (by omega)] at h1 h2 h3
    rw [a1] at h2; rw [a2] at h3
    exact b3 _ c cv v h1 h2 h3
theorem okCL_of {W : World} : ∀ {l : List CT} {cs : List Value} {vs : List V}, cellsR W l cs vs → okCL l vs
  | [], cs, vs, h => List.length_eq_zero_iff.1 h.2.1
  | c :: l, cs, vs, h => by
    obtain ⟨h1, h2, h3⟩ := h
    match cs, vs, h1, h2 with
    | cv :: cs, v :: vs, h1, h2 =>
      exact ⟨v, vs, rfl, (h3 0 c cv v rfl rfl rfl).1, okCL_of (cs := cs) ⟨by simpa using h1, by simpa using h2, fun j c' cv' v' a b d => h3 (j + 1) c' cv' v' (by simpa using a) (by simpa using b) (by simpa using d)⟩⟩
theorem okSL_of : ∀ {l : List CT} {ss : List SC} {vs : List V}, scsOf l = some ss → okCL l vs → okSL ss vs
  | [], ss, vs, h, hv => by simp [scsOf] at h; subst h; exact hv
  | c :: l, ss, vs, h, hv => by
    simp only [scsOf, Option.bind_eq_some_iff, Option.map_eq_some_iff] at h
    obtain ⟨x, hx, y, hy, rfl⟩ := h
    obtain ⟨v, r, rfl, h1, h2⟩ := hv
    refine ⟨v, r, rfl, ?_, okSL_of hy h2⟩
    cases c with
    | sc c => simp [scOf] at hx; subst hx; exact h1
    | sl _ => simp [scOf] at hx
theorem scsOf_len : ∀ {l : List CT} {ss : List SC}, scsOf l = some ss → ss.length = l.length
  | [], ss, h => by simp [scsOf] at h; subst h; rfl
  | c :: l, ss, h => by
    simp only [scsOf, Option.bind_eq_some_iff, Option.map_eq_some_iff] at h
    obtain ⟨x, hx, y, hy, rfl⟩ := h
    simp [scsOf_len hy]
theorem list_of_each {α : Type} {Q : Nat → α → Prop} : ∀ {n : Nat}, (∀ i, i < n → ∃ x, Q i x) → ∃ l : List α, l.length = n ∧ ∀ (i : Nat) (x : α), l[i]? = some x → Q i x
  | 0, _ => ⟨[], rfl, fun i x h => by simp at h⟩
  | n + 1, h => by
    obtain ⟨l, h1, h2⟩ := list_of_each (n := n) fun i hi => h i (by omega)
    obtain ⟨x, hx⟩ := h n (by omega)
    refine ⟨l ++ [x], by simp [h1], fun i y hy => ?_⟩
    by_cases hi : i < l.length
    · rw [List.getElem?_append_left hi] at hy; exact h2 i y hy
    · rw [List.getElem?_append_right (by omega)] at hy
      have : i - l.length = 0 := by
        rcases Nat.lt_or_ge (i - l.length) 1 with h0 | h0
        · omega
        · rw [List.getElem?_eq_none (by simp; omega)] at hy; simp at hy
      rw [this] at hy; simp at hy; subst hy
      have : i = n := by omega
      subst this; exact hx
theorem flatten_getz {α : Type} (z : Nat) (hz : 0 < z) : ∀ (l : List (List α)) (j : Nat), (∀ e ∈ l, e.length = z) → l.flatten[j]? = (l[j / z]?).bind (·[j % z]?)
  | [], j, _ => by simp
  | e :: l, j, h => by
    have he := h e (by simp)
    rw [List.flatten_cons]
    by_cases hj : j < z
    · rw [List.getElem?_append_left (by omega), Nat.div_eq_of_lt hj, Nat.mod_eq_of_lt hj]; rfl
    · rw [List.getElem?_append_right (by omega), flatten_getz z hz l _ (fun x hx => h x (by simp [hx])), he]
      have h1 : j / z = (j - z) / z + 1 := by rw [← Nat.add_div_right (j - z) hz, Nat.sub_add_cancel (by omega)]
      have h2 : j % z = (j - z) % z := by rw [← Nat.add_mod_right (j - z) z, Nat.sub_add_cancel (by omega)]
      rw [h1, h2]; rfl
theorem ones {α : Type} {c : SC} {f : α → V} {Q : α → Prop} (hc : ∀ v, okS c v → ∃ n, v = f n ∧ Q n) : ∀ vss : List (List V), (∀ r ∈ vss, okSL [c] r) →
    ∃ zs : List α, vss.flatten = zs.map f ∧ zs.length = vss.length ∧ ∀ n ∈ zs, Q n
  | [], _ => ⟨[], rfl, rfl, by simp⟩
  | r :: vss, h => by
    obtain ⟨zs, e1, e2, e3⟩ := ones hc vss fun x hx => h x (by simp [hx])
    obtain ⟨v, l, rfl, hv, hl⟩ := h r (by simp)
    have hl : l = [] := hl
    subst hl
    obtain ⟨n, rfl, hq⟩ := hc v hv
    exact ⟨n :: zs, by simp [e1], by simp [e2], by simpa using ⟨hq, e3⟩⟩
theorem sl_rows {W : World} {t e n m : Nat} {ss : List SC} {l : List CT} {a : Addr} {len cap : Nat} (hs : scsOf l = some ss) (hz : 0 < ss.length) (hl : len ≤ cap) (hm : cap ≤ maxLen)
    (h : ∀ i, i < len → ∃ cs vs, W.cells? 0 (a.add (i * ss.length)) ss.length = some cs ∧ cellsR W l cs vs) : ∃ v, okC (.sl ss) v ∧ Rep0 noO W (.slice (some a) len cap) v := by
  obtain ⟨rows, h1, h2⟩ := list_of_each h
  have hsl := scsOf_len hs
  have hrow : ∀ (i : Nat) (r : List Value), rows[i]? = some r → ∃ vs : List V, r.length = ss.length ∧ okSL ss vs ∧ vs.length = ss.length ∧ ∀ (j : Nat) (cv : Value) (v : V), r[j]? = some cv → vs[j]? = some v → W.cell? (a.add (i * ss.length + j)) = some cv ∧ Rep0 noO W cv v ∧ cv.oneCell' = true := by
    intro i r hr
    obtain ⟨vs, hc, hv⟩ := h2 i r hr
    obtain ⟨_, hlen, hcell⟩ := World.cells?_some hc
    refine ⟨vs, hlen, okSL_of hs (okCL_of hv), hv.2.1.trans hsl.symm, fun j cv v hj hjv => ?_⟩
    have hjl : j < l.length := by have := (List.getElem?_eq_some_iff.1 hj).1; omega
    have := hv.2.2 j l[j] cv v (by simp) hj hjv
    refine ⟨?_, this.2⟩
    rw [← Go.Deep.add_add, hcell j (by omega), hj]
  have hall : ∀ i, i < rows.length → ∃ vs : List V, okSL ss vs ∧ vs.length = ss.length ∧ ∀ (j : Nat) (v : V), vs[j]? = some v → ∃ cv, W.cell? (a.add (i * ss.length + j)) = some cv ∧ Rep0 noO W cv v ∧ cv.oneCell' = true := by
    intro i hi
    obtain ⟨vs, q1, q2, q3, q4⟩ := hrow i rows[i] (by simp [hi])
    refine ⟨vs, q2, q3, fun j v hv => ?_⟩
    have : j < ss.length := by have := (List.getElem?_eq_some_iff.1 hv).1; omega
    exact ⟨_, q4 j (rows[i][j]'(by omega)) v (by simp) hv⟩
  obtain ⟨vss, g1, g2⟩ := list_of_each hall
  have hvlen : ∀ e ∈ vss, e.length = ss.length := fun e he => by obtain ⟨i, hi, rfl⟩ := List.getElem_of_mem he; exact (g2 i _ (by simp [hi])).2.1
  have gen : ∀ v : V, flatV v = some (len, vss.flatten) → isExact v = false → Rep0 noO W (.slice (some a) len cap) v := by
    intro v hf hx
    have hcell : ∀ (j : Nat) (v : V), vss.flatten[j]? = some v → ∃ cv, W.cell? (a.add j) = some cv ∧ Rep0 noO W cv v ∧ cv.oneCell' = true := by
      intro j v hv
      rw [flatten_getz ss.length hz vss j hvlen] at hv
      obtain ⟨r, hr, hv⟩ := Option.bind_eq_some_iff.1 hv
      obtain ⟨cv, k1, k2⟩ := (g2 _ r hr).2.2 _ v hv
      refine ⟨cv, ?_, k2⟩
      rw [show j = j / ss.length * ss.length + j % ss.length by rw [Nat.mul_comm]; exact (Nat.div_add_mod j ss.length).symm]
      exact k1
    refine .slice (some a) len cap v vss.flatten (fun j => (W.cell? (a.add j)).getD Go.undef) hf (by simp [hx]) hl (by simp) (fun j hj => ?_) (fun j hj => ?_) (fun j hj => ?_)
    · obtain ⟨cv, k1, k2, k3⟩ := hcell j _ (List.getElem?_eq_getElem hj)
      exact ⟨a, rfl, fun h => h.elim, by rw [k1]; rfl⟩
    · obtain ⟨cv, k1, k2, k3⟩ := hcell j _ (List.getElem?_eq_getElem hj)
      rw [k1]; exact k3
    · obtain ⟨cv, k1, k2, k3⟩ := hcell j _ (List.getElem?_eq_getElem hj)
      rw [k1]; exact k2
  have hlen' : vss.length = len := by omega
  have recs : ∃ v, (∃ l, v = V.recs false ss.length l ∧ (∀ r ∈ l, okSL ss r) ∧ l.length ≤ maxLen) ∧ Rep0 noO W (.slice (some a) len cap) v := by
    refine ⟨.recs false ss.length vss, ⟨vss, rfl, fun r hr => ?_, by omega⟩, gen _ ?_ rfl⟩
    · obtain ⟨i, hi, rfl⟩ := List.getElem_of_mem hr; exact (g2 i _ (by simp [hi])).1
    · simp only [flatV]; rw [if_pos ⟨hz, hvlen⟩, hlen']
  match ss, hs, hz, recs, g2, gen, hvlen with
  | [], _, hz, _, _, _, _ => simp at hz
  | [.b], _, _, recs, _, _, _ => exact recs
  | x :: y :: _, _, _, recs, _, _, _ => exact by cases x <;> exact recs
  | [.i k], _, _, recs, g2, gen, hvlen =>
    obtain ⟨zs, e1, e2, e3⟩ := ones (c := .i k) (f := V.int k) (fun v h => h) vss fun r hr => by
      obtain ⟨i, hi, rfl⟩ := List.getElem_of_mem hr; exact (g2 i _ (by simp [hi])).1
    refine ⟨.ints false k zs, ⟨zs, rfl, e3, by omega⟩, gen _ ?_ rfl⟩
    simp only [flatV]; rw [e1, e2, hlen']
  | [.s], _, _, recs, g2, gen, hvlen =>
    obtain ⟨zs, e1, e2, e3⟩ := ones (c := .s) (f := V.str) (fun v h => h) vss fun r hr => by
      obtain ⟨i, hi, rfl⟩ := List.getElem_of_mem hr; exact (g2 i _ (by simp [hi])).1
    refine ⟨.strs false zs, ⟨zs, rfl, e3, by omega⟩, gen _ ?_ rfl⟩
    simp only [flatV]; rw [e1, e2, hlen']
theorem sl_nil {W : World} {ss : List SC} (hz : 0 < ss.length) : ∃ v, okC (.sl ss) v ∧ Rep0 noO W (.slice none 0 0) v := by
  have gen : ∀ v : V, flatV v = some (0, []) → isExact v = false → Rep0 noO W (.slice none 0 0) v := fun v hf hx =>
    .slice none 0 0 v [] (fun _ => Go.undef) hf (by simp [hx]) (Nat.le_refl _) (fun _ => rfl) (fun j hj => by simp at hj) (fun j hj => by simp at hj) (fun j hj => by simp at hj)
  match ss, hz with
  | [.i k], _ => exact ⟨.ints false k [], ⟨[], rfl, by simp, by simp⟩, gen _ rfl rfl⟩
  | [.s], _ => exact ⟨.strs false [], ⟨[], rfl, by simp, by simp⟩, gen _ rfl rfl⟩
  | [.b], _ => exact ⟨.recs false 1 [], ⟨[], rfl, by simp, by simp⟩, gen _ (by simp [flatV]) rfl⟩
  | a :: a' :: ss, _ => exact ⟨.recs false (a :: a' :: ss).length [], by cases a <;> exact ⟨[], rfl, by simp, by simp⟩, gen _ (by simp [flatV]) rfl⟩
section
variable {H : Type} {enc : TypeId × Value → H} {P : Program} {W : World}
theorem trod_cells : ∀ (n : Nat) (t : TypeId) (l : List CT), cts P n t = some l → ∀ (fuel : Nat) (cs : List Value) (x : DataW H × List MemPlace), DataW.trod enc P W 0 (fun _ => true) true fuel t cs = some x →
    ∃ vs, cellsR W l cs vs
  | 0, t, l, h, _, _, _, _ => by simp [cts] at h
  | n + 1, t, l, h, fuel, cs, x, hx => by
    unfold cts at h
    split at h
    · rename_i ht
      simp at h; subst h
      obtain ⟨bb, rfl, _⟩ := DataW.trod_bool ht hx
      exact ⟨[.bool bb], cellsR_one ⟨⟨bb, rfl⟩, .bool bb, rfl⟩⟩
    · rename_i k ht
      simp at h; subst h
      obtain ⟨b, rfl, _, hw⟩ := DataW.trod_int ht hx
      exact ⟨[.int k b], cellsR_one ⟨⟨b, rfl, hw⟩, .int k b, rfl⟩⟩
    · rename_i ht
      simp at h; subst h
      obtain ⟨b, rfl, _, hw⟩ := DataW.trod_string ht hx
      exact ⟨[.str b.data.toList], cellsR_one ⟨⟨_, rfl, by simpa using hw⟩, .str _ _ rfl, rfl⟩⟩
    · rename_i fs ht
      obtain ⟨l', h1, h2⟩ := Option.bind_eq_some_iff.1 h
      split at h2
      case isFalse => simp at h2
      rename_i hsz
      simp at h2; subst h2
      obtain ⟨xs, m, _, _, hlen, hxl, hf⟩ := DataW.trod_struct ht hx
      have key : ∀ (gs : List Field) (off : Nat) (l' : List CT), ctsF P (cts P n) off gs = some l' → (∀ f ∈ gs, ∃ y, DataW.trod enc P W 0 (fun _ => true) true m f.type ((cs.drop f.offset).take (P.cellsOf f.type)) = some y) →
          ∃ vs, cellsR W l' ((cs.drop off).take l'.length) vs := by
        intro gs
        induction gs with
        | nil => intro off l' h _; simp [ctsF] at h; subst h; exact ⟨[], by simpa using cellsR_nil W⟩
        | cons f gs ih =>
          intro off l' h hg
          unfold ctsF at h
          split at h
          case isFalse => simp at h
          rename_i hoff
          obtain ⟨lf, h1, h2⟩ := Option.bind_eq_some_iff.1 h
          split at h2
          case isFalse => simp at h2
          rename_i hsz
          obtain ⟨l2, h3, rfl⟩ := Option.map_eq_some_iff.1 h2
          obtain ⟨y, hy⟩ := hg f (by simp)
          obtain ⟨vs1, c1⟩ := trod_cells n f.type lf h1 m _ y hy
          obtain ⟨vs2, c2⟩ := ih _ _ h3 fun f' hf' => hg f' (by simp [hf'])
          refine ⟨vs1 ++ vs2, ?_⟩
          have hc := cellsR_append c1 c2
          rw [hoff, hsz] at hc
          have hl1 : lf.length ≤ (cs.drop off).length := by
            have := c1.1; rw [hoff, hsz, List.length_take] at this; omega
          rw [List.length_append, List.take_add, List.drop_drop]
          exact hc
      have hall : ∀ f ∈ fs.toList, ∃ y, DataW.trod enc P W 0 (fun _ => true) true m f.type ((cs.drop f.offset).take (P.cellsOf f.type)) = some y := by
        intro f hf'
        obtain ⟨i, hi, rfl⟩ := List.getElem_of_mem hf'
        have hi' : i < fs.size := by simpa using hi
        have := hf i (fs.toList[i]) (by simp [hi'])
        rw [List.getElem?_eq_getElem (by omega)] at this
        exact ⟨_, this⟩
      obtain ⟨vs, hv⟩ := key fs.toList 0 _ h1 hall
      refine ⟨vs, ?_⟩
      rwa [List.drop_zero, List.take_of_length_le (by omega)] at hv
    · rename_i m e ht
      obtain ⟨l', h1, h2⟩ := Option.bind_eq_some_iff.1 h
      split at h2
      case isFalse => simp at h2
      rename_i hsz
      simp at h2; subst h2
      obtain ⟨xs, q, _, _, hlen, hxl, hf⟩ := DataW.trod_array ht hx
      have key : ∀ (k : Nat), k ≤ m → ∃ vs, cellsR W (ctsA l' k) ((cs.drop ((m - k) * l'.length)).take (k * l'.length)) vs := by
        intro k
        induction k with
        | zero => intro _; exact ⟨[], by simpa [ctsA] using cellsR_nil W⟩
        | succ k ih =>
          intro hk
          obtain ⟨vs2, c2⟩ := ih (by omega)
          have h3 := hf (m - (k + 1)) (by omega)
          rw [List.getElem?_eq_getElem (by omega)] at h3
          obtain ⟨vs1, c1⟩ := trod_cells n e l' h1 q _ _ h3
          refine ⟨vs1 ++ vs2, ?_⟩
          have hc := cellsR_append c1 c2
          rw [hsz.1] at hc
          have e1 : (m - k) * l'.length = (m - (k + 1)) * l'.length + l'.length := by
            rw [← Nat.succ_mul]; congr 1; omega
          have e2 : (k + 1) * l'.length = l'.length + k * l'.length := by rw [Nat.succ_mul, Nat.add_comm]
          rw [e1, ← List.drop_drop] at hc
          rw [e2, List.take_add]
          exact hc
      obtain ⟨vs, hv⟩ := key m (Nat.le_refl _)
      refine ⟨vs, ?_⟩
      rwa [Nat.sub_self, Nat.zero_mul, List.drop_zero, List.take_of_length_le (by omega)] at hv
    · rename_i e ht
      obtain ⟨l', h1, h2⟩ := Option.bind_eq_some_iff.1 h
      obtain ⟨ss, h3, h4⟩ := Option.bind_eq_some_iff.1 h2
      split at h4
      case isFalse => simp at h4
      rename_i hsz
      simp at h4; subst h4
      rcases Go.Deep.open_slice ht hx with ⟨rfl, _⟩ | ⟨a, len, cap, m, q, D, Pl, rfl, _, hl, hm, hmm, _, hi⟩
      · obtain ⟨v, k1, k2⟩ := sl_nil (W := W) hsz.2
        exact ⟨[v], cellsR_one ⟨k1, k2, rfl⟩⟩
      · simp only [if_true] at hmm
        subst hmm
        rw [hsz.1] at hi
        obtain ⟨v, k1, k2⟩ := sl_rows (t := 0) (e := 0) (n := 0) (m := 0) h3 hsz.2 hl hm fun i hi' => by
          obtain ⟨cs', c1, c2⟩ := hi i (by omega)
          obtain ⟨vs, c3⟩ := trod_cells n e l' h1 q _ _ c2
          exact ⟨cs', vs, c1, c3⟩
        exact ⟨[v], cellsR_one ⟨k1, k2, rfl⟩⟩
    · simp at h
inductive AT where
  | one (c : CT)
  | agg (l : List CT)
def okA : AT → V → Prop
  | .one c, v => okC c v
  | .agg l, v => ∃ vs, v = .agg vs ∧ okCL l vs
def okAL : List AT → List V → Prop
  | [], vs => vs = []
  | c :: cs, vs => ∃ v l, vs = v :: l ∧ okA c v ∧ okAL cs l
def atOf (P : Program) (n : Nat) (t : TypeId) : Option AT :=
  (cts P n t).bind fun l => match P.underlying t with
    | some (.struct _) | some (.array _ _) => some (.agg l)
    | _ => match l with
      | [c] => some (.one c)
      | _ => none
def atsOf (P : Program) (n : Nat) : List TypeId → Option (List AT)
  | [] => some []
  | t :: ts => (atOf P n t).bind fun x => (atsOf P n ts).map (x :: ·)
theorem arg_V {n : Nat} {t : TypeId} {q : AT} (hq : atOf P n t = some q) {base : Nat} {v : Value} {d : DataW H} {ps : List MemPlace} (hval : Value.okWide P W .any base t v) (h : DataW.Trod enc P W 0 (fun _ => true) true t v d ps) :
    ∃ x, okA q x ∧ Rep0 noO W v x := by
  obtain ⟨l, h1, h2⟩ := Option.bind_eq_some_iff.1 hq
  obtain ⟨fuel, hf⟩ := h
  obtain ⟨vs, hv⟩ := trod_cells n t l h1 fuel _ _ hf
  have aggCase : (∃ cs, v = .agg cs) → ∃ x, okA (.agg l) x ∧ Rep0 noO W v x := by
    rintro ⟨cs, rfl⟩
    have hc : (Value.agg cs).cells.toList = cs.toList := rfl
    rw [hc] at hv
    refine ⟨.agg vs, ⟨vs, rfl, okCL_of hv⟩, .agg cs vs (by have := hv.1; have := hv.2.1; simp at *; omega) (fun j hj => ?_) (fun j hj => ?_)⟩ <;>
    · have hj1 : j < cs.size := by have := hv.1; have := hv.2.1; simp at *; omega
      have := hv.2.2 j (l[j]'(by have := hv.2.1; omega)) cs[j] vs[j] (by simp) (by simp [hj1]) (by simp)
      have e : cs.getD j Go.undef = cs[j] := by simp [Array.getD, hj1]
      rw [e]
      first | exact this.2.2 | exact this.2.1
  split at h2
  · rename_i fs ht
    simp at h2; subst h2
    obtain ⟨cs, rfl, _⟩ := okWide_struct ht hval
    exact aggCase ⟨cs, rfl⟩
  · rename_i m e ht
    simp at h2; subst h2
    unfold Value.okWide at hval
    rw [ht] at hval
    obtain ⟨cs, rfl, _⟩ := hval
    exact aggCase ⟨cs, rfl⟩
  · rename_i hns hna
    split at h2
    case h_2 => simp at h2
    rename_i c
    simp at h2; subst h2
    obtain ⟨a1, a2, a3⟩ := hv
    match vs, a2 with
    | [x], _ =>
      have hcells : v.cells = #[v] := by
        cases v with
        | agg cs =>
          exfalso
          unfold Value.okWide at hval
          cases n with
          | zero => simp [cts] at h1
          | succ n =>
            unfold cts at h1
            split at h1 <;> rename_i ht
            · rw [ht] at hval; simp [Cell.okWide, Cell.ok, ht] at hval
            · rw [ht] at hval; simp [Cell.okWide, Cell.ok, ht] at hval
            · rw [ht] at hval; simp [Cell.okWide, Cell.ok, ht] at hval
            · exact hns _ ht
            · exact hna _ _ ht
            · rw [ht] at hval; simp [Cell.okWide, Cell.ok, ht] at hval
            · simp at h1
        | _ => rfl
      rw [hcells] at a3
      have := a3 0 c v x rfl rfl rfl
      exact ⟨x, this.1, this.2.1⟩
theorem args_V {n : Nat} : ∀ {ts : List TypeId} {qs : List AT} {args : List Value} {ds : List (DataW H)} {ps : List MemPlace} {base : Nat}, atsOf P n ts = some qs → DataW.TrodAll enc P W 0 (fun _ => true) true ts args ds ps →
    (∀ (j : Nat) t v, ts[j]? = some t → args[j]? = some v → Value.okWide P W .any base t v) →
    ∃ vs, args.length = vs.length ∧ okAL qs vs ∧ ∀ j (h : j < vs.length), Rep0 noO W (args.getD j Go.undef) vs[j]
  | [], qs, args, ds, ps, base, hq, h, _ => by
    simp [atsOf] at hq; subst hq
    obtain ⟨rfl, rfl, rfl⟩ := trodAll_nil h
    exact ⟨[], rfl, rfl, fun j h => by simp at h⟩
  | t :: ts, qs, args, ds, ps, base, hq, h, hval => by
    simp only [atsOf, Option.bind_eq_some_iff, Option.map_eq_some_iff] at hq
    obtain ⟨q, hq1, qs', hq2, rfl⟩ := hq
    obtain ⟨v, vs, d, ds', p, p', rfl, rfl, rfl, h1, h2⟩ := trodAll_cons h
    obtain ⟨x, k1, k2⟩ := arg_V hq1 (hval 0 t v rfl rfl) h1
    obtain ⟨xs, l1, l2, l3⟩ := args_V hq2 h2 fun j t v a b => hval (j + 1) t v (by simpa using a) (by simpa using b)
    refine ⟨x :: xs, by simp [l1], ⟨x, xs, rfl, k1, l2⟩, fun j hj => ?_⟩
    cases j with
    | zero => exact k2
    | succ j => simpa using l3 j (by simpa using hj)
theorem stays_all {ts : List TypeId} (hl : laidOutB P = true) (hr : ts.all (fun t => P.readableRec t && decide (t < P.types.size)) = true) {W' : World} (hb : Below W.heap.size W W') {sp : Nat → Bool} :
    ∀ {vs : List Value} {ds : List (DataW H)} {ps : List MemPlace}, DataW.TrodAll enc P W 0 (fun _ => true) true ts vs ds ps → (∀ x ∈ ps, x.block < W.heap.size) → (∀ x ∈ ps, sp x.block = true) →
      DataW.TrodAll enc P W' 0 sp true ts vs ds ps := by
  induction ts with
  | nil =>
    intro vs ds ps h _ _
    obtain ⟨rfl, rfl, rfl⟩ := trodAll_nil h
    exact trodAll_mk0
  | cons t ts ih =>
    intro vs ds ps h hlt hsp
    obtain ⟨v, vs', d, ds', p, p', rfl, rfl, rfl, h1, h2⟩ := trodAll_cons h
    simp only [List.all_cons, Bool.and_eq_true, decide_eq_true_eq] at hr
    exact trodAll_cons_mk (WideElems.Trod_stays hl hr.1.1 hr.1.2 h1 (fun x hx => hb.same (hlt x (by simp [hx]))) (fun x hx => hsp x (by simp [hx])))
      (ih hr.2 h2 (fun x hx => hlt x (by simp [hx])) (fun x hx => hsp x (by simp [hx])))
theorem post_below {f : Func} {s : ChangeSpec} {apart fresh handsOn again : Bool} {W W' : World} {args : Array Value} {v : Value} {ds gs : List (DataW H)} {before pa pv : List MemPlace}
    (hW : DataW.Whole enc P f.params.toList s.vars apart W args.toList ds gs before)
    (hres : ∀ (b : Nat) (sp : Nat → Bool) (hd : Bool), DataW.TrodAll enc P W' b sp hd f.resultTypes.toList (v.resultList f.resultTypes.size) (s.fn H (ds ++ gs)).results [])
    (hargs : ∀ sp : Nat → Bool, (∀ p ∈ before, sp p.block = true) → DataW.TrodAll enc P W' 0 sp true f.params.toList args.toList (s.fn H (ds ++ gs)).args pa)
    (hvars : ∀ sp : Nat → Bool, (∀ p ∈ before, sp p.block = true) → DataW.TrodVars enc P W' sp s.vars (s.fn H (ds ++ gs)).vars pv)
    (hps : before = pa ++ pv) (hb : Below W.heap.size W W')
    (hok : ∀ (j : Nat) (t : TypeId) (r : Value), f.resultTypes[j]? = some t → (v.resultList f.resultTypes.size)[j]? = some r → Value.okWide P W' .any 0 t r) :
    s.post enc P f apart fresh handsOn again W args v W' := by
  have hlt : ∀ p ∈ before, p.block < W.heap.size := fun p hp => hW.lt p hp
  have hold : ∀ p ∈ before, (fun b => decide (b < W.heap.size)) p.block = true := fun p hp => by simpa using hlt p hp
  refine ⟨ds, gs, before, [], pa, pv, hW, hres _ _ _, hargs _ hold, hvars _ hold, World.keptBut_mono (fun p hp => ⟨hp, ?_⟩) (hb.frame (· ∈ before)), fun _ => ?_⟩
  · rw [hps, List.mem_append] at hp
    exact Or.inr hp
  · obtain ⟨_, _, _, _, _, hz, hn⟩ := hW
    refine ⟨hok, _, _, ([] ++ pa) ++ pv, ⟨[] ++ pa, pv, trodAll_append (hargs _ (fun _ _ => rfl)) (hres _ _ _), hvars _ (fun _ _ => rfl), rfl, ?_, ?_⟩, ?_⟩
    · intro b off hp
      have hin : MemPlace.cell b off ∈ before := by rw [hps]; simpa using hp
      rw [hb.frozen (hlt _ hin)]
      exact hz b off hin
    · intro ha
      have := hn ha
      rw [hps] at this
      simpa using this
    · intro p hp _
      rw [hps]
      simpa using hp
theorem law_contract {g : Nat} {f : Func} {c : Code} (hf : FunOK P g f c) {s : ChangeSpec} {n : Nat} {qs : List AT} {tb : TypeId} (hl : laidOutB P = true) (hr : f.params.toList.all (fun t => P.readableRec t && decide (t < P.types.size)) = true)
    (hq : atsOf P n f.params.toList = some qs) (hres : f.resultTypes = #[tb]) (htb : P.underlying tb = some .bool) (hv : s.vars = [])
    (hs : ∀ ds : List (DataW H), ds.length = f.params.toList.length → s.fn H ds = { results := [.lit (.bool true)], args := ds })
    (plain : ∀ vs, okAL qs vs → ∃ p r, SoundC P g vs p ∧ p.m = some r ∧ p.enc r = .bool true)
    (W : World) (base : Nat) (args : Array Value) (ds gs : List (DataW H)) (before : List MemPlace)
    (hval : ∀ (j : Nat) t v, f.params[j]? = some t → args[j]? = some v → Value.okWide P W .any base t v)
    (hW : DataW.Whole enc P f.params.toList s.vars false W args.toList ds gs before) :
    Calls P g args W fun e W' => ∃ v, e = .returned v ∧ s.post enc P f false true false false W args v W' := by
  have hW' := hW
  have hlt : ∀ p ∈ before, p.block < W.heap.size := fun p hp => hW.lt p hp
  obtain ⟨p, q, hA, hV, rfl, hfz, hnd⟩ := hW
  have hA : DataW.TrodAll enc P W 0 (fun _ => true) true f.params.toList args.toList ds p := hA
  rw [hv] at hV
  obtain ⟨rfl, rfl⟩ := trodVars_none hV
  obtain ⟨vs, h1, h2, h3⟩ := args_V hq hA fun j t v a b => hval j t v (by simpa using a) (by simpa using b)
  obtain ⟨pk, r, hsound, hm, he⟩ := plain vs h2
  have hcall := hsound noO W args r hm (by simpa using h1) (fun j hj => by
    have h4 := h3 j hj
    have : args.getD j Go.undef = args.toList.getD j Go.undef := by
      have hj' : j < args.size := by rw [← Array.length_toList, h1]; exact hj
      simp [Array.getD, List.getD, hj']
    rwa [this]) (fun b h => h.elim)
  unfold CallR at hcall
  rw [hf.enters] at hcall
  have hlen : ∀ {ts : List TypeId} {vs : List Value} {ds : List (DataW H)} {ps : List MemPlace}, DataW.TrodAll enc P W 0 (fun _ => true) true ts vs ds ps → ds.length = ts.length := by
    intro ts
    induction ts with
    | nil => intro vs ds ps h; obtain ⟨_, rfl, _⟩ := trodAll_nil h; rfl
    | cons t ts ih => intro vs ds ps h; obtain ⟨_, _, _, _, _, _, _, rfl, _, _, h2⟩ := trodAll_cons h; simp [ih h2]
  refine hcall.mono fun e W' h => ?_
  cases e with
  | returned cv =>
    obtain ⟨hg, hrep⟩ := h
    rw [he] at hrep
    obtain rfl : cv = .bool true := by
      cases hrep
      · rfl
      · rename_i hf _; cases hf
    have hb : Below W.heap.size W W' := ⟨hg.os, hg.tape, hg.output, hg.size, fun k hk => hg.block k hk (by simp)⟩
    have hfn := hs ds (hlen hA)
    refine ⟨_, rfl, post_below (pa := p) (pv := []) hW' ?_ ?_ ?_ rfl hb ?_⟩
    · intro b sp hd
      rw [List.append_nil, hfn, hres]
      exact trodAll_cons_mk (shut_bool htb _) trodAll_mk0
    · intro sp hsp
      rw [List.append_nil, hfn]
      exact stays_all hl hr hb hA (fun x hx => hlt x (by simp [hx])) (fun x hx => hsp x (by simp [hx]))
    · intro sp hsp
      rw [List.append_nil, hfn, hv]
      rfl
    · exact ok_one hres rfl (okWide_bool_mk htb _)
  | _ => exact h.elim
end
end
end Go.Proofs.YtgjncgiekniniaaGreatDoor.A
end
section
namespace Go.Proofs.YtgjncgiekniniaaGreatDoor.A
open Go
theorem own : ownKnob Tryz.prog.godebug = none := by kernel_rfl
theorem laidOut : laidOutB Tryz.prog = true := by kernel_rfl
theorem rowed : mapsRowed Tryz.prog = true := by kernel_rfl
theorem noStops : (Tryz.prog.stops == []) = true := by kernel_rfl
theorem noKnobs : (Tryz.prog.stopKnobs == []) = true := by kernel_rfl
theorem heard : Tryz.prog.stopsHeard = true := by kernel_rfl
theorem enterable : Tryz.prog.mayEnter = true := by kernel_rfl
theorem looksOff : false = Tryz.prog.looks [] := by kernel_rfl
theorem main : Tryz.pinned.checked.prog.mainIs = some (true, ("d4ffbc68b08c28ac251f33799dbb1d7e972ab3df77886f5ed4ce34a153cf9881" : String).toList) := by kernel_rfl
noncomputable def relay (l : List Int) : Obj → Obj
  | .cells _ t fz => .cells (l.map fun n => Value.int .u8 n).toArray t fz
  | o => o
noncomputable def accept : List Int := [128, 191, 160, 191, 128, 159, 144, 191, 128, 143, 0, 0, 0, 0, 0, 0, 0, 0, 0, 0, 0, 0, 0, 0, 0, 0, 0, 0, 0, 0, 0, 0]
noncomputable def laidWorld (os : Os) : World :=
  let w := World.holding Tryz.prog os ⟨#[], #[], []⟩
  { w with heap := (w.heap.modify 3 (relay (Go.Pinned.utf8FirstZ.map Int.ofNat))).modify 4 (relay accept) }
end Go.Proofs.YtgjncgiekniniaaGreatDoor.A
end
section
set_option linter.unusedVariables false
namespace Go.Proofs.YtgjncgiekniniaaGreatDoor.A
open Go
def Runs {σ R : Type} (F : (σ → Option R) → σ → Option R) (x : σ) (r : R) : Prop :=
  (∃ n, iterF F n x = some r) ∧ ∀ n, iterF F n x = none ∨ iterF F n x = some r
theorem Runs.done {σ R : Type} {F : (σ → Option R) → σ → Option R} {x : σ} {r : R} (h : ∀ rec, F rec x = some r) : Runs F x r := by
  refine ⟨⟨1, h _⟩, fun n => ?_⟩
  cases n with
  | zero => exact .inl rfl
  | succ n => exact .inr (h _)
theorem Runs.step {σ R : Type} {F : (σ → Option R) → σ → Option R} {x y : σ} {r : R} (h : ∀ rec, F rec x = rec y) (hy : Runs F y r) : Runs F x r := by
  obtain ⟨⟨m, hm⟩, ha⟩ := hy
  refine ⟨⟨m + 1, by rw [← hm]; exact h _⟩, fun n => ?_⟩
  cases n with
  | zero => exact .inl rfl
  | succ n => have := ha n; rw [← h (iterF F n)] at this; exact this
theorem Runs.lfp {σ R : Type} {F : (σ → Option R) → σ → Option R} {x : σ} {r : R} (h : Runs F x r) : A.lfp F x = some r := by
  obtain ⟨⟨m, hm⟩, ha⟩ := h
  unfold A.lfp
  have hex : ∃ n, (iterF F n x).isSome := ⟨m, by rw [hm]; rfl⟩
  rw [dif_pos hex]
  rcases ha (Classical.choose hex) with h0 | h0
  · have := Classical.choose_spec hex
    rw [h0] at this; simp at this
  · exact h0
theorem wr_i64 {n : Int} (h1 : -9223372036854775808 ≤ n) (h2 : n < 9223372036854775808) : wr .i64 n = n := by
  simp only [wr, IntKind.wrap, IntKind.signed, IntKind.bits]
  simp; omega
theorem wr_u64 {n : Int} (h1 : 0 ≤ n) (h2 : n < 18446744073709551616) : wr .u64 n = n := by
  simp only [wr, IntKind.wrap, IntKind.signed, IntKind.bits]
  simp; omega
theorem wr_u64_mod (n : Int) : wr .u64 n = n % 18446744073709551616 := by
  simp [wr, IntKind.wrap, IntKind.signed, IntKind.bits]
theorem wr_u8 {n : Int} (h1 : 0 ≤ n) (h2 : n < 256) : wr .u8 n = n := by
  simp only [wr, IntKind.wrap, IntKind.signed, IntKind.bits]
  simp; omega
theorem wf_u64 {n : Int} (h : (Lit.int .u64 n).wf = true) : 0 ≤ n ∧ n < 18446744073709551616 := by
  simp [Lit.wf, IntKind.min, IntKind.max, IntKind.signed, IntKind.bits] at h; omega
theorem wf_u32 {n : Int} (h : (Lit.int .u32 n).wf = true) : 0 ≤ n ∧ n < 4294967296 := by
  simp [Lit.wf, IntKind.min, IntKind.max, IntKind.signed, IntKind.bits] at h; omega
theorem wf_u16 {n : Int} (h : (Lit.int .u16 n).wf = true) : 0 ≤ n ∧ n < 65536 := by
  simp [Lit.wf, IntKind.min, IntKind.max, IntKind.signed, IntKind.bits] at h; omega
theorem wf_u8 {n : Int} (h : (Lit.int .u8 n).wf = true) : 0 ≤ n ∧ n < 256 := by
  simp [Lit.wf, IntKind.min, IntKind.max, IntKind.signed, IntKind.bits] at h; omega
theorem wf_i16 {n : Int} (h : (Lit.int .i16 n).wf = true) : -32768 ≤ n ∧ n < 32768 := by
  simp [Lit.wf, IntKind.min, IntKind.max, IntKind.signed, IntKind.bits] at h; omega
theorem tdiv_ediv {a b : Int} (h : 0 ≤ a) : Int.tdiv a b = a / b := Int.tdiv_eq_ediv_of_nonneg h
theorem tmod_emod {a b : Int} (h : 0 ≤ a) : Int.tmod a b = a % b := Int.tmod_eq_emod_of_nonneg h
end Go.Proofs.YtgjncgiekniniaaGreatDoor.A
end
section
set_option linter.unusedVariables false
set_option linter.unusedSimpArgs false
namespace Go.Proofs.YtgjncgiekniniaaGreatDoor.A
open Go
def toB (B n : Nat) : List Int := if h : 2 ≤ B ∧ 0 < n then ((n % B : Nat) : Int) :: toB B (n / B) else []
termination_by n
decreasing_by exact Nat.div_lt_self h.2 h.1
def valB (B : Nat) : List Int → Int
  | [] => 0
  | x :: l => x + B * valB B l
theorem toB_zero (B : Nat) : toB B 0 = [] := by unfold toB; rw [dif_neg]; omega
theorem toB_pos {B n : Nat} (hB : 2 ≤ B) (hn : 0 < n) : toB B n = ((n % B : Nat) : Int) :: toB B (n / B) := by
  rw [toB]; rw [dif_pos ⟨hB, hn⟩]
def inB (B : Nat) (l : List Int) : Prop := ∀ x ∈ l, 0 ≤ x ∧ x < B
theorem inB_cons {B : Nat} {x : Int} {l : List Int} : inB B (x :: l) ↔ (0 ≤ x ∧ x < B) ∧ inB B l := by simp [inB]
theorem inB_nil (B : Nat) : inB B [] := by simp [inB]
theorem inB_append {B : Nat} {l l' : List Int} : inB B (l ++ l') ↔ inB B l ∧ inB B l' := by
  simp only [inB, List.mem_append]
  exact ⟨fun h => ⟨fun x hx => h x (.inl hx), fun x hx => h x (.inr hx)⟩, fun h x hx => hx.elim (h.1 x) (h.2 x)⟩
theorem toB_in {B : Nat} (hB : 2 ≤ B) (n : Nat) : inB B (toB B n) := by
  induction n using Nat.strongRecOn with
  | _ n ih =>
    rcases Nat.eq_zero_or_pos n with rfl | hn
    · rw [toB_zero]; exact inB_nil B
    · rw [toB_pos hB hn, inB_cons]
      refine ⟨⟨by omega, ?_⟩, ih _ (Nat.div_lt_self hn hB)⟩
      exact_mod_cast Nat.mod_lt n (by omega)
theorem valB_toB {B : Nat} (hB : 2 ≤ B) (n : Nat) : valB B (toB B n) = n := by
  induction n using Nat.strongRecOn with
  | _ n ih =>
    rcases Nat.eq_zero_or_pos n with rfl | hn
    · rw [toB_zero]; rfl
    · rw [toB_pos hB hn, valB, ih _ (Nat.div_lt_self hn hB)]
      exact_mod_cast Nat.mod_add_div n B
theorem valB_nonneg {B : Nat} : ∀ {l : List Int}, inB B l → 0 ≤ valB B l
  | [], _ => Int.le_refl 0
  | x :: l, h => by
    rw [inB_cons] at h
    have := valB_nonneg h.2
    have := Int.mul_nonneg (Int.natCast_nonneg B) this
    unfold valB; omega
theorem valB_lt {B : Nat} (hB : 2 ≤ B) : ∀ {l : List Int}, inB B l → valB B l < (B ^ l.length : Nat)
  | [], _ => by simp [valB]
  | x :: l, h => by
    rw [inB_cons] at h
    have h1 := valB_lt hB h.2
    have h2 : (B : Int) * (valB B l + 1) ≤ B * (B ^ l.length : Nat) := Int.mul_le_mul_of_nonneg_left (by omega) (by omega)
    have h3 : (B : Int) * (valB B l + 1) = B * valB B l + B := by rw [Int.mul_add, Int.mul_one]
    have h4 : ((B ^ (x :: l).length : Nat) : Int) = B * (B ^ l.length : Nat) := by
      rw [List.length_cons, Nat.pow_succ, Nat.mul_comm]; exact_mod_cast rfl
    rw [h4]; unfold valB; omega
theorem valB_append (B : Nat) : ∀ (l l' : List Int), valB B (l ++ l') = valB B l + (B ^ l.length : Nat) * valB B l'
  | [], l' => by simp [valB]
  | x :: l, l' => by
    rw [List.cons_append, valB, valB, valB_append B l l', List.length_cons, Nat.pow_succ, Nat.mul_comm (B ^ l.length) B, Int.natCast_mul, Int.mul_add, Int.mul_assoc, Int.add_assoc]
theorem toB_of {B : Nat} (hB : 2 ≤ B) : ∀ {l : List Int}, inB B l → (∀ h : l ≠ [], l.getLast h ≠ 0) → l = toB B (valB B l).toNat
  | [], _, _ => by simp [valB, toB_zero]
  | x :: l, h, hl => by
    rw [inB_cons] at h
    have hn := valB_nonneg h.2
    have ih := toB_of hB h.2 fun hne => by have := hl (by simp); rwa [List.getLast_cons hne] at this
    have hpos : 0 < (valB B (x :: l)).toNat := by
      have hm := Int.mul_nonneg (Int.natCast_nonneg B) hn
      unfold valB
      by_cases hx : x = 0
      · have hne : l ≠ [] := fun e => by subst e; exact hl (by simp) (by simpa using hx)
        have : 0 < valB B l := by
          rcases Int.lt_or_eq_of_le hn with h0 | h0
          · exact h0
          · rw [← h0] at ih; simp [toB_zero] at ih; exact absurd ih hne
        have := Int.mul_pos (show (0 : Int) < B by omega) this
        omega
      · omega
    have e1 : (valB B (x :: l)).toNat = x.toNat + B * (valB B l).toNat := by
      have hv : valB B (x :: l) = x + B * valB B l := rfl
      rw [hv]
      have hm := Int.mul_nonneg (Int.natCast_nonneg B) hn
      have : ((B * (valB B l).toNat : Nat) : Int) = B * valB B l := by rw [Int.natCast_mul, Int.toNat_of_nonneg hn]
      omega
    have hx : x.toNat < B := by omega
    rw [toB_pos hB hpos, e1, Nat.add_mul_mod_self_left, Nat.mod_eq_of_lt hx, Nat.add_mul_div_left _ _ (by omega), Nat.div_eq_of_lt hx, Nat.zero_add, ← ih, Int.toNat_of_nonneg h.1.1]
theorem toB_last {B : Nat} (hB : 2 ≤ B) (n : Nat) : ∀ h : toB B n ≠ [], (toB B n).getLast h ≠ 0 := by
  induction n using Nat.strongRecOn with
  | _ n ih =>
    intro h
    rcases Nat.eq_zero_or_pos n with rfl | hn
    · exact absurd (toB_zero B) h
    · have e := toB_pos hB hn
      simp only [e]
      by_cases hq : toB B (n / B) = []
      · simp only [hq, List.getLast_singleton]
        have h0 : n / B = 0 := by
          rcases Nat.eq_zero_or_pos (n / B) with h0 | h0
          · exact h0
          · rw [toB_pos hB h0] at hq; simp at hq
        have : n < B := by
          rcases Nat.lt_or_ge n B with h1 | h1
          · exact h1
          · have := Nat.div_pos h1 (by omega); omega
        rw [Nat.mod_eq_of_lt this]; omega
      · rw [List.getLast_cons hq]
        exact ih _ (Nat.div_lt_self hn hB) hq
theorem toB_nil {B n : Nat} (hB : 2 ≤ B) : toB B n = [] ↔ n = 0 := by
  constructor
  · intro h
    rcases Nat.eq_zero_or_pos n with h0 | h0
    · exact h0
    · rw [toB_pos hB h0] at h; simp at h
  · rintro rfl; exact toB_zero B
theorem toB_len_lt {B n : Nat} (hB : 2 ≤ B) : n < B ^ (toB B n).length := by
  have := valB_lt hB (toB_in hB n)
  rw [valB_toB hB] at this
  exact_mod_cast this
theorem toB_len_le {B : Nat} (hB : 2 ≤ B) : ∀ {k n : Nat}, n < B ^ k → (toB B n).length ≤ k
  | 0, n, h => by have : n = 0 := by simpa using h
                  subst this; simp [toB_zero]
  | k + 1, n, h => by
    rcases Nat.eq_zero_or_pos n with rfl | hn
    · simp [toB_zero]
    · rw [toB_pos hB hn, List.length_cons]
      have : n / B < B ^ k := Nat.div_lt_of_lt_mul (by rw [Nat.pow_succ, Nat.mul_comm] at h; exact h)
      have := toB_len_le hB this
      omega
theorem toB_len_ge {B n : Nat} (hB : 2 ≤ B) (hn : 0 < n) : B ^ ((toB B n).length - 1) ≤ n := by
  rcases Nat.lt_or_ge n (B ^ ((toB B n).length - 1)) with h | h
  · have h1 := toB_len_le hB h
    have h2 : toB B n ≠ [] := fun e => by rw [toB_nil hB] at e; omega
    have := List.length_pos_iff.2 h2
    omega
  · exact h
end Go.Proofs.YtgjncgiekniniaaGreatDoor.A
end
section
set_option linter.unusedVariables false
set_option linter.unusedSimpArgs false
namespace Go.Proofs.YtgjncgiekniniaaGreatDoor.A
open Go
theorem bif_t {α : Type} {p : Prop} [Decidable p] {a b : α} (h : p) : (bif decide p then a else b) = a := by simp [h]
theorem bif_f {α : Type} {p : Prop} [Decidable p] {a b : α} (h : ¬ p) : (bif decide p then a else b) = b := by simp [h]
abbrev short {α : Type} (l : List α) : Prop := l.length ≤ 1000000000
abbrev dg (n : Nat) : List Int := toB 10000 n
theorem b4 : 2 ≤ 10000 := by decide
theorem valB_take_succ {B : Nat} {l : List Int} {n : Nat} (h : n < l.length) : valB B (l.take (n + 1)) = valB B (l.take n) + (B ^ n : Nat) * l[n] := by
  rw [List.take_succ_eq_append_getElem h, valB_append, List.length_take, Nat.min_eq_left (by omega)]
  simp [valB]
theorem getD_eq {l : List Int} {n : Nat} (h : n < l.length) : l.getD n 0 = l[n] := by simp [List.getD, h]
theorem ref01_Trim_gen {B : Nat} (hB : 2 ≤ B) {l : List Int} (hl : inB B l) (hs : short l) : z15.F l = some (toB B (valB B l).toNat) := by
  have key : ∀ n : Nat, n ≤ l.length → ∃ m : Nat, m ≤ n ∧ Runs (fun rec x => z15.l0b6P l rec some x) (n : Int) (m : Int) ∧ valB B (l.take m) = valB B (l.take n) ∧ (m = 0 ∨ l.getD (m - 1) 0 ≠ 0) := by
    intro n
    induction n with
    | zero => exact fun _ => ⟨0, Nat.le_refl 0, .done fun rec => by simp [z15.l0b6P], rfl, .inl rfl⟩
    | succ n ih =>
      intro hn
      have hs' : l.length ≤ 1000000000 := hs
      have e : wr .i64 (((n + 1 : Nat) : Int) - 1) = (n : Int) := by rw [wr_i64] <;> omega
      have e0 : ((n + 1 : Nat) : Int) > 0 := by omega
      have e1 : (0 : Int) ≤ (n : Int) ∧ (n : Int) < (l.length : Int) := by omega
      by_cases hz : l.getD n 0 = 0
      · obtain ⟨m, h1, h2, h3, h4⟩ := ih (by omega)
        refine ⟨m, by omega, .step (fun rec => ?_) h2, ?_, h4⟩
        · unfold z15.l0b6P
          rw [bif_t e0, e, if_pos e1, Int.toNat_natCast, bif_t hz]
        · rw [h3, valB_take_succ (show n < l.length by omega), ← getD_eq, hz]; simp
      · refine ⟨n + 1, Nat.le_refl _, .done fun rec => ?_, rfl, .inr (by simpa using hz)⟩
        unfold z15.l0b6P
        rw [bif_t e0, e, if_pos e1, Int.toNat_natCast, bif_f hz]
  obtain ⟨m, h1, h2, h3, h4⟩ := key l.length (Nat.le_refl _)
  unfold z15.F z15.l0b6
  rw [h2.lfp]
  simp only [Option.bind_some]
  rw [if_pos (by omega), Int.toNat_natCast]
  rw [List.take_length] at h3
  rw [← h3]
  congr 1
  apply toB_of hB (fun x hx => hl x (List.mem_of_mem_take hx))
  intro hne
  rcases h4 with rfl | h4
  · simp at hne
  · rw [List.getLast_eq_getElem]
    have hm : 0 < m := by
      rcases Nat.eq_zero_or_pos m with h0 | h0
      · subst h0; simp at hne
      · exact h0
    rw [getD_eq (by omega)] at h4
    simp only [List.length_take, List.getElem_take]
    have : min m l.length - 1 = m - 1 := by omega
    simp only [this]
    exact h4
theorem ref01_Trim {l : List Int} (hl : inB 10000 l) (hs : short l) : z15.F l = some (dg (valB 10000 l).toNat) := ref01_Trim_gen b4 hl hs
theorem ref01_at {l : List Int} {i : Nat} : z14.F l (i : Int) = some (l.getD i 0) := by
  unfold z14.F
  by_cases h : (i : Int) ≥ (l.length : Int)
  · rw [bif_t h]
    have : l.getD i 0 = 0 := by simp [List.getD, List.getElem?_eq_none (show l.length ≤ i by omega)]
    rw [this]
  · rw [bif_f h, if_pos (by omega), Int.toNat_natCast]
theorem ref01_Small {n : Nat} (hn : n < 9223372036854775808) : z9.F (n : Int) = some (dg n) := by
  have key : ∀ (n : Nat), n < 9223372036854775808 → ∀ s : List Int, short s → (s.length + (dg n).length ≤ 1000000000) → Runs (fun rec x => z9.l0P rec some x) ((n : Int), s) ((0 : Int), s ++ dg n) := by
    intro n
    induction n using Nat.strongRecOn with
    | _ n ih =>
      intro hn s hs hl
      rcases Nat.eq_zero_or_pos n with rfl | h0
      · refine .done fun rec => ?_
        simp [z9.l0P, toB_zero]
      · have e : dg n = ((n % 10000 : Nat) : Int) :: dg (n / 10000) := toB_pos b4 h0
        have hd : n / 10000 < n := Nat.div_lt_self h0 (by decide)
        rw [e] at hl ⊢
        have h2 := ih (n / 10000) hd (by omega) (s ++ [((n % 10000 : Nat) : Int)]) (by simp at *; omega) (by simp at *; omega)
        rw [List.append_assoc, List.singleton_append] at h2
        refine .step (fun rec => ?_) h2
        unfold z9.l0P
        simp only
        have e1 : Int.tmod (n : Int) 10000 = ((n % 10000 : Nat) : Int) := by rw [tmod_emod (by omega)]; rfl
        have e2 : wr .i64 (Int.tdiv (n : Int) 10000) = ((n / 10000 : Nat) : Int) := by rw [tdiv_ediv (by omega), wr_i64 (by omega) (by omega)]; rfl
        rw [bif_t (by omega), if_pos (by simp at *; omega), e1, e2]
  unfold z9.F z9.l0
  have hl : (dg n).length ≤ 5 := toB_len_le b4 (by omega)
  rw [(key n hn [] (by simp) (by simp; omega)).lfp]
  simp
end Go.Proofs.YtgjncgiekniniaaGreatDoor.A
end
section
set_option linter.unusedVariables false
set_option linter.unusedSimpArgs false
namespace Go.Proofs.YtgjncgiekniniaaGreatDoor.A
open Go
def ch (d : Int) : UInt8 := UInt8.ofNat (48 + d.toNat)
def txt (n : Nat) : List UInt8 := if n = 0 then [48] else (toB 10 n).reverse.map ch
theorem b10 : 2 ≤ 10 := by decide
theorem ch_toNat {d : Int} (h0 : 0 ≤ d) (h : d < 10) : (ch d).toNat = 48 + d.toNat := by
  unfold ch; rw [UInt8.toNat_ofNat']; omega
def dig4 (d : Int) : List Int := [d % 10, d / 10 % 10, d / 100 % 10, d / 1000 % 10]
theorem dig4_in {d : Int} (h0 : 0 ≤ d) : inB 10 (dig4 d) := by
  intro x hx; simp [dig4] at hx; rcases hx with rfl | rfl | rfl | rfl <;> omega
theorem dig4_val {d : Int} (h0 : 0 ≤ d) (h : d < 10000) : valB 10 (dig4 d) = d := by simp [dig4, valB]; omega
theorem flat_in : ∀ {l : List Int}, inB 10000 l → inB 10 (l.flatMap dig4)
  | [], _ => inB_nil 10
  | x :: l, h => by rw [inB_cons] at h; rw [List.flatMap_cons, inB_append]; exact ⟨dig4_in h.1.1, flat_in h.2⟩
theorem flat_val : ∀ {l : List Int}, inB 10000 l → valB 10 (l.flatMap dig4) = valB 10000 l
  | [], _ => rfl
  | x :: l, h => by
    rw [inB_cons] at h
    rw [List.flatMap_cons, valB_append, dig4_val h.1.1 h.1.2, flat_val h.2]
    simp [dig4, valB]
theorem flat_len : ∀ (l : List Int), (l.flatMap dig4).length = 4 * l.length
  | [] => rfl
  | x :: l => by rw [List.flatMap_cons, List.length_append, flat_len l]; simp [dig4]; omega
theorem print_l2 (s : List UInt8) (hs : short s) (d : Int) (h0 : 0 ≤ d) (hd : d < 10000) : ∃ d', z6.l2 (s, d, (0 : Int)) = some (((dig4 d).reverse.map ch) ++ s, d', 4) := by
  have hs' : s.length ≤ 1000000000 := hs
  have one : ∀ (s : List UInt8) (d : Int) (k : Nat), s.length ≤ 1000000004 → 0 ≤ d → d < 10000 → k < 4 → ∀ rec, z6.l2P rec some (s, d, (k : Int)) = rec (ch (d % 10) :: s, d / 10, ((k + 1 : Nat) : Int)) := by
    intro s d k hs h0 hd hk rec
    unfold z6.l2P
    simp only
    rw [bif_t (by omega), if_pos (by simp; omega), tmod_emod h0, tdiv_ediv h0, wr_i64 (n := 48 + d % 10) (by omega) (by omega), wr_u8 (by omega) (by omega), wr_i64 (n := d / 10) (by omega) (by omega), wr_i64 (by omega) (by omega)]
    have : (48 + d % 10).toNat = 48 + (d % 10).toNat := by omega
    simp [ch, this]
  refine ⟨d / 10 / 10 / 10 / 10, ?_⟩
  unfold z6.l2
  refine Runs.lfp (.step (one s d 0 (by omega) h0 hd (by decide)) (.step (one _ (d / 10) 1 (by simp; omega) (by omega) (by omega) (by decide)) (.step (one _ (d / 10 / 10) 2 (by simp; omega) (by omega) (by omega) (by decide)) (.step (one _ (d / 10 / 10 / 10) 3 (by simp; omega) (by omega) (by omega) (by decide)) (.done fun rec => ?_)))))
  unfold z6.l2P
  simp only
  rw [bif_f (by omega)]
  have e1 : d / 10 / 10 = d / 100 := by omega
  have e2 : d / 10 / 10 / 10 = d / 1000 := by omega
  simp [dig4, e1, show d / 100 / 10 = d / 1000 by omega]
theorem print_l0 {l : List Int} (hl : inB 10000 l) (hs : 4 * l.length ≤ 1000000000) : z6.l0 l ([], (0 : Int)) = some ((l.flatMap dig4).reverse.map ch, (l.length : Int)) := by
  have key : ∀ (k : Nat), k ≤ l.length → Runs (fun rec x => z6.l0P l rec some x) (((l.take (l.length - k)).flatMap dig4).reverse.map ch, ((l.length - k : Nat) : Int)) ((l.flatMap dig4).reverse.map ch, (l.length : Int)) := by
    intro k
    induction k with
    | zero =>
      intro _
      refine .done fun rec => ?_
      unfold z6.l0P
      simp
    | succ k ih =>
      intro hk
      have hi : l.length - (k + 1) < l.length := by omega
      have hm := hl l[l.length - (k + 1)] (List.getElem_mem hi)
      obtain ⟨d', h2⟩ := print_l2 (((l.take (l.length - (k + 1))).flatMap dig4).reverse.map ch) (by
        show List.length _ ≤ _; rw [List.length_map, List.length_reverse, flat_len, List.length_take]; omega) _ hm.1 hm.2
      refine .step (fun rec => ?_) (ih (by omega))
      unfold z6.l0P
      simp only
      rw [bif_t (by omega), if_pos (by omega), Int.toNat_natCast, getD_eq hi, h2]
      simp only [Option.bind_some]
      rw [wr_i64 (by omega) (by omega)]
      have e : l.take (l.length - k) = l.take (l.length - (k + 1)) ++ [l[l.length - (k + 1)]] := by
        rw [← List.take_succ_eq_append_getElem hi]; congr 1; omega
      have e2 : ((l.length - (k + 1) : Nat) : Int) + 1 = ((l.length - k : Nat) : Int) := by omega
      rw [e, e2, List.flatMap_append]
      simp only [List.flatMap_cons, List.flatMap_nil, List.append_nil, List.reverse_append, List.map_append]
  have := key l.length (Nat.le_refl _)
  simp only [Nat.sub_self, List.take_zero, List.flatMap_nil, List.reverse_nil, List.map_nil] at this
  exact this.lfp
theorem ch_48 {d : Int} (h0 : 0 ≤ d) (h : d < 10) : ((ch d).toNat : Int) = 48 ↔ d = 0 := by rw [ch_toNat h0 h]; omega
theorem ref01_Print {n : Nat} (hs : 4 * (dg n).length ≤ 1000000000) : z6.F (dg n) = some (txt n) := by
  unfold z6.F txt
  by_cases hn : n = 0
  · subst hn; simp [dg, toB_zero]
  · have hne : dg n ≠ [] := fun e => hn ((toB_nil b4).1 e)
    have hlen := List.length_pos_iff.2 hne
    rw [bif_f (by omega), if_neg hn, print_l0 (toB_in b4 n) hs]
    simp only [Option.bind_some]
    generalize hfl : (dg n).flatMap dig4 = fl
    have hin : inB 10 fl := by rw [← hfl]; exact flat_in (toB_in b4 n)
    have hv : valB 10 fl = n := by rw [← hfl, flat_val (toB_in b4 n), valB_toB b4]
    have hl : fl.length ≤ 1000000000 := by rw [← hfl, flat_len]; exact hs
    have key : ∀ k : Nat, k ≤ fl.length → valB 10 (fl.take k) = n → ∃ m : Nat, m ≤ k ∧ Runs (fun rec x => z6.l4P (fl.reverse.map ch) rec some x) ((fl.length - k : Nat) : Int) ((fl.length - m : Nat) : Int) ∧ valB 10 (fl.take m) = n ∧ (m = 0 ∨ fl.getD (m - 1) 0 ≠ 0) := by
      intro k
      induction k with
      | zero => intro _ h; simp [valB] at h; omega
      | succ k ih =>
        intro hk h
        have hi : fl.length - (k + 1) < (fl.reverse.map ch).length := by simp; omega
        have hk' : k < fl.length := by omega
        have hm := hin fl[k] (List.getElem_mem hk')
        have eg : (fl.reverse.map ch).getD (fl.length - (k + 1)) 0 = ch fl[k] := by
          have e0 : fl.length - 1 - (fl.length - (k + 1)) = k := by omega
          simp only [List.getD, List.getElem?_eq_getElem hi, Option.getD_some, List.getElem_map, List.getElem_reverse, e0]
        by_cases hz : fl[k] = 0
        · obtain ⟨m, h1, h2, h3, h4⟩ := ih (by omega) (by rw [valB_take_succ hk', hz] at h; simpa using h)
          refine ⟨m, by omega, .step (fun rec => ?_) h2, h3, h4⟩
          unfold z6.l4P
          rw [if_pos (by simp; omega), Int.toNat_natCast, eg, bif_t ((ch_48 hm.1 hm.2).2 hz), wr_i64 (by omega) (by omega)]
          congr 1; omega
        · refine ⟨k + 1, Nat.le_refl _, .done fun rec => ?_, h, .inr (by rw [Nat.add_sub_cancel, getD_eq hk']; exact hz)⟩
          unfold z6.l4P
          rw [if_pos (by simp; omega), Int.toNat_natCast, eg, bif_f (fun e => hz ((ch_48 hm.1 hm.2).1 e))]
    obtain ⟨m, h1, h2, h3, h4⟩ := key fl.length (Nat.le_refl _) (by rw [List.take_length]; exact hv)
    rw [Nat.sub_self] at h2
    unfold z6.l4
    rw [show (0 : Int) = ((0 : Nat) : Int) from rfl, h2.lfp]
    simp only [Option.bind_some]
    rw [if_pos (by rw [List.length_map, List.length_reverse]; omega), Int.toNat_natCast]
    have hm : m ≠ 0 := by rintro rfl; simp [valB] at h3; omega
    have e : fl.take m = toB 10 n := by
      have := toB_of b10 (l := fl.take m) (fun x hx => hin x (List.mem_of_mem_take hx)) fun hne => by
        rcases h4 with h4 | h4
        · exact absurd h4 hm
        · rw [List.getLast_eq_getElem]
          rw [getD_eq (by omega)] at h4
          simp only [List.length_take, List.getElem_take]
          have : min m fl.length - 1 = m - 1 := by omega
          simp only [this]; exact h4
      rwa [h3, Int.toNat_natCast] at this
    rw [← e, ← List.map_drop, List.reverse_take]
end Go.Proofs.YtgjncgiekniniaaGreatDoor.A
end
section
set_option linter.unusedVariables false
set_option linter.unusedSimpArgs false
namespace Go.Proofs.YtgjncgiekniniaaGreatDoor.A
open Go
theorem valB_set {B : Nat} : ∀ {l : List Int} {j : Nat} {x : Int}, j < l.length → valB B (l.set j x) = valB B l + (x - l.getD j 0) * (B ^ j : Nat)
  | y :: l, 0, x, _ => by simp [valB]; omega
  | y :: l, j + 1, x, h => by
    have := valB_set (B := B) (l := l) (j := j) (x := x) (by simpa using h)
    rw [List.set_cons_succ, valB, valB, this, List.getD_cons_succ, Nat.pow_succ, Nat.mul_comm (B ^ j) B, Int.natCast_mul, Int.mul_add, Int.add_assoc]
    congr 2
    rw [Int.mul_left_comm]
theorem inB_set {B : Nat} {l : List Int} {j : Nat} {x : Int} (h : inB B l) (hx : 0 ≤ x ∧ x < B) : inB B (l.set j x) := fun y hy => by
  rcases List.mem_or_eq_of_mem_set hy with h1 | rfl
  · exact h y h1
  · exact hx
theorem valB_drop {B : Nat} : ∀ (l : List Int) (k : Nat), valB B (l.drop k) = l.getD k 0 + B * valB B (l.drop (k + 1))
  | [], k => by simp [valB]
  | x :: l, 0 => by simp [valB]
  | x :: l, k + 1 => by rw [List.drop_succ_cons, List.drop_succ_cons, List.getD_cons_succ]; exact valB_drop l k
theorem getD_in {B : Nat} (hB : 0 < B) {l : List Int} (h : inB B l) (k : Nat) : 0 ≤ l.getD k 0 ∧ l.getD k 0 < B := by
  by_cases hk : k < l.length
  · rw [getD_eq hk]; exact h _ (List.getElem_mem hk)
  · simp [List.getD, List.getElem?_eq_none (show l.length ≤ k by omega)]; omega
theorem inB_drop {B : Nat} {l : List Int} (h : inB B l) (k : Nat) : inB B (l.drop k) := fun x hx => h x (List.mem_of_mem_drop hx)
theorem inB_take {B : Nat} {l : List Int} (h : inB B l) (k : Nat) : inB B (l.take k) := fun x hx => h x (List.mem_of_mem_take hx)
theorem mul_round {a b s : List Int} {i k : Nat} {c : Int} (ha : inB 10000 a) (hb : inB 10000 b) (hs : inB 10000 s) (hi : i < a.length) (hk : i + k < s.length) (hsl : s.length ≤ 4000000000) (hc : 0 ≤ c ∧ c < 10000) (hgo : k < b.length ∨ 0 < c)
    (rec : Int × Int × List Int → Option (Int × Int × List Int)) :
    z16.l2aaP a b (i : Int) rec some (c, (k : Int), s) =
      rec ((s.getD (i + k) 0 + a.getD i 0 * b.getD k 0 + c) / 10000, ((k + 1 : Nat) : Int), s.set (i + k) ((s.getD (i + k) 0 + a.getD i 0 * b.getD k 0 + c) % 10000)) := by
  have h1 := getD_in (by decide) ha i
  have h2 := getD_in (by decide) hb k
  have h3 := getD_in (by decide) hs (i + k)
  have h4 : 0 ≤ a.getD i 0 * b.getD k 0 := Int.mul_nonneg h1.1 h2.1
  have h5 : a.getD i 0 * b.getD k 0 ≤ 9999 * 9999 := Int.mul_le_mul (by omega) (by omega) h2.1 (by decide)
  have e1 : wr .i64 ((i : Int) + k) = ((i + k : Nat) : Int) := by rw [wr_i64 (by omega) (by omega)]; omega
  have e2 : wr .i64 (a.getD i 0 * b.getD k 0) = a.getD i 0 * b.getD k 0 := wr_i64 (by omega) (by omega)
  have e3 : wr .i64 (s.getD (i + k) 0 + a.getD i 0 * b.getD k 0) = s.getD (i + k) 0 + a.getD i 0 * b.getD k 0 := wr_i64 (by omega) (by omega)
  have e4 : wr .i64 (s.getD (i + k) 0 + a.getD i 0 * b.getD k 0 + c) = s.getD (i + k) 0 + a.getD i 0 * b.getD k 0 + c := wr_i64 (by omega) (by omega)
  have e5 : wr .i64 ((k : Int) + 1) = ((k + 1 : Nat) : Int) := by rw [wr_i64 (by omega) (by omega)]; omega
  unfold z16.l2aaP
  simp only [ref01_at, Option.bind_some, e1, Int.toNat_natCast, e2, e3, e4, e5]
  rw [tdiv_ediv (by omega), tmod_emod (by omega), wr_i64 (n := (_ : Int) / 10000) (by omega) (by omega)]
  have c1 : (0 : Int) ≤ ((i + k : Nat) : Int) ∧ ((i + k : Nat) : Int) < (s.length : Int) := by omega
  have c2 : (0 : Int) ≤ (i : Int) ∧ (i : Int) < (a.length : Int) := by omega
  simp only [if_pos c1, if_pos hk, if_pos c2]
  by_cases hkb : (k : Int) < (b.length : Int)
  · rw [bif_t hkb]
  · rw [bif_f hkb, bif_t (show c > 0 by omega)]
theorem mul_inner {a b : List Int} {i : Nat} {T : Int} (ha : inB 10000 a) (hb : inB 10000 b) (hi : i < a.length) (hT : T < (10000 ^ (i + 1 + b.length) : Nat)) :
    ∀ (f k : Nat) (c : Int) (s : List Int), inB 10000 s → i + 1 + b.length < s.length → s.length ≤ 4000000000 → 0 ≤ c ∧ c < 10000 → b.length + 2 ≤ k + f →
      valB 10000 s + (c + a.getD i 0 * valB 10000 (b.drop k)) * (10000 ^ (i + k) : Nat) = T →
      ∃ k' s', Runs (fun rec x => z16.l2aaP a b (i : Int) rec some x) (c, (k : Int), s) ((0 : Int), k', s') ∧ inB 10000 s' ∧ s'.length = s.length ∧ valB 10000 s' = T
  | f, k, c, s, hs, hl, hl', hc, hf, hv => by
    have hbd := valB_nonneg (inB_drop hb k)
    have h1 := getD_in (B := 10000) (by decide) ha i
    have hsv := valB_nonneg hs
    have hab := Int.mul_nonneg h1.1 hbd
    by_cases hgo : k < b.length ∨ 0 < c
    · have hk : k ≤ b.length := by
        rcases hgo with h | h
        · omega
        · rcases Nat.lt_or_ge b.length k with hlt | hge
          · exfalso
            have h2 : (10000 ^ (i + 1 + b.length) : Nat) ≤ 10000 ^ (i + k) := Nat.pow_le_pow_right (by decide) (by omega)
            have h3 : (1 : Int) * (10000 ^ (i + k) : Nat) ≤ (c + a.getD i 0 * valB 10000 (b.drop k)) * (10000 ^ (i + k) : Nat) := Int.mul_le_mul_of_nonneg_right (by omega) (Int.natCast_nonneg _)
            have h4 : ((10000 ^ (i + 1 + b.length) : Nat) : Int) ≤ (10000 ^ (i + k) : Nat) := by exact_mod_cast h2
            omega
          · exact hge
      match f, hf with
      | 0, hf => omega
      | f + 1, hf =>
        have h2 := getD_in (B := 10000) (by decide) hb k
        have h3 := getD_in (B := 10000) (by decide) hs (i + k)
        have h4 : 0 ≤ a.getD i 0 * b.getD k 0 := Int.mul_nonneg h1.1 h2.1
        have h5 : a.getD i 0 * b.getD k 0 ≤ 9999 * 9999 := Int.mul_le_mul (by omega) (by omega) h2.1 (by decide)
        obtain ⟨k', s', r1, r2, r3, r4⟩ := mul_inner ha hb hi hT f (k + 1) ((s.getD (i + k) 0 + a.getD i 0 * b.getD k 0 + c) / 10000) (s.set (i + k) ((s.getD (i + k) 0 + a.getD i 0 * b.getD k 0 + c) % 10000))
          (inB_set hs (by omega)) (by rw [List.length_set]; exact hl) (by rw [List.length_set]; exact hl') (by omega) (by omega) (by
            rw [valB_set (by omega), ← hv, valB_drop b k]
            generalize hx : s.getD (i + k) 0 + a.getD i 0 * b.getD k 0 + c = x
            have e1 : (10000 ^ (i + (k + 1)) : Nat) = 10000 * 10000 ^ (i + k) := by rw [← Nat.add_assoc, Nat.pow_succ, Nat.mul_comm]
            rw [e1, Int.natCast_mul]
            have e2 : x = 10000 * (x / 10000) + x % 10000 := (Int.mul_ediv_add_emod x 10000).symm
            generalize x / 10000 = q at *
            generalize x % 10000 = m at *
            subst e2
            generalize ((10000 ^ (i + k) : Nat) : Int) = p
            generalize valB 10000 (b.drop (k + 1)) = w
            generalize a.getD i 0 = u at *
            generalize b.getD k 0 = v at *
            generalize s.getD (i + k) 0 = z at *
            have hc' : c = 10000 * q + m - z - u * v := by omega
            subst hc'
            grind)
        refine ⟨k', s', .step (fun rec => mul_round ha hb hs hi (by omega) hl' hc hgo rec) r1, r2, by rw [r3, List.length_set], r4⟩
    · have hc0 : c = 0 := by omega
      have hkb : b.length ≤ k := by omega
      subst hc0
      refine ⟨k, s, .done fun rec => ?_, hs, rfl, ?_⟩
      · unfold z16.l2aaP
        simp only
        rw [bif_f (by omega), bif_f (by omega)]
      · rw [List.drop_eq_nil_of_le hkb] at hv
        simpa [valB] using hv
theorem mul_outer {a b : List Int} (ha : inB 10000 a) (hb : inB 10000 b) (hal : a.length + b.length ≤ 3000000000) :
    ∀ (f i : Nat) (s : List Int), i + f = a.length → inB 10000 s → s.length = a.length + b.length + 1 → valB 10000 s = valB 10000 (a.take i) * valB 10000 b →
      ∃ s', Runs (fun rec x => z16.l0P a b rec some x) ((i : Int), s) ((a.length : Int), s') ∧ inB 10000 s' ∧ s'.length = s.length ∧ valB 10000 s' = valB 10000 a * valB 10000 b
  | 0, i, s, hf, hs, hl, hv => by
    have : i = a.length := by omega
    subst this
    refine ⟨s, .done fun rec => ?_, hs, rfl, by rwa [List.take_length] at hv⟩
    unfold z16.l0P
    simp
  | f + 1, i, s, hf, hs, hl, hv => by
    have hi : i < a.length := by omega
    have hT : valB 10000 (a.take (i + 1)) * valB 10000 b < (10000 ^ (i + 1 + b.length) : Nat) := by
      have h1 := valB_lt b4 (inB_take ha (i + 1))
      have h2 := valB_lt b4 hb
      have h3 := valB_nonneg (inB_take ha (i + 1))
      have h4 := valB_nonneg hb
      rw [List.length_take, Nat.min_eq_left (by omega)] at h1
      rw [Nat.pow_add, Int.natCast_mul]
      rcases Int.lt_or_eq_of_le h4 with h0 | h0
      · exact Int.mul_lt_mul h1 (Int.le_of_lt h2) h0 (by omega)
      · rw [← h0, Int.mul_zero]; exact Int.mul_pos (by omega) (by omega)
    obtain ⟨k', s', r1, r2, r3, r4⟩ := mul_inner ha hb hi hT (b.length + 2) 0 0 s hs (by omega) (by omega) (by omega) (by omega) (by
      rw [hv, valB_take_succ hi, List.drop_zero, Int.zero_add, Nat.add_zero, getD_eq hi]; grind)
    obtain ⟨s2, q1, q2, q3, q4⟩ := mul_outer ha hb hal f (i + 1) s' (by omega) r2 (by omega) r4
    refine ⟨s2, .step (fun rec => ?_) q1, q2, by omega, q4⟩
    have e : z16.l2aa a b (i : Int) ((0 : Int), (0 : Int), s) = some ((0 : Int), k', s') := r1.lfp
    unfold z16.l0P
    simp only
    rw [bif_t (by omega), e]
    simp only [Option.bind_some]
    rw [wr_i64 (by omega) (by omega)]
    rfl
theorem valB_replicate (B : Nat) : ∀ n : Nat, valB B (List.replicate n (0 : Int)) = 0
  | 0 => rfl
  | n + 1 => by rw [List.replicate_succ, valB, valB_replicate B n]; simp
theorem inB_replicate {B : Nat} (hB : 0 < B) (n : Nat) : inB B (List.replicate n (0 : Int)) := fun x hx => by
  rw [List.mem_replicate] at hx; rw [hx.2]; omega
theorem ref01_Mul_gen {a b : List Int} (ha : inB 10000 a) (hb : inB 10000 b) (hal : a.length + b.length ≤ 900000000) : z16.F a b = some (dg (valB 10000 a * valB 10000 b).toNat) := by
  unfold z16.F z16.l0
  have e : wr .i64 (wr .i64 ((a.length : Int) + (b.length : Int)) + 1) = ((a.length + b.length + 1 : Nat) : Int) := by
    rw [wr_i64 (n := (a.length : Int) + b.length) (by omega) (by omega), wr_i64 (by omega) (by omega)]; omega
  rw [e, if_pos (by omega), Int.toNat_natCast]
  obtain ⟨s', r1, r2, r3, r4⟩ := mul_outer ha hb (by omega) a.length 0 (List.replicate (a.length + b.length + 1) 0) (by omega) (inB_replicate (by decide) _) (by simp) (by rw [valB_replicate]; simp [valB])
  rw [show ((0 : Int), List.replicate (a.length + b.length + 1) (0 : Int)) = (((0 : Nat) : Int), List.replicate (a.length + b.length + 1) (0 : Int)) from rfl, r1.lfp]
  simp only [Option.bind_some]
  rw [ref01_Trim r2 (by show List.length _ ≤ _; rw [r3]; simp; omega), r4]
  rfl
theorem ref01_Mul {m n : Nat} (hl : (dg m).length + (dg n).length ≤ 900000000) : z16.F (dg m) (dg n) = some (dg (m * n)) := by
  rw [ref01_Mul_gen (toB_in b4 m) (toB_in b4 n) hl, valB_toB b4, valB_toB b4]
  congr 2
end Go.Proofs.YtgjncgiekniniaaGreatDoor.A
end
section
set_option linter.unusedVariables false
set_option linter.unusedSimpArgs false
namespace Go.Proofs.YtgjncgiekniniaaGreatDoor.A
open Go
theorem valB_snoc (B : Nat) (l : List Int) (x : Int) : valB B (l ++ [x]) = valB B l + (B ^ l.length : Nat) * x := by
  rw [valB_append]; simp [valB]
theorem inB_snoc {B : Nat} {l : List Int} {x : Int} (h : inB B l) (hx : 0 ≤ x ∧ x < B) : inB B (l ++ [x]) := inB_append.2 ⟨h, inB_cons.2 ⟨hx, inB_nil B⟩⟩
theorem add_round {a b s : List Int} {i : Nat} {c : Int} (ha : inB 10000 a) (hb : inB 10000 b) (hsl : s.length ≤ 4000000000) (hil : i ≤ 4000000000) (hc : 0 ≤ c ∧ c < 10000) (hgo : i < a.length ∨ i < b.length ∨ 0 < c)
    (rec : Int × Int × List Int → Option (Int × Int × List Int)) :
    z99.l0b6P a b rec some (c, (i : Int), s) = rec ((a.getD i 0 + b.getD i 0 + c) / 10000, ((i + 1 : Nat) : Int), s ++ [(a.getD i 0 + b.getD i 0 + c) % 10000]) := by
  have h1 := getD_in (B := 10000) (by decide) ha i
  have h2 := getD_in (B := 10000) (by decide) hb i
  have e1 : wr .i64 (a.getD i 0 + b.getD i 0) = a.getD i 0 + b.getD i 0 := wr_i64 (by omega) (by omega)
  have e2 : wr .i64 (a.getD i 0 + b.getD i 0 + c) = a.getD i 0 + b.getD i 0 + c := wr_i64 (by omega) (by omega)
  have e3 : wr .i64 ((i : Int) + 1) = ((i + 1 : Nat) : Int) := by rw [wr_i64 (by omega) (by omega)]; omega
  unfold z99.l0b6P
  simp only [ref01_at, Option.bind_some, e1, e2, e3]
  rw [tdiv_ediv (by omega), tmod_emod (by omega), wr_i64 (n := (_ : Int) / 10000) (by omega) (by omega)]
  have c1 : ∀ x : Int, (s.length + [x].length) * 8 ≤ 140737488355328 := fun x => by simp; omega
  simp only [if_pos (c1 _)]
  by_cases h3 : (i : Int) < (a.length : Int)
  · rw [bif_t h3]
  · rw [bif_f h3]
    by_cases h4 : (i : Int) < (b.length : Int)
    · rw [bif_t h4]
    · rw [bif_f h4, bif_t (show c > 0 by omega)]
theorem add_loop {a b : List Int} (ha : inB 10000 a) (hb : inB 10000 b) (hal : a.length + b.length ≤ 900000000) :
    ∀ (f i : Nat) (c : Int) (s : List Int), a.length + b.length + 1 ≤ i + f → i ≤ a.length + b.length + 1 → s.length = i → inB 10000 s → 0 ≤ c ∧ c ≤ 1 → (i = a.length + b.length + 1 → c = 0) →
      valB 10000 s + (c + valB 10000 (a.drop i) + valB 10000 (b.drop i)) * (10000 ^ i : Nat) = valB 10000 a + valB 10000 b →
      ∃ i' s', Runs (fun rec x => z99.l0b6P a b rec some x) (c, (i : Int), s) ((0 : Int), i', s') ∧ inB 10000 s' ∧ s'.length ≤ a.length + b.length + 1 ∧ valB 10000 s' = valB 10000 a + valB 10000 b
  | f, i, c, s, hf, hi, hl, hs, hc, he, hv => by
    by_cases hgo : i < a.length ∨ i < b.length ∨ 0 < c
    · match f, hf with
      | 0, hf =>
        have : i = a.length + b.length + 1 := by omega
        have := he this
        omega
      | f + 1, hf =>
        have hi' : i < a.length + b.length + 1 := by
          rcases Nat.lt_or_ge i (a.length + b.length + 1) with h | h
          · exact h
          · have := he (by omega); omega
        have h1 := getD_in (B := 10000) (by decide) ha i
        have h2 := getD_in (B := 10000) (by decide) hb i
        obtain ⟨i', s', r1, r2, r3, r4⟩ := add_loop ha hb hal f (i + 1) ((a.getD i 0 + b.getD i 0 + c) / 10000) (s ++ [(a.getD i 0 + b.getD i 0 + c) % 10000]) (by omega) (by omega) (by simp [hl]) (inB_snoc hs (by omega)) (by omega)
          (fun e => by
            have h3 : a.getD i 0 = 0 ∨ b.getD i 0 = 0 := by
              by_cases ha' : i < a.length
              · right; simp [List.getD, List.getElem?_eq_none (show b.length ≤ i by omega)]
              · left; simp [List.getD, List.getElem?_eq_none (show a.length ≤ i by omega)]
            have h5 : a.getD i 0 = 0 := by
              by_cases ha' : i < a.length
              · have : b.length = 0 := by omega
                exfalso
                have h6 : i = a.length + b.length := by omega
                omega
              · simp [List.getD, List.getElem?_eq_none (show a.length ≤ i by omega)]
            have h6 : b.getD i 0 = 0 := by simp [List.getD, List.getElem?_eq_none (show b.length ≤ i by omega)]
            omega)
          (by
            rw [valB_snoc, ← hv, valB_drop a i, valB_drop b i, hl, Nat.pow_succ, Nat.mul_comm (10000 ^ i) 10000, Int.natCast_mul]
            generalize hx : a.getD i 0 + b.getD i 0 + c = x
            have e2 : x = 10000 * (x / 10000) + x % 10000 := (Int.mul_ediv_add_emod x 10000).symm
            generalize x / 10000 = q at *
            generalize x % 10000 = m at *
            subst e2
            generalize ((10000 ^ i : Nat) : Int) = p
            generalize valB 10000 (a.drop (i + 1)) = w
            generalize valB 10000 (b.drop (i + 1)) = w'
            generalize a.getD i 0 = u at *
            generalize b.getD i 0 = v at *
            have hc' : c = 10000 * q + m - u - v := by omega
            subst hc'
            grind)
        exact ⟨i', s', .step (fun rec => add_round ha hb (by omega) (by omega) (by omega) hgo rec) r1, r2, r3, r4⟩
    · have hc0 : c = 0 := by omega
      subst hc0
      refine ⟨i, s, .done fun rec => ?_, hs, by omega, ?_⟩
      · unfold z99.l0b6P
        simp only
        rw [bif_f (by omega), bif_f (by omega), bif_f (by omega)]
      · rw [List.drop_eq_nil_of_le (by omega), List.drop_eq_nil_of_le (by omega)] at hv
        simpa [valB] using hv
theorem ref01_Add_gen {a b : List Int} (ha : inB 10000 a) (hb : inB 10000 b) (hal : a.length + b.length ≤ 900000000) : z99.F a b = some (dg (valB 10000 a + valB 10000 b).toNat) := by
  obtain ⟨i', s', r1, r2, r3, r4⟩ := add_loop ha hb hal (a.length + b.length + 1) 0 0 [] (by omega) (by omega) rfl (inB_nil _) (by omega) (by omega) (by simp [valB])
  have e : z99.l0b6 a b ((0 : Int), (0 : Int), []) = some ((0 : Int), i', s') := r1.lfp
  unfold z99.F
  rw [e]
  simp only [Option.bind_some]
  rw [ref01_Trim r2 (by show List.length _ ≤ _; omega), r4]
  rfl
theorem ref01_Add {m n : Nat} (hl : (dg m).length + (dg n).length ≤ 900000000) : z99.F (dg m) (dg n) = some (dg (m + n)) := by
  rw [ref01_Add_gen (toB_in b4 m) (toB_in b4 n) hl, valB_toB b4, valB_toB b4]
  congr 2
end Go.Proofs.YtgjncgiekniniaaGreatDoor.A
end
section
set_option linter.unusedVariables false
set_option linter.unusedSimpArgs false
namespace Go.Proofs.YtgjncgiekniniaaGreatDoor.A
open Go
def cmpI (m n : Int) : Int := if m < n then -1 else if m = n then 0 else 1
theorem valB_take_lt {B : Nat} (hB : 2 ≤ B) {l : List Int} (h : inB B l) {k : Nat} (hk : k ≤ l.length) : valB B (l.take k) < (B ^ k : Nat) := by
  have := valB_lt hB (inB_take h k)
  rwa [List.length_take, Nat.min_eq_left hk] at this
theorem cmp_part {B : Nat} (hB : 2 ≤ B) {a b : List Int} (ha : inB B a) (hb : inB B b) {k : Nat} (hka : k < a.length) (hkb : k < b.length) :
    (a[k] < b[k] → valB B (a.take (k + 1)) < valB B (b.take (k + 1))) ∧ (a[k] = b[k] → (valB B (a.take (k + 1)) - valB B (b.take (k + 1)) = valB B (a.take k) - valB B (b.take k))) := by
  rw [valB_take_succ hka, valB_take_succ hkb]
  have h1 := valB_take_lt hB ha (k := k) (by omega)
  have h2 := valB_nonneg (inB_take hb k)
  refine ⟨fun h => ?_, fun h => by rw [h]; omega⟩
  have h3 : ((B ^ k : Nat) : Int) * (a[k] + 1) ≤ (B ^ k : Nat) * b[k] := Int.mul_le_mul_of_nonneg_left (by omega) (by omega)
  rw [Int.mul_add, Int.mul_one] at h3
  omega
theorem cmp_loop {a b : List Int} (ha : inB 10000 a) (hb : inB 10000 b) (hl : a.length = b.length) (hal : a.length ≤ 900000000) : ∀ k : Nat, k ≤ a.length →
    ∃ o : Int ⊕ Int, Runs (fun rec x => z100.l0P a b rec some x) ((k : Int) - 1) o ∧ (match o with | .inl _ => (0 : Int) | .inr q => q) = cmpI (valB 10000 (a.take k)) (valB 10000 (b.take k))
  | 0, _ => ⟨.inl (-1), .done fun rec => by unfold z100.l0P; rw [bif_f (by omega)]; rfl, by simp [cmpI, valB]⟩
  | k + 1, hk => by
    have hka : k < a.length := by omega
    have hkb : k < b.length := by omega
    have e0 : ((k + 1 : Nat) : Int) - 1 = (k : Int) := by omega
    obtain ⟨p1, p2⟩ := cmp_part b4 ha hb hka hkb
    obtain ⟨p3, _⟩ := cmp_part b4 hb ha hkb hka
    have c1 : (0 : Int) ≤ (k : Int) ∧ (k : Int) < (a.length : Int) := by omega
    have c2 : (0 : Int) ≤ (k : Int) ∧ (k : Int) < (b.length : Int) := by omega
    rw [e0]
    rcases Int.lt_trichotomy a[k] b[k] with h | h | h
    · refine ⟨.inr (-1), .done fun rec => ?_, ?_⟩
      · unfold z100.l0P
        rw [bif_t (by omega), if_pos c1, if_pos c2, Int.toNat_natCast, getD_eq hka, getD_eq hkb, bif_t h]
      · have := p1 h
        unfold cmpI; rw [if_pos this]
    · obtain ⟨o, r1, r2⟩ := cmp_loop ha hb hl hal k (by omega)
      refine ⟨o, .step (fun rec => ?_) r1, ?_⟩
      · unfold z100.l0P
        rw [bif_t (by omega), Int.toNat_natCast, getD_eq hka, getD_eq hkb]
        simp only [if_pos c1, if_pos c2]
        rw [bif_f (by omega), bif_f (by omega), wr_i64 (by omega) (by omega)]
      · rw [r2]
        have := p2 h
        unfold cmpI
        split <;> split <;> (try split) <;> (try split) <;> first | rfl | omega
    · refine ⟨.inr 1, .done fun rec => ?_, ?_⟩
      · unfold z100.l0P
        rw [bif_t (by omega), Int.toNat_natCast, getD_eq hka, getD_eq hkb]
        simp only [if_pos c1, if_pos c2]
        rw [bif_f (by omega), bif_t h]
      · have := p3 h
        unfold cmpI; rw [if_neg (by omega), if_neg (by omega)]
theorem toB_lt_of_len {B m n : Nat} (hB : 2 ≤ B) (h : (toB B m).length < (toB B n).length) : m < n := by
  have h1 := toB_len_lt (n := m) hB
  have hn : 0 < n := by
    rcases Nat.eq_zero_or_pos n with rfl | h0
    · rw [toB_zero] at h; simp at h
    · exact h0
  have h2 := toB_len_ge hB hn
  have h3 : B ^ (toB B m).length ≤ B ^ ((toB B n).length - 1) := Nat.pow_le_pow_right (by omega) (by omega)
  omega
theorem ref01_Cmp {m n : Nat} (hl : (dg m).length ≤ 900000000) : z100.F (dg m) (dg n) = some (cmpI m n) := by
  unfold z100.F
  by_cases he : (dg m).length = (dg n).length
  · have e1 : ((dg m).length : Int) = ((dg n).length : Int) := by omega
    rw [decide_eq_true e1]
    simp only [Bool.not_true, cond_false]
    obtain ⟨o, r1, r2⟩ := cmp_loop (toB_in b4 m) (toB_in b4 n) he hl (dg m).length (Nat.le_refl _)
    rw [wr_i64 (by omega) (by omega)]
    unfold z100.l0
    rw [r1.lfp]
    simp only [Option.bind_some]
    rw [List.take_length, he, List.take_length, valB_toB b4, valB_toB b4] at r2
    rw [← r2]
    cases o <;> rfl
  · have e1 : ¬ ((dg m).length : Int) = ((dg n).length : Int) := by omega
    rw [decide_eq_false e1]
    simp only [Bool.not_false, cond_true]
    rcases Nat.lt_or_gt_of_ne he with h | h
    · have := toB_lt_of_len b4 h
      rw [bif_t (by omega)]; unfold cmpI; rw [if_pos (by omega)]
    · have := toB_lt_of_len b4 h
      rw [bif_f (by omega)]; unfold cmpI; rw [if_neg (by omega), if_neg (by omega)]
theorem sub_loop {a b : List Int} (ha : inB 10000 a) (hb : inB 10000 b) (hal : a.length ≤ 900000000) :
    ∀ (f i : Nat) (c : Int) (s : List Int), i + f = a.length → s.length = i → inB 10000 s → 0 ≤ c ∧ c ≤ 1 →
      valB 10000 s - c * (10000 ^ i : Nat) = valB 10000 (a.take i) - valB 10000 (b.take i) →
      ∃ c' s', Runs (fun rec x => z101.l0P a b rec some x) (c, (i : Int), s) (c', (a.length : Int), s') ∧ inB 10000 s' ∧ s'.length = a.length ∧ (0 ≤ c' ∧ c' ≤ 1) ∧ valB 10000 s' - c' * (10000 ^ a.length : Nat) = valB 10000 a - valB 10000 (b.take a.length)
  | 0, i, c, s, hf, hl, hs, hc, hv => by
    have : i = a.length := by omega
    subst this
    refine ⟨c, s, .done fun rec => ?_, hs, hl, hc, by rwa [List.take_length] at hv⟩
    unfold z101.l0P
    simp only
    rw [bif_f (by omega)]
  | f + 1, i, c, s, hf, hl, hs, hc, hv => by
    have hi : i < a.length := by omega
    have h1 := getD_in (B := 10000) (by decide) ha i
    have h2 := getD_in (B := 10000) (by decide) hb i
    have eb : valB 10000 (b.take (i + 1)) = valB 10000 (b.take i) + (10000 ^ i : Nat) * b.getD i 0 := by
      by_cases hb' : i < b.length
      · rw [valB_take_succ hb', getD_eq hb']
      · rw [List.take_of_length_le (by omega), List.take_of_length_le (by omega)]
        simp [List.getD, List.getElem?_eq_none (show b.length ≤ i by omega)]
    have e1 : wr .i64 (a.getD i 0 - b.getD i 0) = a.getD i 0 - b.getD i 0 := wr_i64 (by omega) (by omega)
    have e2 : wr .i64 (a.getD i 0 - b.getD i 0 - c) = a.getD i 0 - b.getD i 0 - c := wr_i64 (by omega) (by omega)
    have e3 : wr .i64 ((i : Int) + 1) = ((i + 1 : Nat) : Int) := by rw [wr_i64 (by omega) (by omega)]; omega
    have e4 : wr .i64 (a.getD i 0 - b.getD i 0 - c + 10000) = a.getD i 0 - b.getD i 0 - c + 10000 := wr_i64 (by omega) (by omega)
    have c1 : ∀ x : Int, (s.length + [x].length) * 8 ≤ 140737488355328 := fun x => by simp; omega
    have c2 : (0 : Int) ≤ (i : Int) ∧ (i : Int) < (a.length : Int) := by omega
    by_cases hd : a.getD i 0 - b.getD i 0 - c < 0
    · obtain ⟨c', s', r1, r2, r3, r4, r5⟩ := sub_loop ha hb hal f (i + 1) 1 (s ++ [a.getD i 0 - b.getD i 0 - c + 10000]) (by omega) (by simp [hl]) (inB_snoc hs (by omega)) (by omega) (by
        rw [valB_snoc, valB_take_succ hi, eb, hl, Nat.pow_succ, Nat.mul_comm (10000 ^ i) 10000, Int.natCast_mul, ← getD_eq hi]
        generalize ((10000 ^ i : Nat) : Int) = p at *
        grind)
      refine ⟨c', s', .step (fun rec => ?_) r1, r2, r3, r4, r5⟩
      unfold z101.l0P
      simp only [ref01_at, Option.bind_some, Int.toNat_natCast, e1, e2, e3, e4]
      rw [bif_t (by omega), if_pos c2, bif_t hd, if_pos (c1 _)]
    · obtain ⟨c', s', r1, r2, r3, r4, r5⟩ := sub_loop ha hb hal f (i + 1) 0 (s ++ [a.getD i 0 - b.getD i 0 - c]) (by omega) (by simp [hl]) (inB_snoc hs (by omega)) (by omega) (by
        rw [valB_snoc, valB_take_succ hi, eb, hl, Nat.pow_succ, Nat.mul_comm (10000 ^ i) 10000, Int.natCast_mul, ← getD_eq hi]
        generalize ((10000 ^ i : Nat) : Int) = p at *
        grind)
      refine ⟨c', s', .step (fun rec => ?_) r1, r2, r3, r4, r5⟩
      unfold z101.l0P
      simp only [ref01_at, Option.bind_some, Int.toNat_natCast, e1, e2, e3, e4]
      rw [bif_t (by omega), if_pos c2, bif_f hd, if_pos (c1 _)]
theorem ref01_Sub {m n : Nat} (hmn : n ≤ m) (hl : (dg m).length ≤ 900000000) : z101.F (dg m) (dg n) = some (dg (m - n)) := by
  obtain ⟨c', s', r1, r2, r3, r4, r5⟩ := sub_loop (a := dg m) (b := dg n) (toB_in b4 m) (toB_in b4 n) hl (dg m).length 0 0 [] (by omega) rfl (inB_nil _) (by omega) (by simp [valB])
  have hlen : (dg n).length ≤ (dg m).length := by
    rcases Nat.lt_or_ge (dg m).length (dg n).length with h | h
    · have := toB_lt_of_len b4 h; omega
    · exact h
  rw [List.take_of_length_le hlen, valB_toB b4, valB_toB b4] at r5
  have h1 := valB_lt b4 r2
  rw [r3] at h1
  have hc : c' = 0 := by
    rcases (show c' = 0 ∨ c' = 1 by omega) with h | h
    · exact h
    · subst h; omega
  subst hc
  have e : z101.l0 (dg m) (dg n) ((0 : Int), (0 : Int), []) = some ((0 : Int), ((dg m).length : Int), s') := r1.lfp
  unfold z101.F
  rw [e]
  simp only [Option.bind_some]
  rw [ref01_Trim r2 (by show List.length _ ≤ _; omega)]
  simp only [Option.bind_some]
  congr 2; omega
end Go.Proofs.YtgjncgiekniniaaGreatDoor.A
end
section
set_option linter.unusedVariables false
set_option linter.unusedSimpArgs false
namespace Go.Proofs.YtgjncgiekniniaaGreatDoor.A
open Go
def tv : Int → List UInt8 → Int
  | acc, [] => acc
  | acc, b :: s => tv (10 * acc + (b.toNat : Int) - 48) s
def digit (b : UInt8) : Prop := 48 ≤ b.toNat ∧ b.toNat ≤ 57
def digits (s : List UInt8) : Prop := ∀ b ∈ s, digit b
theorem tv_append : ∀ (s t : List UInt8) (a : Int), tv a (s ++ t) = tv (tv a s) t
  | [], _, _ => rfl
  | b :: s, t, a => tv_append s t _
theorem tv_acc : ∀ (s : List UInt8) (a : Int), tv a s = a * (10 ^ s.length : Nat) + tv 0 s
  | [], a => by simp [tv]
  | b :: s, a => by
    have h1 := tv_acc s (10 * a + (b.toNat : Int) - 48)
    have h2 := tv_acc s (10 * 0 + (b.toNat : Int) - 48)
    show tv (10 * a + (b.toNat : Int) - 48) s = a * _ + tv (10 * 0 + (b.toNat : Int) - 48) s
    rw [h1, h2, List.length_cons, Nat.pow_succ, Int.natCast_mul]
    generalize ((10 ^ s.length : Nat) : Int) = p
    grind
theorem tv_bound : ∀ {s : List UInt8}, digits s → 0 ≤ tv 0 s ∧ tv 0 s < (10 ^ s.length : Nat)
  | [], _ => by simp [tv]
  | b :: s, h => by
    have hb := h b (by simp)
    have ih := tv_bound (s := s) fun x hx => h x (by simp [hx])
    have e : tv 0 (b :: s) = ((b.toNat : Int) - 48) * (10 ^ s.length : Nat) + tv 0 s := by
      show tv (10 * 0 + (b.toNat : Int) - 48) s = _
      rw [tv_acc]; simp
    have hp : (0 : Int) ≤ (10 ^ s.length : Nat) := Int.natCast_nonneg _
    unfold digit at hb
    have h1 : 0 ≤ ((b.toNat : Int) - 48) * (10 ^ s.length : Nat) := Int.mul_nonneg (by omega) hp
    have h2 : ((b.toNat : Int) - 48) * (10 ^ s.length : Nat) ≤ 9 * (10 ^ s.length : Nat) := Int.mul_le_mul_of_nonneg_right (by omega) hp
    rw [e, List.length_cons, Nat.pow_succ, Int.natCast_mul]
    omega
theorem read_l2 {s : List UInt8} (hs : digits s) (hl : s.length ≤ 900000000) (e : Nat) (he : e ≤ s.length) : ∀ (f i : Nat) (d : Int), i + f = e → f ≤ 4 → 0 ≤ d ∧ d < 10 ^ 12 / (10 ^ f : Nat) →
    Runs (fun rec x => z93.l2P s (e : Int) rec some x) (d, (i : Int)) (tv d ((s.take e).drop i), (e : Int))
  | 0, i, d, hf, _, _ => by
    have : i = e := by omega
    subst this
    refine .done fun rec => ?_
    unfold z93.l2P
    simp only
    rw [bif_f (by omega), List.drop_eq_nil_of_le (by simp; omega)]
    rfl
  | f + 1, i, d, hf, h4, hd => by
    have hi : i < s.length := by omega
    have hb := hs s[i] (List.getElem_mem hi)
    unfold digit at hb
    have hd' : d < 10 ^ 11 := by
      have : f = 0 ∨ f = 1 ∨ f = 2 ∨ f = 3 := by omega
      rcases this with rfl | rfl | rfl | rfl <;> simp at hd ⊢ <;> omega
    have hn : 0 ≤ 10 * d + (s[i].toNat : Int) - 48 ∧ 10 * d + (s[i].toNat : Int) - 48 < 10 ^ 12 / (10 ^ f : Nat) := by
      have : f = 0 ∨ f = 1 ∨ f = 2 ∨ f = 3 := by omega
      rcases this with rfl | rfl | rfl | rfl <;> simp at hd ⊢ <;> omega
    have ih := read_l2 hs hl e he f (i + 1) (10 * d + (s[i].toNat : Int) - 48) (by omega) (by omega) hn
    have hlt : i < (s.take e).length := by simp; omega
    rw [List.drop_eq_getElem_cons hlt, List.getElem_take]
    refine .step (fun rec => ?_) ih
    unfold z93.l2P
    simp only
    have eg : s.getD i 0 = s[i] := by simp [List.getD, hi]
    rw [bif_t (by omega), if_pos (by omega), Int.toNat_natCast, eg, wr_i64 (n := 10 * d) (by omega) (by omega), wr_i64 (n := (s[i].toNat : Int)) (by omega) (by omega), wr_i64 (n := 10 * d + (s[i].toNat : Int)) (by omega) (by omega), wr_i64 (n := 10 * d + (s[i].toNat : Int) - 48) (by omega) (by omega), wr_i64 (n := (i : Int) + 1) (by omega) (by omega)]
    rfl
theorem read_l0 {s : List UInt8} (hs : digits s) (hl : s.length ≤ 900000000) : ∀ (f e : Nat) (out : List Int), e ≤ 4 * f → e ≤ s.length → out.length ≤ 900000000 - e → inB 10000 out → valB 10000 out + (10000 ^ out.length : Nat) * tv 0 (s.take e) = tv 0 s →
    ∃ e' out', Runs (fun rec x => z93.l0P s rec some x) ((e : Int), out) (e', out') ∧ inB 10000 out' ∧ out'.length ≤ 900000004 ∧ valB 10000 out' = tv 0 s
  | 0, e, out, hf, he, ho, hi, hv => by
    have : e = 0 := by omega
    subst this
    refine ⟨0, out, .done fun rec => ?_, hi, by omega, by simpa [tv] using hv⟩
    unfold z93.l0P; simp
  | f + 1, e, out, hf, he, ho, hi, hv => by
    rcases Nat.eq_zero_or_pos e with rfl | h0
    · refine ⟨0, out, .done fun rec => ?_, hi, by omega, by simpa [tv] using hv⟩
      unfold z93.l0P; simp
    · have hds : digits ((s.take e).drop (e - 4)) := fun b hb => hs b (List.mem_of_mem_take (List.mem_of_mem_drop hb))
      have hlen : ((s.take e).drop (e - 4)).length ≤ 4 := by rw [List.length_drop, List.length_take]; omega
      have htb := tv_bound hds
      have hlt : tv 0 ((s.take e).drop (e - 4)) < 10000 := by
        have h1 : (10 ^ ((s.take e).drop (e - 4)).length : Nat) ≤ 10 ^ 4 := Nat.pow_le_pow_right (by decide) hlen
        have h2 : ((10 ^ ((s.take e).drop (e - 4)).length : Nat) : Int) ≤ 10000 := Int.ofNat_le.2 h1
        omega
      have r := read_l2 hs hl e he (e - (e - 4)) (e - 4) 0 (by omega) (by omega) ⟨Int.le_refl 0, by
        have : e - (e - 4) = 1 ∨ e - (e - 4) = 2 ∨ e - (e - 4) = 3 ∨ e - (e - 4) = 4 := by omega
        rcases this with h | h | h | h <;> rw [h] <;> omega⟩
      have er : z93.l2 s (e : Int) ((0 : Int), ((e - 4 : Nat) : Int)) = some (tv 0 ((s.take e).drop (e - 4)), (e : Int)) := r.lfp
      have e1 : wr .i64 ((e : Int) - 4) = (e : Int) - 4 := wr_i64 (by omega) (by omega)
      have e2 : (if (e : Int) - 4 > 0 then (e : Int) - 4 else 0) = ((e - 4 : Nat) : Int) := by split <;> omega
      have c1 : ∀ x : Int, (out.length + [x].length) * 8 ≤ 140737488355328 := fun x => by simp; omega
      have step : ∀ rec, z93.l0P s rec some ((e : Int), out) = rec ((e : Int) - 4, out ++ [tv 0 ((s.take e).drop (e - 4))]) := fun rec => by
        unfold z93.l0P
        simp only [e1, e2]
        rw [bif_t (by omega), er]
        simp only [Option.bind_some]
        rw [if_pos (c1 _)]
      by_cases h4 : 4 ≤ e
      · obtain ⟨e', out', r1, r2, r3, r4⟩ := read_l0 hs hl f (e - 4) (out ++ [tv 0 ((s.take e).drop (e - 4))]) (by omega) (by omega) (by rw [List.length_append, List.length_singleton]; omega) (inB_snoc hi (by omega)) (by
          rw [valB_snoc, ← hv]
          have e3 : s.take e = s.take (e - 4) ++ (s.take e).drop (e - 4) := by
            have := List.take_append_drop (e - 4) (s.take e)
            rw [List.take_take, Nat.min_eq_left (by omega)] at this
            exact this.symm
          have e4 : tv 0 (s.take e) = tv 0 (s.take (e - 4)) * 10000 + tv 0 ((s.take e).drop (e - 4)) := by
            conv => lhs; rw [e3]
            rw [tv_append, tv_acc]
            have : ((s.take e).drop (e - 4)).length = 4 := by rw [List.length_drop, List.length_take]; omega
            rw [this]; rfl
          rw [e4, List.length_append, List.length_singleton, Nat.pow_succ, Int.natCast_mul]
          generalize ((10000 ^ out.length : Nat) : Int) = p
          grind)
        have e5 : (e : Int) - 4 = ((e - 4 : Nat) : Int) := by omega
        exact ⟨e', out', .step (fun rec => by rw [step rec, e5]) r1, r2, r3, r4⟩
      · refine ⟨(e : Int) - 4, out ++ [tv 0 ((s.take e).drop (e - 4))], .step step (.done fun rec => ?_), inB_snoc hi (by omega), by rw [List.length_append, List.length_singleton]; omega, ?_⟩
        · unfold z93.l0P
          simp only
          rw [bif_f (by omega)]
        · have e6 : e - 4 = 0 := by omega
          rw [valB_snoc, ← hv, e6, List.drop_zero]
theorem ref01_Read {s : List UInt8} (hs : digits s) (hl : s.length ≤ 800000000) : z93.F s = some (dg (tv 0 s).toNat) := by
  obtain ⟨e', out', r1, r2, r3, r4⟩ := read_l0 hs (by omega) s.length s.length [] (by omega) (Nat.le_refl _) (Nat.zero_le _) (inB_nil _) (by simp [valB])
  have e : z93.l0 s ((s.length : Int), []) = some (e', out') := r1.lfp
  unfold z93.F
  rw [e]
  simp only [Option.bind_some]
  rw [ref01_Trim r2 (by show List.length _ ≤ _; omega), r4]
  rfl
end Go.Proofs.YtgjncgiekniniaaGreatDoor.A
end
section
set_option linter.unusedVariables false
set_option linter.unusedSimpArgs false
namespace Go.Proofs.YtgjncgiekniniaaGreatDoor.A
open Go
theorem tv_rev : ∀ {l : List Int}, inB 10 l → tv 0 (l.reverse.map ch) = valB 10 l
  | [], _ => rfl
  | x :: l, h => by
    rw [inB_cons] at h
    rw [List.reverse_cons, List.map_append, tv_append, tv_rev h.2]
    show 10 * valB 10 l + ((ch x).toNat : Int) - 48 = x + 10 * valB 10 l
    rw [ch_toNat h.1.1 h.1.2]; omega
theorem txt_digits (n : Nat) : digits (txt n) := by
  unfold txt
  split
  · intro b hb; simp at hb; subst hb; unfold digit; decide
  · intro b hb
    rw [List.mem_map] at hb
    obtain ⟨d, hd, rfl⟩ := hb
    have := toB_in b10 n d (List.mem_reverse.1 hd)
    unfold digit
    rw [ch_toNat this.1 this.2]; omega
theorem tv_txt (n : Nat) : tv 0 (txt n) = n := by
  unfold txt
  split
  · rename_i h; subst h; decide
  · rw [tv_rev (toB_in b10 n), valB_toB b10]
theorem txt_ne (n : Nat) : txt n ≠ [] := by
  unfold txt
  split
  · simp
  · rename_i h
    simp only [ne_eq, List.map_eq_nil_iff, List.reverse_eq_nil_iff]
    exact fun e => h ((toB_nil b10).1 e)
theorem txt_head {n : Nat} (hn : n ≠ 0) : ∃ b s, txt n = b :: s ∧ b.toNat ≠ 48 := by
  have h := toB_last b10 n (fun e => hn ((toB_nil b10).1 e))
  have hne : toB 10 n ≠ [] := fun e => hn ((toB_nil b10).1 e)
  have hin := toB_in b10 n _ (List.getLast_mem hne)
  refine ⟨ch ((toB 10 n).getLast hne), ((toB 10 n).dropLast.reverse.map ch), ?_, ?_⟩
  · unfold txt
    rw [if_neg hn]
    conv => lhs; rw [← List.dropLast_concat_getLast hne]
    rw [List.reverse_append]; rfl
  · rw [ch_toNat hin.1 hin.2]; omega
theorem txt_len {n k : Nat} (h : n < 10 ^ k) (hk : 0 < k) : (txt n).length ≤ k := by
  unfold txt
  split
  · show 1 ≤ k; omega
  · rw [List.length_map, List.length_reverse]; exact toB_len_le b10 h
end Go.Proofs.YtgjncgiekniniaaGreatDoor.A
end
