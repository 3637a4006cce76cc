/- Part 3 of the proof of DuesStep.card. -/
import Derived.Test.YtgjncgiekniniaaGreatDoorCds2
section
set_option linter.unusedVariables false
set_option linter.unusedSimpArgs false
set_option maxRecDepth 100000
namespace Go.Proofs.YtgjncgiekniniaaGreatDoor.A
open Go
noncomputable section
def z6.l2sh : Env × Store := ([(.ints false .i64 []), .undef, (.str ([] : List UInt8)), (.str ([] : List UInt8)), (.int .i64 (0 : Int)), (.int .i64 (0 : Int)), (.int .i64 (0 : Int)), .undef, .undef, .undef, .undef, .undef, .undef, .undef, .undef, .undef, .undef, .undef, .undef, .undef, .undef, .undef, .undef, .undef, .undef, .undef, .undef, .undef, .undef, .undef, .undef, .undef, .undef, .undef, .undef, .undef, .undef, .undef, .undef, .undef, .undef, .undef, .undef, .undef], [])
def z6.l2so0 : Env × Store := ([(.ints false .i64 []), .undef, (.str ([] : List UInt8)), (.str ([] : List UInt8)), (.int .i64 (0 : Int)), (.int .i64 (0 : Int)), (.int .i64 (0 : Int)), .undef, .undef, .undef, .undef, .undef, .undef, .undef, .undef, .undef, .undef, .undef, .undef, .undef, .undef, .undef, .undef, .undef, .undef, .undef, .undef, .undef, .undef, .undef, .undef, .undef, .undef, .undef, .undef, .undef, .undef, .undef, .undef, .undef, .undef, .undef, .undef, .undef], [])
def z6.l2out0 (a2001 : List Int) (t2002 : List UInt8) (s2003 : List UInt8) (i2004 : Int) (d2005 : Int) (k2006 : Int) (o : (List UInt8) × Int × Int) : X × Env × Store := ((.exit 2), fillSt z6.l2so0 [.li a2001, .s t2002, .s o.1, .i i2004, .i o.2.1, .i o.2.2])
def z6.l2pack : List Leaf → Option LPack
  | [.li a2001, .s t2002, .s s2003, .i i2004, .i d2005, .i k2006] => some (.one _ (z6.l2 (s2003, d2005, k2006)) (z6.l2out0 a2001 t2002 s2003 i2004 d2005 k2006))
  | _ => none
def z6.l0sh : Env × Store := ([(.ints false .i64 []), .undef, (.str ([] : List UInt8)), (.str ([] : List UInt8)), (.int .i64 (0 : Int)), .undef, .undef, .undef, .undef, .undef, .undef, .undef, .undef, .undef, .undef, .undef, .undef, .undef, .undef, .undef, .undef, .undef, .undef, .undef, .undef, .undef, .undef, .undef, .undef, .undef, .undef, .undef, .undef, .undef, .undef, .undef, .undef, .undef, .undef, .undef, .undef, .undef, .undef, .undef], [])
def z6.l0so0 : Env × Store := ([(.ints false .i64 []), .undef, (.str ([] : List UInt8)), (.str ([] : List UInt8)), (.int .i64 (0 : Int)), .undef, .undef, .undef, .undef, .undef, .undef, .undef, .undef, .undef, .undef, .undef, .undef, .undef, .undef, .undef, .undef, .undef, .undef, .undef, .undef, .undef, .undef, .undef, .undef, .undef, .undef, .undef, .undef, .undef, .undef, .undef, .undef, .undef, .undef, .undef, .undef, .undef, .undef, .undef], [])
def z6.l0out0 (a1001 : List Int) (t1002 : List UInt8) (s1003 : List UInt8) (i1004 : Int) (o : (List UInt8) × Int) : X × Env × Store := ((.exit 0), fillSt z6.l0so0 [.li a1001, .s t1002, .s o.1, .i o.2])
def z6.l0pack : List Leaf → Option LPack
  | [.li a1001, .s t1002, .s s1003, .i i1004] => some (.one _ (z6.l0 a1001 (s1003, i1004)) (z6.l0out0 a1001 t1002 s1003 i1004))
  | _ => none
def z6.l4sh : Env × Store := ([.undef, .undef, (.str ([] : List UInt8)), (.str ([] : List UInt8)), .undef, .undef, .undef, (.int .i64 (0 : Int)), .undef, .undef, .undef, .undef, .undef, .undef, .undef, .undef, .undef, .undef, .undef, .undef, .undef, .undef, .undef, .undef, .undef, .undef, .undef, .undef, .undef, .undef, .undef, .undef, .undef, .undef, .undef, .undef, .undef, .undef, .undef, .undef, .undef, .undef, .undef, .undef], [])
def z6.l4so0 : Env × Store := ([.undef, .undef, (.str ([] : List UInt8)), (.str ([] : List UInt8)), .undef, .undef, .undef, (.int .i64 (0 : Int)), .undef, .undef, .undef, .undef, .undef, .undef, .undef, .undef, .undef, .undef, .undef, .undef, .undef, .undef, .undef, .undef, .undef, .undef, .undef, .undef, .undef, .undef, .undef, .undef, .undef, .undef, .undef, .undef, .undef, .undef, .undef, .undef, .undef, .undef, .undef, .undef], [])
def z6.l4out0 (t3001 : List UInt8) (s3002 : List UInt8) (i3003 : Int) (o : Int) : X × Env × Store := ((.exit 4), fillSt z6.l4so0 [.s t3001, .s s3002, .i o])
def z6.l4pack : List Leaf → Option LPack
  | [.s t3001, .s s3002, .i i3003] => some (.one _ (z6.l4 s3002 i3003) (z6.l4out0 t3001 s3002 i3003))
  | _ => none
def z6.C : Ctx where
  T := tab
  draws := fun f i => match f, i with | _, _ => ([], 0)
  call := fun g args => match g with | _ => none
  inl := fun g => match g with | _ => none
  rank := fun g => match g with | _ => 0
  prim := fun g => match g with | _ => none
  clone := fun g => match g with | _ => none
  keep := fun f i => match f, i with | 102, 2 => ([0, 2, 3, 4, 5, 6], [], []) | 102, 0 => ([0, 2, 3, 4], [], []) | 102, 4 => ([2, 3, 7], [], []) | _, _ => ([], [], [])
  keepE := fun f i => match f, i with | 102, 2 => ([0, 2, 3, 4, 5, 6], [], []) | 102, 0 => ([0, 2, 3, 4], [], []) | 102, 4 => ([2, 3, 7], [], []) | _, _ => ([], [], [])
  keepR := fun f i => match f, i with | 102, 2 => ([2], [], [2]) | 102, 0 => ([2], [], [2]) | 102, 4 => ([2], [], [2]) | _, _ => ([], [], [])
  unroll := fun f i => match f, i with | _, _ => 0
  L := fun f i b st => match f, i, b with | 102, 2, 0 => (matchSt z6.l2sh st).bind z6.l2pack | 102, 0, 0 => (matchSt z6.l0sh st).bind z6.l0pack | 102, 4, 0 => (matchSt z6.l4sh st).bind z6.l4pack | _, _, _ => none
def z6.dec : V → Option ((List UInt8))
  | (.str x0) => some x0
  | _ => none
theorem z6.l2_link (R : Type) (k : Env × Store → Option R) (d : X × Env × Store → Option R) (a2001 : List Int) (t2002 : List UInt8) (s2003 : List UInt8) (i2004 : Int) (d2005 : Int) (k2006 : Int) :
    z6.C.loopP 102 2 (loopAt 2 (ifun Tryz.f102).body) 0 k d (fillSt z6.l2sh [.li a2001, .s t2002, .s s2003, .i i2004, .i d2005, .i k2006]) =
    z6.l2P  (fun x' => k (fillSt z6.l2sh [.li a2001, .s t2002, .s x'.1, .i i2004, .i x'.2.1, .i x'.2.2])) (fun o => d (z6.l2out0 a2001 t2002 s2003 i2004 d2005 k2006 o)) (s2003, d2005, k2006) := by kernel_rfl
theorem z6.l0_link (R : Type) (k : Env × Store → Option R) (d : X × Env × Store → Option R) (a1001 : List Int) (t1002 : List UInt8) (s1003 : List UInt8) (i1004 : Int) :
    z6.C.loopP 102 0 (loopAt 0 (ifun Tryz.f102).body) 0 k d (fillSt z6.l0sh [.li a1001, .s t1002, .s s1003, .i i1004]) =
    z6.l0P a1001 (fun x' => k (fillSt z6.l0sh [.li a1001, .s t1002, .s x'.1, .i x'.2])) (fun o => d (z6.l0out0 a1001 t1002 s1003 i1004 o)) (s1003, i1004) := by kernel_rfl
theorem z6.l4_link (R : Type) (k : Env × Store → Option R) (d : X × Env × Store → Option R) (t3001 : List UInt8) (s3002 : List UInt8) (i3003 : Int) :
    z6.C.loopP 102 4 (loopAt 4 (ifun Tryz.f102).body) 0 k d (fillSt z6.l4sh [.s t3001, .s s3002, .i i3003]) =
    z6.l4P s3002 (fun x' => k (fillSt z6.l4sh [.s t3001, .s s3002, .i x'])) (fun o => d (z6.l4out0 t3001 s3002 i3003 o)) i3003 := by kernel_rfl
theorem z6.link (a0 : List Int) : z6.C.evTop 102 (ifun Tryz.f102) [(.ints false .i64 a0)] z6.dec = z6.F a0 := by kernel_rfl
def z9.l0sh : Env × Store := ([(.int .i64 (0 : Int)), .undef, (.sref 0 0), (.sref 1 0), .undef, .undef, .undef, .undef, .undef, .undef, .undef, .undef, .undef, .undef], [(.arr 0 true 3 (.ints false .i64 [])), (.arr 0 true 3 (.ints false .i64 []))])
def z9.l0so0 : Env × Store := ([(.int .i64 (0 : Int)), .undef, (.sref 0 0), (.sref 1 0), .undef, .undef, .undef, .undef, .undef, .undef, .undef, .undef, .undef, .undef], [(.arr 0 true 3 (.ints false .i64 [])), (.arr 0 true 3 (.ints false .i64 []))])
def z9.l0out0 (n1001 : Int) (s1002 : List Int) (s1003 : List Int) (o : Int × (List Int)) : X × Env × Store := ((.exit 0), fillSt z9.l0so0 [.i o.1, .li s1002, .li o.2])
def z9.l0pack : List Leaf → Option LPack
  | [.i n1001, .li s1002, .li s1003] => some (.one _ (z9.l0 (n1001, s1003)) (z9.l0out0 n1001 s1002 s1003))
  | _ => none
def z9.C : Ctx where
  T := tab
  draws := fun f i => match f, i with | _, _ => ([], 0)
  call := fun g args => match g with | _ => none
  inl := fun g => match g with | _ => none
  rank := fun g => match g with | _ => 0
  prim := fun g => match g with | _ => none
  clone := fun g => match g with | _ => none
  keep := fun f i => match f, i with | 152, 0 => ([0, 2, 3], [0, 1], []) | _, _ => ([], [], [])
  keepE := fun f i => match f, i with | 152, 0 => ([0, 2, 3], [0, 1], []) | _, _ => ([], [], [])
  keepR := fun f i => match f, i with | 152, 0 => ([2], [0, 1], [2]) | _, _ => ([], [], [])
  unroll := fun f i => match f, i with | _, _ => 0
  L := fun f i b st => match f, i, b with | 152, 0, 0 => (matchSt z9.l0sh st).bind z9.l0pack | _, _, _ => none
def z9.dec : V → Option ((List Int))
  | (.ints _ .i64 x0) => some x0
  | _ => none
theorem z9.l0_link (R : Type) (k : Env × Store → Option R) (d : X × Env × Store → Option R) (n1001 : Int) (s1002 : List Int) (s1003 : List Int) :
    z9.C.loopP 152 0 (loopAt 0 (ifun Tryz.f152).body) 2 k d (fillSt z9.l0sh [.i n1001, .li s1002, .li s1003]) =
    z9.l0P  (fun x' => k (fillSt z9.l0sh [.i x'.1, .li s1002, .li x'.2])) (fun o => d (z9.l0out0 n1001 s1002 s1003 o)) (n1001, s1003) := by kernel_rfl
theorem z9.link (a0 : Int) : z9.C.evTop 152 (ifun Tryz.f152) [(.int .i64 a0)] z9.dec = z9.F a0 := by kernel_rfl
def z13.C : Ctx where
  T := tab
  draws := fun f i => match f, i with | _, _ => ([], 0)
  call := fun g args => match g with | 153 => z12.pack args | _ => none
  inl := fun g => match g with | _ => none
  rank := fun g => match g with | _ => 0
  prim := fun g => match g with | _ => none
  clone := fun g => match g with | _ => none
  keep := fun f i => match f, i with | _, _ => ([], [], [])
  keepE := fun f i => match f, i with | _, _ => ([], [], [])
  keepR := fun f i => match f, i with | _, _ => ([], [], [])
  unroll := fun f i => match f, i with | _, _ => 0
  L := fun f i b st => match f, i, b with | _, _, _ => none
def z13.dec : V → Option (Int × Int × Int)
  | (.agg [(.int .i64 x0), (.int .i64 x1), (.int .i64 x2)]) => some (x0, x1, x2)
  | _ => none
theorem z13.link (a0 : Int) (a1 : Int) (a2 : Int) (a3 : Int) : z13.C.evTop 95 (ifun Tryz.f95) [(.agg [(.int .i64 a0), (.int .i64 a1), (.int .i64 a2)]), (.int .i64 a3)] z13.dec = z13.F a0 a1 a2 a3 := by kernel_rfl
def z14.C : Ctx where
  T := tab
  draws := fun f i => match f, i with | _, _ => ([], 0)
  call := fun g args => match g with | _ => none
  inl := fun g => match g with | _ => none
  rank := fun g => match g with | _ => 0
  prim := fun g => match g with | _ => none
  clone := fun g => match g with | _ => none
  keep := fun f i => match f, i with | _, _ => ([], [], [])
  keepE := fun f i => match f, i with | _, _ => ([], [], [])
  keepR := fun f i => match f, i with | _, _ => ([], [], [])
  unroll := fun f i => match f, i with | _, _ => 0
  L := fun f i b st => match f, i, b with | _, _, _ => none
def z14.dec : V → Option (Int)
  | (.int .i64 x0) => some x0
  | _ => none
theorem z14.link (a0 : List Int) (a1 : Int) : z14.C.evTop 234 (ifun Tryz.f234) [(.ints false .i64 a0), (.int .i64 a1)] z14.dec = z14.F a0 a1 := by kernel_rfl
def z17.C : Ctx where
  T := tab
  draws := fun f i => match f, i with | _, _ => ([], 0)
  call := fun g args => match g with | 208 => z16.pack args | 113 => z8.pack args | _ => none
  inl := fun g => match g with | _ => none
  rank := fun g => match g with | _ => 0
  prim := fun g => match g with | _ => none
  clone := fun g => match g with | _ => none
  keep := fun f i => match f, i with | _, _ => ([], [], [])
  keepE := fun f i => match f, i with | _, _ => ([], [], [])
  keepR := fun f i => match f, i with | _, _ => ([], [], [])
  unroll := fun f i => match f, i with | _, _ => 0
  L := fun f i b st => match f, i, b with | _, _, _ => none
def z17.dec : V → Option ((List Int) × Bool)
  | (.agg [(.ints _ .i64 x0), (.bool x1)]) => some (x0, x1)
  | _ => none
theorem z17.link (a0 : List Int) (a1 : Bool) (a2 : List Int) (a3 : Bool) : z17.C.evTop 131 (ifun Tryz.f131) [(.agg [(.ints false .i64 a0), (.bool a1)]), (.agg [(.ints false .i64 a2), (.bool a3)])] z17.dec = z17.F a0 a1 a2 a3 := by kernel_rfl
def z21.C : Ctx where
  T := tab
  draws := fun f i => match f, i with | _, _ => ([], 0)
  call := fun g args => match g with | 104 => z20.pack args | _ => none
  inl := fun g => match g with | _ => none
  rank := fun g => match g with | _ => 0
  prim := fun g => match g with | _ => none
  clone := fun g => match g with | _ => none
  keep := fun f i => match f, i with | _, _ => ([], [], [])
  keepE := fun f i => match f, i with | _, _ => ([], [], [])
  keepR := fun f i => match f, i with | _, _ => ([], [], [])
  unroll := fun f i => match f, i with | _, _ => 0
  L := fun f i b st => match f, i, b with | _, _, _ => none
def z21.dec : V → Option (Int)
  | (.int .i64 x0) => some x0
  | _ => none
theorem z21.link (a0 : List Int) (a1 : Bool) : z21.C.evTop 28 (ifun Tryz.f28) [(.agg [(.ints false .u64 a0), (.bool a1)])] z21.dec = z21.F a0 a1 := by kernel_rfl
def z26.C : Ctx where
  T := tab
  draws := fun f i => match f, i with | _, _ => ([], 0)
  call := fun g args => match g with | _ => none
  inl := fun g => match g with | _ => none
  rank := fun g => match g with | _ => 0
  prim := fun g => match g with | _ => none
  clone := fun g => match g with | _ => none
  keep := fun f i => match f, i with | _, _ => ([], [], [])
  keepE := fun f i => match f, i with | _, _ => ([], [], [])
  keepR := fun f i => match f, i with | _, _ => ([], [], [])
  unroll := fun f i => match f, i with | _, _ => 0
  L := fun f i b st => match f, i, b with | _, _, _ => none
def z26.dec : V → Option (Bool)
  | (.bool x0) => some x0
  | _ => none
theorem z26.link (a0 : Int) : z26.C.evTop 212 (ifun Tryz.f212) [(.int .i64 a0)] z26.dec = z26.F a0 := by kernel_rfl
def z29.C : Ctx where
  T := tab
  draws := fun f i => match f, i with | _, _ => ([], 0)
  call := fun g args => match g with | 273 => z28.pack args | _ => none
  inl := fun g => match g with | _ => none
  rank := fun g => match g with | _ => 0
  prim := fun g => match g with | _ => none
  clone := fun g => match g with | _ => none
  keep := fun f i => match f, i with | _, _ => ([], [], [])
  keepE := fun f i => match f, i with | _, _ => ([], [], [])
  keepR := fun f i => match f, i with | _, _ => ([], [], [])
  unroll := fun f i => match f, i with | _, _ => 0
  L := fun f i b st => match f, i, b with | _, _, _ => none
def z29.dec : V → Option (Int)
  | (.int .i64 x0) => some x0
  | _ => none
theorem z29.link (a0 : Int) (a1 : Int) : z29.C.evTop 245 (ifun Tryz.f245) [(.int .u64 a0), (.int .u64 a1)] z29.dec = z29.F a0 a1 := by kernel_rfl
def z31.l0sh : Env × Store := ([.undef, .undef, (.ptr 0 0), (.ptr 1 0), (.ptr 2 0), (.bool false), (.sref 3 0), (.int .u64 (0 : Int)), .undef, .undef, .undef, .undef, .undef, .undef, .undef, .undef, .undef, .undef, .undef, (.int .i64 (0 : Int)), (.int .i64 (0 : Int)), .undef, .undef, .undef, .undef, .undef, .undef, .undef, .undef, .undef, .undef, .undef, .undef, .undef, .undef, .undef, .undef, .undef, .undef, .undef, .undef, .undef], [(.cells [(.ints false .u64 [])]), (.cells [(.ints false .u64 [])]), (.cells [(.ints false .u64 [])]), (.arr 0 false 79 (.ints false .u64 []))])
def z31.l0so0 : Env × Store := ([.undef, .undef, (.ptr 0 0), (.ptr 1 0), (.ptr 2 0), (.bool false), (.sref 3 0), (.int .u64 (0 : Int)), .undef, .undef, .undef, .undef, .undef, .undef, .undef, .undef, .undef, .undef, .undef, (.int .i64 (0 : Int)), (.int .i64 (0 : Int)), .undef, .undef, .undef, .undef, .undef, .undef, .undef, .undef, .undef, .undef, .undef, .undef, .undef, .undef, .undef, .undef, .undef, .undef, .undef, .undef, .undef], [(.cells [(.ints false .u64 [])]), (.cells [(.ints false .u64 [])]), (.cells [(.ints false .u64 [])]), (.arr 0 false 79 (.ints false .u64 []))])
def z31.l0out0 (t1001 : Bool) (borrow1002 : Int) (t1003 : Int) (t1004 : Int) (s1005 : List Int) (s1006 : List Int) (s1007 : List Int) (s1008 : List Int) (o : Int × Int × (List Int)) : X × Env × Store := ((.exit 0), fillSt z31.l0so0 [.b t1001, .i o.1, .i t1003, .i o.2.1, .li s1005, .li s1006, .li s1007, .li o.2.2])
def z31.l0pack : List Leaf → Option LPack
  | [.b t1001, .i borrow1002, .i t1003, .i t1004, .li s1005, .li s1006, .li s1007, .li s1008] => some (.one _ (z31.l0 t1003 s1005 s1006 (borrow1002, t1004, s1008)) (z31.l0out0 t1001 borrow1002 t1003 t1004 s1005 s1006 s1007 s1008))
  | _ => none
def z31.C : Ctx where
  T := tab
  draws := fun f i => match f, i with | 100, 8 => ([(25, [(6, 0)], 0), (26, [(8, 0)], 0), (27, [(2, 0)], 0), (28, [(26, 3)], 4), (29, [(8, 0)], 0), (30, [(27, 4), (28, 5)], 28), (31, [(29, 6)], 60), (32, [(3, 0)], 0), (33, [(8, 0)], 0), (34, [(31, 8), (32, 9)], 384), (35, [(7, 18)], 0), (36, [(30, 7), (33, 10), (34, 11)], 2044), (24, [(35, 12)], 4092), (37, [(23, 13)], 8188), (38, [(23, 13)], 8188), (39, [(24, 1), (25, 2)], 16383), (0, [(38, 16), (36, 14)], 49151), (8, [(37, 15)], 131071)], 549747425408) | _, _ => ([], 0)
  call := fun g args => match g with | 186 => z30.pack args | 184 => z23.pack args | 187 => z1.pack args | 185 => z24.pack args | _ => none
  inl := fun g => match g with | _ => none
  rank := fun g => match g with | _ => 0
  prim := fun g => match g with | _ => none
  clone := fun g => match g with | _ => none
  keep := fun f i => match f, i with | 100, 0 => ([2, 3, 4, 5, 6, 7, 19, 20], [0, 1, 2, 3], []) | _, _ => ([], [], [])
  keepE := fun f i => match f, i with | 100, 0 => ([2, 3, 4, 5, 6, 7, 19, 20], [0, 1, 2, 3], []) | _, _ => ([], [], [])
  keepR := fun f i => match f, i with | 100, 0 => ([4, 5], [0, 1, 2, 3], [4, 5]) | _, _ => ([], [], [])
  unroll := fun f i => match f, i with | _, _ => 0
  L := fun f i b st => match f, i, b with | 100, 0, 0 => (matchSt z31.l0sh st).bind z31.l0pack | _, _, _ => none
def z31.dec : V → Option ((List Int) × Bool)
  | (.tup [(.agg [(.ints _ .u64 x0)]), (.bool x1)]) => some (x0, x1)
  | _ => none
theorem z31.l0_link (R : Type) (k : Env × Store → Option R) (d : X × Env × Store → Option R) (t1001 : Bool) (borrow1002 : Int) (t1003 : Int) (t1004 : Int) (s1005 : List Int) (s1006 : List Int) (s1007 : List Int) (s1008 : List Int) :
    z31.C.loopP 100 0 (loopAt 0 (ifun Tryz.f100).body) 4 k d (fillSt z31.l0sh [.b t1001, .i borrow1002, .i t1003, .i t1004, .li s1005, .li s1006, .li s1007, .li s1008]) =
    z31.l0P t1003 s1005 s1006 (fun x' => k (fillSt z31.l0sh [.b t1001, .i x'.1, .i t1003, .i x'.2.1, .li s1005, .li s1006, .li s1007, .li x'.2.2])) (fun o => d (z31.l0out0 t1001 borrow1002 t1003 t1004 s1005 s1006 s1007 s1008 o)) (borrow1002, t1004, s1008) := by kernel_rfl
theorem z31.link (a0 : List Int) (a1 : List Int) : z31.C.evTop 100 (ifun Tryz.f100) [(.agg [(.ints false .u64 a0)]), (.agg [(.ints false .u64 a1)])] z31.dec = z31.F a0 a1 := by kernel_rfl
def z38.C : Ctx where
  T := tab
  draws := fun f i => match f, i with | _, _ => ([], 0)
  call := fun g args => match g with | 223 => z37.pack args | _ => none
  inl := fun g => match g with | _ => none
  rank := fun g => match g with | _ => 0
  prim := fun g => match g with | _ => none
  clone := fun g => match g with | _ => none
  keep := fun f i => match f, i with | _, _ => ([], [], [])
  keepE := fun f i => match f, i with | _, _ => ([], [], [])
  keepR := fun f i => match f, i with | _, _ => ([], [], [])
  unroll := fun f i => match f, i with | _, _ => 0
  L := fun f i b st => match f, i, b with | _, _, _ => none
def z38.dec : V → Option ((List UInt8) × Bool)
  | (.tup [(.str x0), (.bool x1)]) => some (x0, x1)
  | _ => none
theorem z38.link (a0 : List UInt8) (a1 : List UInt8) : z38.C.evTop 160 (ifun Tryz.f160) [(.str a0), (.str a1)] z38.dec = z38.F a0 a1 := by kernel_rfl
def z42.l2sh : Env × Store := ([(.str ([] : List UInt8)), .undef, (.ptr 0 0), (.int .i64 (0 : Int)), (.ptr 1 0), .undef, (.int .i64 (0 : Int)), (.int .u64 (0 : Int)), .undef, .undef, .undef, .undef, .undef, .undef, .undef, .undef, .undef, .undef, .undef, .undef, .undef, .undef, .undef, .undef, .undef, .undef, .undef, .undef, .undef, .undef, .undef, .undef, .undef, .undef, .undef, .undef, .undef, .undef, .undef, .undef, .undef, .undef, .undef, .undef, .undef, .undef, .undef, (.ptr 2 0), .undef, .undef, .undef, .undef, .undef, .undef, .undef, .undef, .undef, .undef, .undef, .undef, .undef, .undef, .undef, .undef, .undef, .undef, .undef, .undef, .undef], [(.cells [(.ints false .u64 [])]), (.cells [(.ints false .u64 [])]), (.siter ([] : List UInt8) 0)])
def z42.l2so0 : Env × Store := ([(.str ([] : List UInt8)), .undef, (.ptr 0 0), (.int .i64 (0 : Int)), (.ptr 1 0), .undef, (.int .i64 (0 : Int)), (.int .u64 (0 : Int)), .undef, .undef, .undef, .undef, .undef, .undef, .undef, .undef, .undef, .undef, .undef, .undef, .undef, .undef, .undef, .undef, .undef, .undef, .undef, .undef, .undef, .undef, .undef, .undef, .undef, .undef, .undef, .undef, .undef, .undef, .undef, .undef, .undef, .undef, .undef, .undef, .undef, .undef, .undef, (.ptr 2 0), .undef, .undef, .undef, .undef, .undef, .undef, .undef, .undef, .undef, .undef, .undef, .undef, .undef, .undef, .undef, .undef, .undef, .undef, .undef, .undef, .undef], [(.cells [(.ints false .u64 [])]), (.cells [(.ints false .u64 [])]), (.siter ([] : List UInt8) 0)])
def z42.l2out0 (s2001 : List UInt8) (t2002 : Int) (k2003 : Int) (part2004 : Int) (s2005 : List Int) (s2006 : List Int) (s2007 : List UInt8) (s2008 : Nat) (o : Int × Nat) : X × Env × Store := ((.exit 2), fillSt z42.l2so0 [.s s2001, .i t2002, .i k2003, .i o.1, .li s2005, .li s2006, .s s2007, .n o.2])
def z42.l2pack : List Leaf → Option LPack
  | [.s s2001, .i t2002, .i k2003, .i part2004, .li s2005, .li s2006, .s s2007, .n s2008] => some (.one _ (z42.l2 s2007 (part2004, s2008)) (z42.l2out0 s2001 t2002 k2003 part2004 s2005 s2006 s2007 s2008))
  | _ => none
def z42.l2ash : Env × Store := ([(.str ([] : List UInt8)), .undef, (.ptr 0 0), (.int .i64 (0 : Int)), (.ptr 1 0), .undef, (.int .i64 (0 : Int)), (.int .u64 (0 : Int)), .undef, .undef, .undef, .undef, .undef, .undef, .undef, .undef, .undef, .undef, .undef, .undef, .undef, .undef, .undef, .undef, .undef, .undef, .undef, .undef, .undef, .undef, .undef, .undef, .undef, .undef, .undef, .undef, .undef, .undef, .undef, .undef, .undef, (.int .i64 (0 : Int)), (.bool false), .undef, .undef, .undef, .undef, (.ptr 2 0), .undef, .undef, .undef, .undef, .undef, .undef, .undef, .undef, .undef, .undef, .undef, .undef, .undef, .undef, .undef, .undef, .undef, .undef, .undef, .undef, .undef], [(.cells [(.ints false .u64 [])]), (.cells [(.ints false .u64 [])]), (.siter ([] : List UInt8) 0)])
def z42.l2aso0 : Env × Store := ([(.str ([] : List UInt8)), .undef, (.ptr 0 0), (.int .i64 (0 : Int)), (.ptr 1 0), .undef, (.int .i64 (0 : Int)), (.int .u64 (0 : Int)), .undef, .undef, .undef, .undef, .undef, .undef, .undef, .undef, .undef, .undef, .undef, .undef, .undef, .undef, .undef, .undef, .undef, .undef, .undef, .undef, .undef, .undef, .undef, .undef, .undef, .undef, .undef, .undef, .undef, .undef, .undef, .undef, .undef, (.int .i64 (0 : Int)), (.bool false), .undef, .undef, .undef, .undef, (.ptr 2 0), .undef, .undef, .undef, .undef, .undef, .undef, .undef, .undef, .undef, .undef, .undef, .undef, .undef, .undef, .undef, .undef, .undef, .undef, .undef, .undef, .undef], [(.cells [(.ints false .u64 [])]), (.cells [(.ints false .u64 [])]), (.siter ([] : List UInt8) 0)])
def z42.l2aout0 (s3001 : List UInt8) (t3002 : Int) (k3003 : Int) (part3004 : Int) (t3005 : Int) (t3006 : Bool) (s3007 : List Int) (s3008 : List Int) (s3009 : List UInt8) (s3010 : Nat) (o : Int × Nat) : X × Env × Store := ((.exit 2), fillSt z42.l2aso0 [.s s3001, .i t3002, .i k3003, .i o.1, .i t3005, .b t3006, .li s3007, .li s3008, .s s3009, .n o.2])
def z42.l2apack : List Leaf → Option LPack
  | [.s s3001, .i t3002, .i k3003, .i part3004, .i t3005, .b t3006, .li s3007, .li s3008, .s s3009, .n s3010] => some (.one _ (z42.l2a s3009 (part3004, s3010)) (z42.l2aout0 s3001 t3002 k3003 part3004 t3005 t3006 s3007 s3008 s3009 s3010))
  | _ => none
def z42.l0aash : Env × Store := ([(.str ([] : List UInt8)), .undef, (.ptr 0 0), (.int .i64 (0 : Int)), (.ptr 1 0), (.bool false), .undef, .undef, .undef, .undef, .undef, .undef, .undef, .undef, .undef, .undef, .undef, .undef, .undef, .undef, .undef, .undef, .undef, .undef, .undef, .undef, .undef, .undef, .undef, .undef, .undef, .undef, .undef, .undef, .undef, .undef, .undef, .undef, .undef, .undef, .undef, .undef, .undef, .undef, .undef, .undef, .undef, .undef, .undef, .undef, .undef, .undef, .undef, .undef, .undef, .undef, .undef, .undef, .undef, .undef, .undef, .undef, .undef, .undef, .undef, .undef, .undef, .undef, .undef], [(.cells [(.ints false .u64 [])]), (.cells [(.ints false .u64 [])])])
def z42.l0aaso0 : Env × Store := ([(.str ([] : List UInt8)), .undef, (.ptr 0 0), (.int .i64 (0 : Int)), (.ptr 1 0), (.bool false), .undef, .undef, .undef, .undef, .undef, .undef, .undef, .undef, .undef, .undef, .undef, .undef, .undef, .undef, .undef, .undef, .undef, .undef, .undef, .undef, .undef, .undef, .undef, .undef, .undef, .undef, .undef, .undef, .undef, .undef, .undef, .undef, .undef, .undef, .undef, .undef, .undef, .undef, .undef, .undef, .undef, .undef, .undef, .undef, .undef, .undef, .undef, .undef, .undef, .undef, .undef, .undef, .undef, .undef, .undef, .undef, .undef, .undef, .undef, .undef, .undef, .undef, .undef], [(.cells [(.ints false .u64 [])]), (.cells [(.ints false .u64 [])])])
def z42.l0aaout0 (s5001 : List UInt8) (t5002 : Int) (first5003 : Bool) (s5004 : List Int) (s5005 : List Int) (o : (List UInt8) × Bool × (List Int)) : X × Env × Store := ((.exit 0), fillSt z42.l0aaso0 [.s o.1, .i t5002, .b o.2.1, .li s5004, .li o.2.2])
def z42.l0aapack : List Leaf → Option LPack
  | [.s s5001, .i t5002, .b first5003, .li s5004, .li s5005] => some (.one _ (z42.l0aa (s5001, first5003, s5005)) (z42.l0aaout0 s5001 t5002 first5003 s5004 s5005))
  | _ => none
def z42.C : Ctx where
  T := tab
  draws := fun f i => match f, i with | 161, 17 => ([(58, [(4, 0)], 0), (59, [], 0), (60, [(58, 2)], 2), (61, [(57, 1), (59, 3)], 7), (62, [(7, 0)], 0), (63, [(61, 5)], 16), (64, [(62, 6)], 63), (65, [(60, 4), (63, 7)], 127), (0, [(4, 0), (64, 8)], 255)], 36749372959343247360) | _, _ => ([], 0)
  call := fun g args => match g with | 200 => z3.pack args | 158 => z39.pack args | 164 => z41.pack args | 99 => z25.pack args | _ => none
  inl := fun g => match g with | _ => none
  rank := fun g => match g with | _ => 0
  prim := fun g => match g with | _ => none
  clone := fun g => match g with | _ => none
  keep := fun f i => match f, i with | 161, 2 => ([0, 2, 3, 4, 6, 7, 41, 42, 47], [0, 1, 2], []) | 161, 0 => ([0, 2, 3, 4, 5], [0, 1], []) | _, _ => ([], [], [])
  keepE := fun f i => match f, i with | 161, 2 => ([0, 2, 3, 4, 6, 7, 41, 42, 47], [0, 1, 2], []) | 161, 0 => ([0, 2, 3, 4, 5], [0, 1], []) | _, _ => ([], [], [])
  keepR := fun f i => match f, i with | 161, 2 => ([2, 3], [0, 1, 2], [2, 3]) | 161, 0 => ([2, 3], [0, 1], [2, 3]) | _, _ => ([], [], [])
  unroll := fun f i => match f, i with | _, _ => 0
  L := fun f i b st => match f, i, b with | 161, 2, 0 => (orP ((matchSt z42.l2sh st).bind z42.l2pack) ((matchSt z42.l2ash st).bind z42.l2apack)) | 161, 0, 0 => (matchSt z42.l0aash st).bind z42.l0aapack | _, _, _ => none
def z42.dec : V → Option ((List Int) × Int)
  | (.tup [(.agg [(.ints _ .u64 x0)]), (.int .i64 x1)]) => some (x0, x1)
  | _ => none
theorem z42.l2_link (R : Type) (k : Env × Store → Option R) (d : X × Env × Store → Option R) (s2001 : List UInt8) (t2002 : Int) (k2003 : Int) (part2004 : Int) (s2005 : List Int) (s2006 : List Int) (s2007 : List UInt8) (s2008 : Nat) :
    z42.C.loopP 161 2 (loopAt 2 (ifun Tryz.f161).body) 3 k d (fillSt z42.l2sh [.s s2001, .i t2002, .i k2003, .i part2004, .li s2005, .li s2006, .s s2007, .n s2008]) =
    z42.l2P s2007 (fun x' => k (fillSt z42.l2sh [.s s2001, .i t2002, .i k2003, .i x'.1, .li s2005, .li s2006, .s s2007, .n x'.2])) (fun o => d (z42.l2out0 s2001 t2002 k2003 part2004 s2005 s2006 s2007 s2008 o)) (part2004, s2008) := by kernel_rfl
theorem z42.l2a_link (R : Type) (k : Env × Store → Option R) (d : X × Env × Store → Option R) (s3001 : List UInt8) (t3002 : Int) (k3003 : Int) (part3004 : Int) (t3005 : Int) (t3006 : Bool) (s3007 : List Int) (s3008 : List Int) (s3009 : List UInt8) (s3010 : Nat) :
    z42.C.loopP 161 2 (loopAt 2 (ifun Tryz.f161).body) 3 k d (fillSt z42.l2ash [.s s3001, .i t3002, .i k3003, .i part3004, .i t3005, .b t3006, .li s3007, .li s3008, .s s3009, .n s3010]) =
    z42.l2aP s3009 (fun x' => k (fillSt z42.l2ash [.s s3001, .i t3002, .i k3003, .i x'.1, .i t3005, .b t3006, .li s3007, .li s3008, .s s3009, .n x'.2])) (fun o => d (z42.l2aout0 s3001 t3002 k3003 part3004 t3005 t3006 s3007 s3008 s3009 s3010 o)) (part3004, s3010) := by kernel_rfl
theorem z42.l0aa_link (R : Type) (k : Env × Store → Option R) (d : X × Env × Store → Option R) (s5001 : List UInt8) (t5002 : Int) (first5003 : Bool) (s5004 : List Int) (s5005 : List Int) :
    z42.C.loopP 161 0 (loopAt 0 (ifun Tryz.f161).body) 2 k d (fillSt z42.l0aash [.s s5001, .i t5002, .b first5003, .li s5004, .li s5005]) =
    z42.l0aaP  (fun x' => k (fillSt z42.l0aash [.s x'.1, .i t5002, .b x'.2.1, .li s5004, .li x'.2.2])) (fun o => d (z42.l0aaout0 s5001 t5002 first5003 s5004 s5005 o)) (s5001, first5003, s5005) := by kernel_rfl
theorem z42.link (a0 : List UInt8) : z42.C.evTop 161 (ifun Tryz.f161) [(.str a0)] z42.dec = z42.F a0 := by kernel_rfl
def z43.C : Ctx where
  T := tab
  draws := fun f i => match f, i with | _, _ => ([], 0)
  call := fun g args => match g with | 160 => z38.pack args | 161 => z42.pack args | 104 => z20.pack args | 91 => z22.pack args | _ => none
  inl := fun g => match g with | _ => none
  rank := fun g => match g with | _ => 0
  prim := fun g => match g with | _ => none
  clone := fun g => match g with | _ => none
  keep := fun f i => match f, i with | _, _ => ([], [], [])
  keepE := fun f i => match f, i with | _, _ => ([], [], [])
  keepR := fun f i => match f, i with | _, _ => ([], [], [])
  unroll := fun f i => match f, i with | _, _ => 0
  L := fun f i b st => match f, i, b with | _, _, _ => none
def z43.dec : V → Option ((List Int) × Bool × Int)
  | (.tup [(.agg [(.ints _ .u64 x0), (.bool x1)]), (.int .i64 x2)]) => some (x0, x1, x2)
  | _ => none
theorem z43.link (a0 : List UInt8) : z43.C.evTop 76 (ifun Tryz.f76) [(.str a0)] z43.dec = z43.F a0 := by kernel_rfl
def z48.C : Ctx where
  T := tab
  draws := fun f i => match f, i with | _, _ => ([], 0)
  call := fun g args => match g with | _ => none
  inl := fun g => match g with | _ => none
  rank := fun g => match g with | _ => 0
  prim := fun g => match g with | _ => none
  clone := fun g => match g with | _ => none
  keep := fun f i => match f, i with | _, _ => ([], [], [])
  keepE := fun f i => match f, i with | _, _ => ([], [], [])
  keepR := fun f i => match f, i with | _, _ => ([], [], [])
  unroll := fun f i => match f, i with | _, _ => 0
  L := fun f i b st => match f, i, b with | _, _, _ => none
def z48.dec : V → Option ((List Int) × Bool × (List Int))
  | (.agg [(.ints _ .u64 x0), (.bool x1), (.ints _ .u64 x2)]) => some (x0, x1, x2)
  | _ => none
theorem z48.link (a0 : List Int) (a1 : Bool) : z48.C.evTop 68 (ifun Tryz.f68) [(.agg [(.ints false .u64 a0), (.bool a1)])] z48.dec = z48.F a0 a1 := by kernel_rfl
def z53.C : Ctx where
  T := tab
  draws := fun f i => match f, i with | _, _ => ([], 0)
  call := fun g args => match g with | 202 => z52.pack args | _ => none
  inl := fun g => match g with | _ => none
  rank := fun g => match g with | _ => 0
  prim := fun g => match g with | _ => none
  clone := fun g => match g with | _ => none
  keep := fun f i => match f, i with | _, _ => ([], [], [])
  keepE := fun f i => match f, i with | _, _ => ([], [], [])
  keepR := fun f i => match f, i with | _, _ => ([], [], [])
  unroll := fun f i => match f, i with | _, _ => 0
  L := fun f i b st => match f, i, b with | _, _, _ => none
def z53.dec : V → Option ((List Int) × Bool × Int × Int)
  | (.tup [(.agg [(.ints _ .u64 x0), (.bool x1), (.int .i64 x2)]), (.int .i64 x3)]) => some (x0, x1, x2, x3)
  | _ => none
theorem z53.link (a0 : List Int) (a1 : Bool) (a2 : Int) : z53.C.evTop 119 (ifun Tryz.f119) [(.agg [(.ints false .u64 a0), (.bool a1)]), (.int .i64 a2)] z53.dec = z53.F a0 a1 a2 := by kernel_rfl
def z59.C : Ctx where
  T := tab
  draws := fun f i => match f, i with | _, _ => ([], 0)
  call := fun g args => match g with | _ => none
  inl := fun g => match g with | _ => none
  rank := fun g => match g with | _ => 0
  prim := fun g => match g with | _ => none
  clone := fun g => match g with | _ => none
  keep := fun f i => match f, i with | _, _ => ([], [], [])
  keepE := fun f i => match f, i with | _, _ => ([], [], [])
  keepR := fun f i => match f, i with | _, _ => ([], [], [])
  unroll := fun f i => match f, i with | _, _ => 0
  L := fun f i b st => match f, i, b with | _, _, _ => none
def z59.dec : V → Option (Int)
  | (.int .i64 x0) => some x0
  | _ => none
theorem z59.link (a0 : List Int) (a1 : Bool) (a2 : Int) : z59.C.evTop 122 (ifun Tryz.f122) [(.agg [(.ints false .u64 a0), (.bool a1), (.int .i64 a2)])] z59.dec = z59.F a0 a1 a2 := by kernel_rfl
def z63.C : Ctx where
  T := tab
  draws := fun f i => match f, i with | _, _ => ([], 0)
  call := fun g args => match g with | 280 => z62.pack args | _ => none
  inl := fun g => match g with | _ => none
  rank := fun g => match g with | _ => 0
  prim := fun g => match g with | _ => none
  clone := fun g => match g with | _ => none
  keep := fun f i => match f, i with | _, _ => ([], [], [])
  keepE := fun f i => match f, i with | _, _ => ([], [], [])
  keepR := fun f i => match f, i with | _, _ => ([], [], [])
  unroll := fun f i => match f, i with | _, _ => 0
  L := fun f i b st => match f, i, b with | _, _, _ => none
def z63.dec : V → Option (Int)
  | (.int .i64 x0) => some x0
  | _ => none
theorem z63.link (a0 : Int) : z63.C.evTop 262 (ifun Tryz.f262) [(.int .u64 a0)] z63.dec = z63.F a0 := by kernel_rfl
def z68.C : Ctx where
  T := tab
  draws := fun f i => match f, i with | 163, 1 => ([(15, [(2, 0)], 0), (16, [(14, 1)], 1), (17, [(3, 0)], 0), (18, [(15, 2), (16, 3)], 7), (6, [], 0), (0, [(5, 5), (17, 4)], 31)], 245792) | 163, 2 => ([(20, [(2, 0)], 0), (21, [(19, 1)], 1), (22, [(5, 0)], 0), (23, [(20, 2), (21, 3)], 7), (19, [(22, 4)], 15), (24, [(18, 5)], 31), (25, [(18, 5)], 31), (26, [(18, 5)], 31), (7, [], 0), (8, [], 0), (0, [(6, 9), (23, 6)], 831), (0, [(7, 10), (24, 7)], 1919), (9, [(25, 8)], 4095)], 66847168) | 163, 4 => ([(35, [(9, 0)], 0), (36, [], 0), (37, [(35, 2)], 2), (38, [(34, 1), (36, 3)], 7), (34, [(37, 4)], 15), (39, [(33, 5)], 31), (40, [(33, 5)], 31), (13, [], 0), (0, [(12, 8), (38, 6)], 191), (14, [(39, 7)], 511)], 1090921705472) | 163, 5 => ([(41, [(6, 0)], 0), (42, [(2, 0)], 0), (43, [(41, 2)], 2), (44, [(42, 3)], 6), (45, [(40, 1), (43, 4)], 15), (46, [(12, 0)], 0), (47, [(44, 5), (45, 6)], 63), (0, [(4, 0), (46, 7)], 127)], 139637976727552) | _, _ => ([], 0)
  call := fun g args => match g with | 92 => z60.pack args | 226 => z67.pack args | 162 => z66.pack args | 158 => z39.pack args | 100 => z31.pack args | 28 => z21.pack args | 91 => z22.pack args | _ => none
  inl := fun g => match g with | _ => none
  rank := fun g => match g with | _ => 0
  prim := fun g => match g with | _ => none
  clone := fun g => match g with | _ => none
  keep := fun f i => match f, i with | _, _ => ([], [], [])
  keepE := fun f i => match f, i with | _, _ => ([], [], [])
  keepR := fun f i => match f, i with | _, _ => ([], [], [])
  unroll := fun f i => match f, i with | _, _ => 0
  L := fun f i b st => match f, i, b with | _, _, _ => none
def z68.dec : V → Option ((List Int) × Bool × (List Int))
  | (.agg [(.ints _ .u64 x0), (.bool x1), (.ints _ .u64 x2)]) => some (x0, x1, x2)
  | _ => none
theorem z68.link (a0 : List Int) (a1 : Bool) (a2 : List Int) : z68.C.evTop 163 (ifun Tryz.f163) [(.agg [(.ints false .u64 a0), (.bool a1)]), (.agg [(.ints false .u64 a2)])] z68.dec = z68.F a0 a1 a2 := by kernel_rfl
def z69.C : Ctx where
  T := tab
  draws := fun f i => match f, i with | 176, 6 => ([(16, [(2, 0)], 0), (17, [(3, 0)], 0), (18, [(16, 2)], 2), (19, [(15, 1), (17, 3)], 7), (0, [(4, 0), (18, 4)], 15), (6, [], 31)], 491552) | _, _ => ([], 0)
  call := fun g args => match g with | 28 => z21.pack args | 110 => z33.pack args | 92 => z60.pack args | 163 => z68.pack args | _ => none
  inl := fun g => match g with | _ => none
  rank := fun g => match g with | _ => 0
  prim := fun g => match g with | _ => none
  clone := fun g => match g with | _ => none
  keep := fun f i => match f, i with | _, _ => ([], [], [])
  keepE := fun f i => match f, i with | _, _ => ([], [], [])
  keepR := fun f i => match f, i with | _, _ => ([], [], [])
  unroll := fun f i => match f, i with | _, _ => 0
  L := fun f i b st => match f, i, b with | _, _, _ => none
def z69.dec : V → Option ((List Int) × Bool × (List Int) × Int)
  | (.tup [(.agg [(.ints _ .u64 x0), (.bool x1), (.ints _ .u64 x2)]), (.int .i64 x3)]) => some (x0, x1, x2, x3)
  | _ => none
theorem z69.link (a0 : List Int) (a1 : Bool) (a2 : List Int) (a3 : Bool) : z69.C.evTop 176 (ifun Tryz.f176) [(.agg [(.ints false .u64 a0), (.bool a1)]), (.agg [(.ints false .u64 a2), (.bool a3)])] z69.dec = z69.F a0 a1 a2 a3 := by kernel_rfl
def z71.C : Ctx where
  T := tab
  draws := fun f i => match f, i with | 130, 1 => ([(4, [(1, 0)], 0), (5, [(3, 1)], 1), (6, [], 0), (7, [(5, 3)], 4), (8, [(4, 2), (6, 4)], 15), (0, [(2, 0), (7, 5)], 31)], 248) | _, _ => ([], 0)
  call := fun g args => match g with | 158 => z39.pack args | 99 => z25.pack args | _ => none
  inl := fun g => match g with | _ => none
  rank := fun g => match g with | _ => 0
  prim := fun g => match g with | _ => none
  clone := fun g => match g with | _ => none
  keep := fun f i => match f, i with | _, _ => ([], [], [])
  keepE := fun f i => match f, i with | _, _ => ([], [], [])
  keepR := fun f i => match f, i with | _, _ => ([], [], [])
  unroll := fun f i => match f, i with | _, _ => 0
  L := fun f i b st => match f, i, b with | _, _, _ => none
def z71.dec : V → Option ((List Int))
  | (.agg [(.ints _ .u64 x0)]) => some x0
  | _ => none
theorem z71.link (a0 : List Int) (a1 : Bool) (a2 : List Int) : z71.C.evTop 130 (ifun Tryz.f130) [(.agg [(.ints false .u64 a0), (.bool a1), (.ints false .u64 a2)])] z71.dec = z71.F a0 a1 a2 := by kernel_rfl
def z76.C : Ctx where
  T := tab
  draws := fun f i => match f, i with | _, _ => ([], 0)
  call := fun g args => match g with | 137 => z75.pack args | _ => none
  inl := fun g => match g with | _ => none
  rank := fun g => match g with | _ => 0
  prim := fun g => match g with | _ => none
  clone := fun g => match g with | _ => none
  keep := fun f i => match f, i with | _, _ => ([], [], [])
  keepE := fun f i => match f, i with | _, _ => ([], [], [])
  keepR := fun f i => match f, i with | _, _ => ([], [], [])
  unroll := fun f i => match f, i with | _, _ => 0
  L := fun f i b st => match f, i, b with | _, _, _ => none
def z76.dec : V → Option ((List UInt8))
  | (.str x0) => some x0
  | _ => none
theorem z76.link (a0 : Int) : z76.C.evTop 47 (ifun Tryz.f47) [(.int .i64 a0)] z76.dec = z76.F a0 := by kernel_rfl
def z80.C : Ctx where
  T := tab
  draws := fun f i => match f, i with | _, _ => ([], 0)
  call := fun g args => match g with | _ => none
  inl := fun g => match g with | _ => none
  rank := fun g => match g with | _ => 0
  prim := fun g => match g with | _ => none
  clone := fun g => match g with | _ => none
  keep := fun f i => match f, i with | _, _ => ([], [], [])
  keepE := fun f i => match f, i with | _, _ => ([], [], [])
  keepR := fun f i => match f, i with | _, _ => ([], [], [])
  unroll := fun f i => match f, i with | _, _ => 0
  L := fun f i b st => match f, i, b with | _, _, _ => none
def z80.dec : V → Option (Bool)
  | (.bool x0) => some x0
  | _ => none
theorem z80.link (a0 : Int) : z80.C.evTop 228 (ifun Tryz.f228) [(.int .i64 a0)] z80.dec = z80.F a0 := by kernel_rfl
def z81.C : Ctx where
  T := tab
  draws := fun f i => match f, i with | _, _ => ([], 0)
  call := fun g args => match g with | _ => none
  inl := fun g => match g with | _ => none
  rank := fun g => match g with | _ => 0
  prim := fun g => match g with | _ => none
  clone := fun g => match g with | _ => none
  keep := fun f i => match f, i with | _, _ => ([], [], [])
  keepE := fun f i => match f, i with | _, _ => ([], [], [])
  keepR := fun f i => match f, i with | _, _ => ([], [], [])
  unroll := fun f i => match f, i with | _, _ => 0
  L := fun f i b st => match f, i, b with | _, _, _ => none
def z81.dec : V → Option ((List (List UInt8)))
  | (.strs _ x0) => some x0
  | _ => none
theorem z81.link  : z81.C.evTop 257 (ifun Tryz.f257) [] z81.dec = z81.F  := by kernel_rfl
def z89.C : Ctx where
  T := tab
  draws := fun f i => match f, i with | _, _ => ([], 0)
  call := fun g args => match g with | 36 => z47.pack args | 28 => z21.pack args | 38 => z74.pack args | 133 => z83.pack args | 134 => z88.pack args | _ => none
  inl := fun g => match g with | _ => none
  rank := fun g => match g with | _ => 0
  prim := fun g => match g with | _ => none
  clone := fun g => match g with | _ => none
  keep := fun f i => match f, i with | _, _ => ([], [], [])
  keepE := fun f i => match f, i with | _, _ => ([], [], [])
  keepR := fun f i => match f, i with | _, _ => ([], [], [])
  unroll := fun f i => match f, i with | _, _ => 0
  L := fun f i b st => match f, i, b with | _, _, _ => none
def z89.dec : V → Option (Int)
  | (.int .i64 x0) => some x0
  | _ => none
theorem z89.link (a0 : List UInt8) (a1 : List UInt8) (a2 : Int) (a3 : Int) (a4 : Int) (a5 : Int) (a6 : Int) (a7 : Int) (a8 : Int) (a9 : Int) : z89.C.evTop 44 (ifun Tryz.f44) [(.agg [(.str a0), (.str a1), (.int .i64 a2), (.int .i64 a3), (.int .i64 a4), (.int .i64 a5), (.int .i64 a6), (.int .i64 a7), (.int .i64 a8), (.int .i64 a9)])] z89.dec = z89.F a0 a1 a2 a3 a4 a5 a6 a7 a8 a9 := by kernel_rfl
def z91.C : Ctx where
  T := tab
  draws := fun f i => match f, i with | _, _ => ([], 0)
  call := fun g args => match g with | 44 => z89.pack args | 138 => z90.pack args | _ => none
  inl := fun g => match g with | _ => none
  rank := fun g => match g with | _ => 0
  prim := fun g => match g with | _ => none
  clone := fun g => match g with | _ => none
  keep := fun f i => match f, i with | _, _ => ([], [], [])
  keepE := fun f i => match f, i with | _, _ => ([], [], [])
  keepR := fun f i => match f, i with | _, _ => ([], [], [])
  unroll := fun f i => match f, i with | _, _ => 0
  L := fun f i b st => match f, i, b with | _, _, _ => none
def z91.dec : V → Option ((List (List V)) × Int)
  | (.tup [(.recs _ 3 x0), (.int .i64 x1)]) => some (x0, x1)
  | _ => none
theorem z91.link (a0 : List UInt8) (a1 : List UInt8) (a2 : Int) (a3 : Int) (a4 : Int) (a5 : Int) (a6 : Int) (a7 : Int) (a8 : Int) (a9 : Int) : z91.C.evTop 48 (ifun Tryz.f48) [(.agg [(.str a0), (.str a1), (.int .i64 a2), (.int .i64 a3), (.int .i64 a4), (.int .i64 a5), (.int .i64 a6), (.int .i64 a7), (.int .i64 a8), (.int .i64 a9)])] z91.dec = z91.F a0 a1 a2 a3 a4 a5 a6 a7 a8 a9 := by kernel_rfl
def z92.l0sh : Env × Store := ([.undef, .undef, (.sref 1 0), (.int .i64 (0 : Int)), .undef, .undef, (.sref 2 0), (.ptr 3 0), .undef, .undef, .undef, .undef, .undef, .undef, .undef, .undef, .undef, .undef, .undef, .undef, (.recs false 3 []), (.int .i64 (0 : Int)), (.int .i64 (0 : Int)), .undef, .undef, .undef, .undef, .undef, .undef, .undef, .undef, .undef, .undef, .undef, .undef], [.dead, (.arr 0 true 109 (.recs false 6 [])), (.arr 0 true 109 (.recs false 6 [])), (.cells [(.int .i64 (0 : Int)), (.int .i64 (0 : Int)), (.int .i64 (0 : Int))])])
def z92.l0so0 : Env × Store := ([.undef, .undef, (.sref 1 0), (.int .i64 (0 : Int)), .undef, .undef, (.sref 2 0), (.ptr 3 0), .undef, .undef, .undef, .undef, .undef, .undef, .undef, .undef, .undef, .undef, .undef, .undef, (.recs false 3 []), (.int .i64 (0 : Int)), (.int .i64 (0 : Int)), .undef, .undef, .undef, .undef, .undef, .undef, .undef, .undef, .undef, .undef, .undef, .undef], [.dead, (.arr 0 true 109 (.recs false 6 [])), (.arr 0 true 109 (.recs false 6 [])), (.cells [(.int .i64 (0 : Int)), (.int .i64 (0 : Int)), (.int .i64 (0 : Int))])])
def z92.l0out0 (t1001 : Int) (t1002 : List (List V)) (t1003 : Int) (t1004 : Int) (s1005 : List (List V)) (s1006 : List (List V)) (s1007 : Int) (s1008 : Int) (s1009 : Int) (o : Int × (List (List V)) × Int × Int × Int) : X × Env × Store := ((.exit 0), fillSt z92.l0so0 [.i t1001, .lr t1002, .i t1003, .i o.1, .lr s1005, .lr o.2.1, .i o.2.2.1, .i o.2.2.2.1, .i o.2.2.2.2])
def z92.l0pack : List Leaf → Option LPack
  | [.i t1001, .lr t1002, .i t1003, .i t1004, .lr s1005, .lr s1006, .i s1007, .i s1008, .i s1009] => some (.one _ (z92.l0 t1002 t1003 (t1004, s1006, s1007, s1008, s1009)) (z92.l0out0 t1001 t1002 t1003 t1004 s1005 s1006 s1007 s1008 s1009))
  | _ => none
def z92.C : Ctx where
  T := tab
  draws := fun f i => match f, i with | _, _ => ([], 0)
  call := fun g args => match g with | 48 => z91.pack args | _ => none
  inl := fun g => match g with | _ => none
  rank := fun g => match g with | _ => 0
  prim := fun g => match g with | _ => none
  clone := fun g => match g with | _ => none
  keep := fun f i => match f, i with | 49, 0 => ([2, 3, 6, 7, 20, 21, 22], [1, 2, 3], []) | _, _ => ([], [], [])
  keepE := fun f i => match f, i with | 49, 0 => ([2, 3, 6, 7, 20, 21, 22], [1, 2, 3], []) | _, _ => ([], [], [])
  keepR := fun f i => match f, i with | 49, 0 => ([2, 3], [1, 2, 3], [2, 3]) | _, _ => ([], [], [])
  unroll := fun f i => match f, i with | _, _ => 0
  L := fun f i b st => match f, i, b with | 49, 0, 0 => (matchSt z92.l0sh st).bind z92.l0pack | _, _, _ => none
def z92.dec : V → Option ((List (List V)) × Int)
  | (.tup [(.recs _ 6 x0), (.int .i64 x1)]) => some (x0, x1)
  | _ => none
theorem z92.l0_link (R : Type) (k : Env × Store → Option R) (d : X × Env × Store → Option R) (t1001 : Int) (t1002 : List (List V)) (t1003 : Int) (t1004 : Int) (s1005 : List (List V)) (s1006 : List (List V)) (s1007 : Int) (s1008 : Int) (s1009 : Int) :
    z92.C.loopP 49 0 (loopAt 0 (ifun Tryz.f49).body) 4 k d (fillSt z92.l0sh [.i t1001, .lr t1002, .i t1003, .i t1004, .lr s1005, .lr s1006, .i s1007, .i s1008, .i s1009]) =
    z92.l0P t1002 t1003 (fun x' => k (fillSt z92.l0sh [.i t1001, .lr t1002, .i t1003, .i x'.1, .lr s1005, .lr x'.2.1, .i x'.2.2.1, .i x'.2.2.2.1, .i x'.2.2.2.2])) (fun o => d (z92.l0out0 t1001 t1002 t1003 t1004 s1005 s1006 s1007 s1008 s1009 o)) (t1004, s1006, s1007, s1008, s1009) := by kernel_rfl
theorem z92.link (a0 : List UInt8) (a1 : List UInt8) (a2 : Int) (a3 : Int) (a4 : Int) (a5 : Int) (a6 : Int) (a7 : Int) (a8 : Int) (a9 : Int) : z92.C.evTop 49 (ifun Tryz.f49) [(.agg [(.str a0), (.str a1), (.int .i64 a2), (.int .i64 a3), (.int .i64 a4), (.int .i64 a5), (.int .i64 a6), (.int .i64 a7), (.int .i64 a8), (.int .i64 a9)])] z92.dec = z92.F a0 a1 a2 a3 a4 a5 a6 a7 a8 a9 := by kernel_rfl
def z94.l0sh : Env × Store := ([.undef, .undef, (.int .i64 (0 : Int)), (.int .i64 (0 : Int)), .undef, .undef, (.ints false .i64 []), (.int .i64 (0 : Int)), (.int .i64 (0 : Int)), .undef, .undef, .undef, .undef, .undef, .undef, .undef, .undef, .undef], [])
def z94.l0so0 : Env × Store := ([.undef, .undef, (.int .i64 (0 : Int)), (.int .i64 (0 : Int)), .undef, .undef, (.ints false .i64 []), (.int .i64 (0 : Int)), (.int .i64 (0 : Int)), .undef, .undef, .undef, .undef, .undef, .undef, .undef, .undef, .undef], [])
def z94.l0so1 : Env × Store := ([.undef, .undef, (.int .i64 (0 : Int)), .undef, .undef, .undef, .undef, .undef, .undef, .undef, .undef, .undef, .undef, .undef, .undef, .undef, .undef, .undef], [])
def z94.l0out0 (t1001 : Int) (zero1002 : Int) (t1003 : List Int) (t1004 : Int) (t1005 : Int) (o : Int) : X × Env × Store := ((.exit 0), fillSt z94.l0so0 [.i t1001, .i zero1002, .li t1003, .i t1004, .i o])
def z94.l0out1 (t1001 : Int) (zero1002 : Int) (t1003 : List Int) (t1004 : Int) (t1005 : Int) (o : Int) : X × Env × Store := (.ret, fillSt z94.l0so1 [.i o])
def z94.l0pack : List Leaf → Option LPack
  | [.i t1001, .i zero1002, .li t1003, .i t1004, .i t1005] => some (.two _ _ (z94.l0 zero1002 t1003 t1004 t1005) (z94.l0out0 t1001 zero1002 t1003 t1004 t1005) (z94.l0out1 t1001 zero1002 t1003 t1004 t1005))
  | _ => none
def z94.C : Ctx where
  T := tab
  draws := fun f i => match f, i with | _, _ => ([], 0)
  call := fun g args => match g with | _ => none
  inl := fun g => match g with | _ => none
  rank := fun g => match g with | _ => 0
  prim := fun g => match g with | _ => none
  clone := fun g => match g with | _ => none
  keep := fun f i => match f, i with | 145, 0 => ([2, 3, 6, 7, 8], [], []) | _, _ => ([], [], [])
  keepE := fun f i => match f, i with | 145, 0 => ([2, 3, 6, 7, 8], [], []) | _, _ => ([], [], [])
  keepR := fun f i => match f, i with | 145, 0 => ([2], [], [2]) | _, _ => ([], [], [])
  unroll := fun f i => match f, i with | _, _ => 0
  L := fun f i b st => match f, i, b with | 145, 0, 0 => (matchSt z94.l0sh st).bind z94.l0pack | _, _, _ => none
def z94.dec : V → Option (Int)
  | (.int .i64 x0) => some x0
  | _ => none
theorem z94.l0_link (R : Type) (k : Env × Store → Option R) (d : X × Env × Store → Option R) (t1001 : Int) (zero1002 : Int) (t1003 : List Int) (t1004 : Int) (t1005 : Int) :
    z94.C.loopP 145 0 (loopAt 0 (ifun Tryz.f145).body) 0 k d (fillSt z94.l0sh [.i t1001, .i zero1002, .li t1003, .i t1004, .i t1005]) =
    z94.l0P zero1002 t1003 t1004 (fun x' => k (fillSt z94.l0sh [.i t1001, .i zero1002, .li t1003, .i t1004, .i x'])) (fun o => match o with | .inl o => d (z94.l0out0 t1001 zero1002 t1003 t1004 t1005 o) | .inr o => d (z94.l0out1 t1001 zero1002 t1003 t1004 t1005 o)) t1005 := by kernel_rfl
theorem z94.link (a0 : List Int) : z94.C.evTop 145 (ifun Tryz.f145) [(.ints false .i64 a0)] z94.dec = z94.F a0 := by kernel_rfl
def z95.C : Ctx where
  T := tab
  draws := fun f i => match f, i with | 57, 1 => ([(6, [(2, 0)], 0), (7, [(5, 1)], 1), (8, [(3, 0)], 0), (9, [(7, 3)], 4), (10, [(6, 2), (8, 4)], 15), (11, [(2, 0)], 0), (12, [(10, 6)], 32), (13, [(3, 0)], 0), (14, [(12, 8)], 128), (15, [(11, 7), (13, 9)], 511), (16, [(2, 0)], 0), (17, [(15, 11)], 1024), (18, [(3, 0)], 0), (19, [(17, 13)], 4096), (20, [(16, 12), (18, 14)], 16383), (21, [(9, 5), (14, 10), (19, 15)], 32767), (22, [(20, 16)], 65535), (5, [(21, 17)], 131071)], 4194288) | _, _ => ([], 0)
  call := fun g args => match g with | 146 => z27.pack args | 145 => z94.pack args | _ => none
  inl := fun g => match g with | _ => none
  rank := fun g => match g with | _ => 0
  prim := fun g => match g with | _ => none
  clone := fun g => match g with | _ => none
  keep := fun f i => match f, i with | _, _ => ([], [], [])
  keepE := fun f i => match f, i with | _, _ => ([], [], [])
  keepR := fun f i => match f, i with | _, _ => ([], [], [])
  unroll := fun f i => match f, i with | _, _ => 0
  L := fun f i b st => match f, i, b with | _, _, _ => none
def z95.dec : V → Option (Int)
  | (.int .i64 x0) => some x0
  | _ => none
theorem z95.link (a0 : Int) (a1 : Int) (a2 : Int) (a3 : Int) (a4 : Int) (a5 : Int) : z95.C.evTop 57 (ifun Tryz.f57) [(.agg [(.int .i64 a0), (.int .i64 a1), (.int .i64 a2)]), (.agg [(.int .i64 a3), (.int .i64 a4), (.int .i64 a5)])] z95.dec = z95.F a0 a1 a2 a3 a4 a5 := by kernel_rfl
def z96.l0sh : Env × Store := ([(.recs false 3 []), (.func 144 [(.ptr 1 0)]), .undef, .undef, (.int .i64 (0 : Int)), .undef, .undef, (.int .i64 (0 : Int)), (.int .i64 (0 : Int)), .undef, .undef, .undef, .undef, .undef, .undef, .undef, .undef, .undef, .undef], [(.cells [(.str ([] : List UInt8)), (.str ([] : List UInt8)), (.int .i64 (0 : Int)), (.int .i64 (0 : Int)), (.int .i64 (0 : Int)), (.int .i64 (0 : Int)), (.int .i64 (0 : Int)), (.int .i64 (0 : Int)), (.int .i64 (0 : Int)), (.int .i64 (0 : Int))]), (.cells [(.int .i64 (0 : Int)), (.int .i64 (0 : Int)), (.int .i64 (0 : Int))])])
def z96.l0so0 : Env × Store := ([(.recs false 3 []), (.func 144 [(.ptr 1 0)]), .undef, .undef, (.int .i64 (0 : Int)), .undef, .undef, (.int .i64 (0 : Int)), (.int .i64 (0 : Int)), .undef, .undef, .undef, .undef, .undef, .undef, .undef, .undef, .undef, .undef], [(.cells [(.str ([] : List UInt8)), (.str ([] : List UInt8)), (.int .i64 (0 : Int)), (.int .i64 (0 : Int)), (.int .i64 (0 : Int)), (.int .i64 (0 : Int)), (.int .i64 (0 : Int)), (.int .i64 (0 : Int)), (.int .i64 (0 : Int)), (.int .i64 (0 : Int))]), (.cells [(.int .i64 (0 : Int)), (.int .i64 (0 : Int)), (.int .i64 (0 : Int))])])
def z96.l0so1 : Env × Store := ([.undef, .undef, .undef, .undef, (.int .i64 (0 : Int)), .undef, .undef, .undef, .undef, .undef, .undef, .undef, .undef, .undef, .undef, .undef, .undef, .undef, .undef], [(.cells [(.str ([] : List UInt8)), (.str ([] : List UInt8)), (.int .i64 (0 : Int)), (.int .i64 (0 : Int)), (.int .i64 (0 : Int)), (.int .i64 (0 : Int)), (.int .i64 (0 : Int)), (.int .i64 (0 : Int)), (.int .i64 (0 : Int)), (.int .i64 (0 : Int))]), (.cells [(.int .i64 (0 : Int)), (.int .i64 (0 : Int)), (.int .i64 (0 : Int))])])
def z96.l0out0 (s1001 : List (List V)) (t1002 : Int) (t1003 : Int) (t1004 : Int) (s1005 : List UInt8) (s1006 : List UInt8) (s1007 : Int) (s1008 : Int) (s1009 : Int) (s1010 : Int) (s1011 : Int) (s1012 : Int) (s1013 : Int) (s1014 : Int) (s1015 : Int) (s1016 : Int) (s1017 : Int) (o : Int) : X × Env × Store := ((.exit 0), fillSt z96.l0so0 [.lr s1001, .i t1002, .i t1003, .i o, .s s1005, .s s1006, .i s1007, .i s1008, .i s1009, .i s1010, .i s1011, .i s1012, .i s1013, .i s1014, .i s1015, .i s1016, .i s1017])
def z96.l0out1 (s1001 : List (List V)) (t1002 : Int) (t1003 : Int) (t1004 : Int) (s1005 : List UInt8) (s1006 : List UInt8) (s1007 : Int) (s1008 : Int) (s1009 : Int) (s1010 : Int) (s1011 : Int) (s1012 : Int) (s1013 : Int) (s1014 : Int) (s1015 : Int) (s1016 : Int) (s1017 : Int) (o : Int) : X × Env × Store := (.ret, fillSt z96.l0so1 [.i o, .s s1005, .s s1006, .i s1007, .i s1008, .i s1009, .i s1010, .i s1011, .i s1012, .i s1013, .i s1014, .i s1015, .i s1016, .i s1017])
def z96.l0pack : List Leaf → Option LPack
  | [.lr s1001, .i t1002, .i t1003, .i t1004, .s s1005, .s s1006, .i s1007, .i s1008, .i s1009, .i s1010, .i s1011, .i s1012, .i s1013, .i s1014, .i s1015, .i s1016, .i s1017] => some (.two _ _ (z96.l0 s1001 t1003 s1015 s1016 s1017 t1004) (z96.l0out0 s1001 t1002 t1003 t1004 s1005 s1006 s1007 s1008 s1009 s1010 s1011 s1012 s1013 s1014 s1015 s1016 s1017) (z96.l0out1 s1001 t1002 t1003 t1004 s1005 s1006 s1007 s1008 s1009 s1010 s1011 s1012 s1013 s1014 s1015 s1016 s1017))
  | _ => none
def z96.C : Ctx where
  T := tab
  draws := fun f i => match f, i with | _, _ => ([], 0)
  call := fun g args => match g with | 48 => z91.pack args | 142 => z87.pack args | 57 => z95.pack args | _ => none
  inl := fun g => match g with | 143 => some (ifun Tryz.f143) | 144 => some (ifun Tryz.f144) | _ => none
  rank := fun g => match g with | 143 => 1 | _ => 0
  prim := fun g => match g with | _ => none
  clone := fun g => match g with | _ => none
  keep := fun f i => match f, i with | 143, 0 => ([0, 1, 4, 7, 8], List.range 64, []) | _, _ => ([], [], [])
  keepE := fun f i => match f, i with | 143, 0 => ([0, 1, 4, 7, 8], List.range 64, []) | _, _ => ([], [], [])
  keepR := fun f i => match f, i with | 143, 0 => ([4], List.range 64, []) | _, _ => ([], [], [])
  unroll := fun f i => match f, i with | _, _ => 0
  L := fun f i b st => match f, i, b with | 143, 0, 2 => (matchSt z96.l0sh st).bind z96.l0pack | _, _, _ => none
def z96.dec : V → Option (Int × Int)
  | (.tup [(.int .i64 x0), (.int .i64 x1)]) => some (x0, x1)
  | _ => none
theorem z96.l0_link (R : Type) (k : Env × Store → Option R) (d : X × Env × Store → Option R) (s1001 : List (List V)) (t1002 : Int) (t1003 : Int) (t1004 : Int) (s1005 : List UInt8) (s1006 : List UInt8) (s1007 : Int) (s1008 : Int) (s1009 : Int) (s1010 : Int) (s1011 : Int) (s1012 : Int) (s1013 : Int) (s1014 : Int) (s1015 : Int) (s1016 : Int) (s1017 : Int) :
    z96.C.loopPI (z96.C.inlK 1) 143 0 2 (loopAt 0 (ifun Tryz.f143).body) 2 k d (fillSt z96.l0sh [.lr s1001, .i t1002, .i t1003, .i t1004, .s s1005, .s s1006, .i s1007, .i s1008, .i s1009, .i s1010, .i s1011, .i s1012, .i s1013, .i s1014, .i s1015, .i s1016, .i s1017]) =
    z96.l0P s1001 t1003 s1015 s1016 s1017 (fun x' => k (fillSt z96.l0sh [.lr s1001, .i t1002, .i t1003, .i x', .s s1005, .s s1006, .i s1007, .i s1008, .i s1009, .i s1010, .i s1011, .i s1012, .i s1013, .i s1014, .i s1015, .i s1016, .i s1017])) (fun o => match o with | .inl o => d (z96.l0out0 s1001 t1002 t1003 t1004 s1005 s1006 s1007 s1008 s1009 s1010 s1011 s1012 s1013 s1014 s1015 s1016 s1017 o) | .inr o => d (z96.l0out1 s1001 t1002 t1003 t1004 s1005 s1006 s1007 s1008 s1009 s1010 s1011 s1012 s1013 s1014 s1015 s1016 s1017 o)) t1004 := by kernel_rfl
theorem z96.link (a0 : List UInt8) (a1 : List UInt8) (a2 : Int) (a3 : Int) (a4 : Int) (a5 : Int) (a6 : Int) (a7 : Int) (a8 : Int) (a9 : Int) (a10 : Int) (a11 : Int) (a12 : Int) : z96.C.evTop 55 (ifun Tryz.f55) [(.agg [(.str a0), (.str a1), (.int .i64 a2), (.int .i64 a3), (.int .i64 a4), (.int .i64 a5), (.int .i64 a6), (.int .i64 a7), (.int .i64 a8), (.int .i64 a9)]), (.agg [(.int .i64 a10), (.int .i64 a11), (.int .i64 a12)])] z96.dec = z96.F a0 a1 a2 a3 a4 a5 a6 a7 a8 a9 a10 a11 a12 := by kernel_rfl
end
end Go.Proofs.YtgjncgiekniniaaGreatDoor.A
end
