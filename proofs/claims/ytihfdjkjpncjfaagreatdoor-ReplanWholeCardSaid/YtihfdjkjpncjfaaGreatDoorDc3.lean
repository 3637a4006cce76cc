/- Part 3 of the proof of ReplanWhole.card. -/
import Derived.Test.YtihfdjkjpncjfaaGreatDoorDc2
import Derived.Test.YtihfdjkjpncjfaaGreatDoorRows
import Derived.WalkKit
import Derived.ProofKit
import Derived.OpenShut
import Derived.Carry
import Derived.ChangeSame
import Derived.Deep.Slices
import Derived.Test.YtihfdjkjpncjfaaGreatDoorCards
import Derived.Test.YtihfdjkjpncjfaaGreatDoorTie
import Derived.KernelRfl
import Derived.JoinedCond
set_option linter.unusedVariables false
set_option linter.unusedSimpArgs false
section
set_option maxRecDepth 100000
namespace Go.Proofs.YtihfdjkjpncjfaaGreatDoor.A
open Go
noncomputable section
def z9.C:Ctx where
 T:=tab
 draws:=λf i=>match f,i with|63,6=>([(32,[(1,0)],0),(33,[(31,1)],1),(34,[(32,2)],3),(35,[(33,3)],7),(36,[(1,0)],0),(37,[(35,5)],16),(38,[(36,6)],48),(0,[(2,0),(34,4)],15),(4,[(37,7)],255)],272730423304)|_,_=>([],0)
 call:=Qg [(133,z8.pack)]
def z9.dec:V->Option (Int×Int×Int×Bool)
 |(.tup [(.agg [(.int .i64 x0),(.int .i64 x1),(.int .i64 x2)]),(.bool x3)])=>some (x0,x1,x2,x3)
 |_=>none
theorem z9.link (a0 a1 a2:Int):z9.C.evTop 63 (ifun Tryz.f63) [(.agg [(.int .i64 a0),(.int .i64 a1),(.int .i64 a2)])] z9.dec=z9.F a0 a1 a2:=by kernel_rfl
def z13.l2sh:Env×Store:=(.undef :: .undef::(.ptr 0 0) :: .undef::(.sref 2 0)::(.sref 3 0)::(.ptr 4 0)::(.int .i64 0)::(.int .i64 0)::un 13 ((.int .i64 0)::(.bool false)::un 81 []),[(.cells 69 [(.int .i64 0),(.int .i64 0),(.int .i64 0),(.ints false .u8 []),(.ints false .u8 []),(.ints false .u32 [])]),.dead,(.arr 0 true 85 (.recs false 5 [])),(.arr 0 true 85 (.recs false 5 [])),(.cells 41 [(.int .i64 0),(.int .i64 0),(.int .i64 0)])])
def z13.l2at (a c:Int) (d:Bool) (e g h:Int) (j k m:J0) (n o:J2) (x:(Int×Int×Int×Int)):Env×Store:=Qf z13.l2sh [.i a,.i x.1,.i c,.b d,.i e,.i g,.i h,.li j,.li k,.li m,.lr n,.lr o,.i x.2.1,.i x.2.2.1,.i x.2.2.2]
def z13.l2out0 (a c:Int) (d:Bool) (e g h:Int) (j k m:J0) (n p:J2) (o:Int×Int×Int×Int):X×Env×Store:=((.exit 2),Qf z13.l2sh [.i a,.i o.1,.i c,.b d,.i e,.i g,.i h,.li j,.li k,.li m,.lr n,.lr p,.i o.2.1,.i o.2.2.1,.i o.2.2.2])
def z13.l2pack:List Leaf->Option LPack
 |[.i a,.i c,.i d,.b e,.i g,.i h,.i j,.li k,.li m,.li n,.lr o,.lr p,.i q,.i r,.i s]=>some (.one _ (z13.l2 a k (c,q,r,s)) (z13.l2out0 a d e g h j k m n o p))
 |_=>none
def z13.l0sh:Env×Store:=(.undef :: .undef::(.ptr 0 0) :: .undef::(.sref 2 0)::(.sref 3 0)::(.ptr 4 0)::(.int .i64 0)::un 97 [],[(.cells 69 [(.int .i64 0),(.int .i64 0),(.int .i64 0),(.ints false .u8 []),(.ints false .u8 []),(.ints false .u32 [])]),.dead,(.arr 0 true 85 (.recs false 5 [])),(.arr 0 true 85 (.recs false 5 [])),(.cells 41 [(.int .i64 0),(.int .i64 0),(.int .i64 0)])])
def z13.l0at (a b c:Int) (d e g:J0) (h:J2) (x:(Int×J2×Int×Int×Int)):Env×Store:=Qf z13.l0sh [.i x.1,.i a,.i b,.i c,.li d,.li e,.li g,.lr h,.lr x.2.1,.i x.2.2.1,.i x.2.2.2.1,.i x.2.2.2.2]
def z13.l0out0 (a b c:Int) (d e g:J0) (h:J2) (o:Int×J2×Int×Int×Int):X×Env×Store:=((.exit 0),Qf z13.l0sh [.i o.1,.i a,.i b,.i c,.li d,.li e,.li g,.lr h,.lr o.2.1,.i o.2.2.1,.i o.2.2.2.1,.i o.2.2.2.2])
def z13.l0pack:List Leaf->Option LPack
 |[.i a,.i b,.i c,.i d,.li e,.li g,.li h,.lr j,.lr k,.i m,.i n,.i o]=>some (.one _ (z13.l0 e g h (a,k,m,n,o)) (z13.l0out0 b c d e g h j))
 |_=>none
def z13.C:Ctx where
 T:=tab
 call:=Qg [(63,z9.pack),(64,z12.pack),(14,z6.pack)]
 keep:=λf i=>match f,i with|46,2=>([2,4,5,6,7,8,22,23,94,95,96,97],[0,2,3,4],[])|46,0=>([2,4,5,6,7],[0,2,3,4],[])|_,_=>([],[],[])
 keepR:=λf i=>match f,i with|46,2=>([4],[0,2,3,4],[4])|46,0=>([4],[0,2,3,4],[4])|_,_=>([],[],[])
 L:=Qv [⟨46,2,0,z13.l2sh,z13.l2pack⟩,⟨46,0,0,z13.l0sh,z13.l0pack⟩]
theorem z13.l2_link (a b:Int) (c:Bool) (d e g:Int) (h j k:J0) (m n:J2):Qr z13.C 6 46 2 0 5 (ifun Tryz.f46) (z13.l2at a b c d e g h j k m n) (z13.l2P a h) (z13.l2out0 a b c d e g h j k m n):=λ_ _ _ _=>by kernel_rfl
theorem z13.l0_link (a b c:Int) (d e g:J0) (h:J2):Qr z13.C 6 46 0 0 5 (ifun Tryz.f46) (z13.l0at a b c d e g h) (z13.l0P d e g) (z13.l0out0 a b c d e g h):=λ_ _ _ _=>by kernel_rfl
def z13.decN:V->Option (J2)
 |(.recs false 5 x0)=>some x0
 |_=>none
theorem z13.linkN (a0 a1 a2:Int) (a3 a4 a5:J0) (a6 a7 a8:Int):z13.C.evNew 46 (ifun Tryz.f46) 85 [(.agg [(.int .i64 a0),(.int .i64 a1),(.int .i64 a2),(.ints false .u8 a3),(.ints false .u8 a4),(.ints false .u32 a5)]),(.agg [(.int .i64 a6),(.int .i64 a7),(.int .i64 a8)])] z13.decN=z13.F a0 a1 a2 a3 a4 a5 a6 a7 a8:=by kernel_rfl
def z14.C:Ctx where
 T:=tab
 call:=Qg [(133,z8.pack)]
def z14.dec:V->Option (Int×Int×Int)
 |(.agg [(.int .i64 x0),(.int .i64 x1),(.int .i64 x2)])=>some (x0,x1,x2)
 |_=>none
theorem z14.link (a0 a1 a2 a3:Int):z14.C.evTop 62 (ifun Tryz.f62) [(.agg [(.int .i64 a0),(.int .i64 a1),(.int .i64 a2)]),(.int .i64 a3)] z14.dec=z14.F a0 a1 a2 a3:=by kernel_rfl
def z16.C:Ctx where
 T:=tab
 call:=Qg [(283,z15.pack)]
def z16.dec:V->Option (Int)
 |(.int .i64 x0)=>some x0
 |_=>none
theorem z16.link (a0 a1:Int):z16.C.evTop 206 (ifun Tryz.f206) [(.int .i64 a0),(.int .i64 a1)] z16.dec=z16.F a0 a1:=by kernel_rfl
def z21.C:Ctx where
 T:=tab
 call:=Qg [(248,z19.pack),(249,z20.pack)]
theorem z21.link (a0 a1:Int):z21.C.evTop 183 (ifun Tryz.f183) [(.int .i64 a0),(.int .i64 a1)] z16.dec=z21.F a0 a1:=by kernel_rfl
def z23.C:Ctx where
 T:=tab
def z23.dec:V->Option (Bool)
 |(.bool x0)=>some x0
 |_=>none
theorem z23.link (a0:J0):z23.C.evTop 75 (ifun Tryz.f75) [(.agg [(.ints false .u64 a0)])] z23.dec=z23.F a0:=by kernel_rfl
def z24.C:Ctx where
 T:=tab
 call:=Qg [(75,z23.pack)]
theorem z24.link (a0:J0) (a1:Bool):z24.C.evTop 16 (ifun Tryz.f16) [(.agg [(.ints false .u64 a0),(.bool a1)])] z16.dec=z24.F a0 a1:=by kernel_rfl
def z30.C:Ctx where
 T:=tab
 call:=Qg [(32,z25.pack)]
def z30.dec:V->Option (J0×Bool)
 |(.agg [(.ints _ .u64 x0),(.bool x1)])=>some (x0,x1)
 |_=>none
theorem z30.link (a0:J0) (a1:Bool):z30.C.evTop 81 (ifun Tryz.f81) [(.agg [(.ints false .u64 a0),(.bool a1)])] z30.dec=z30.F a0 a1:=by kernel_rfl
def z34.C:Ctx where
 T:=tab
 call:=Qg [(284,z33.pack)]
theorem z34.link (a0 a1:Int):z34.C.evTop 207 (ifun Tryz.f207) [(.int .u64 a0),(.int .u64 a1)] z16.dec=z34.F a0 a1:=by kernel_rfl
def z46.C:Ctx where
 T:=tab
 draws:=λf i=>match f,i with|142,4=>([(22,[],0),(23,[(2,0)],0),(0,[(4,0),(21,1)],1),(0,[(5,0),(22,2)],7),(7,[],15)],6291520)|142,5=>([(24,[(2,0)],0),(25,[(23,1)],1),(26,[(3,0)],0),(27,[(25,3)],7),(8,[(24,2)],15),(9,[(26,4)],31)],125829504)|_,_=>([],0)
 call:=Qg [(75,z23.pack),(140,z35.pack),(143,z37.pack),(208,z41.pack),(33,z27.pack),(209,z45.pack)]
def z46.dec:V->Option (J0×J0×Int)
 |(.tup [(.agg [(.ints _ .u64 x0)]),(.agg [(.ints _ .u64 x1)]),(.int .i64 x2)])=>some (x0,x1,x2)
 |_=>none
theorem z46.link (a0 a1:J0):z46.C.evTop 142 (ifun Tryz.f142) [(.agg [(.ints false .u64 a0)]),(.agg [(.ints false .u64 a1)])] z46.dec=z46.F a0 a1:=by kernel_rfl
def z50.l0ash:Env×Store:=(.undef::(.int .u64 0)::(.sview 3 0 0 0)::(.ptr 4 0) :: .undef :: .undef::(.int .u64 0)::un 6 ((.ints false .u64 [])::(.int .i64 0)::(.int .i64 0)::un 44 []),[(.cells 37 [(.ints false .u64 [])]),.dead,(.cells 37 [(.ints false .u64 [])]),(.arr 0 false 63 (.ints false .u64 [])),(.cells 37 [(.ints false .u64 [])])])
def z50.l0aat (a:Int) (b c:Nat) (d:J0) (e:Int) (g h j:J0) (x:(Int×Int×J0)):Env×Store:=Qf z50.l0ash [.i a,.n b,.n c,.i x.1,.li d,.i e,.i x.2.1,.li g,.li h,.li x.2.2,.li j]
def z50.l0aout0 (a:Int) (b c:Nat) (d:J0) (e:Int) (g h j:J0) (o:Int×Int×J0):X×Env×Store:=((.exit 0),Qf z50.l0ash [.i a,.n b,.n c,.i o.1,.li d,.i e,.i o.2.1,.li g,.li h,.li o.2.2,.li j])
def z50.l0apack:List Leaf->Option LPack
 |[.i a,.n b,.n c,.i d,.li e,.i g,.i h,.li j,.li k,.li m,.li o]=>some (.one _ (z50.l0a a b c e g (d,h,m)) (z50.l0aout0 a b c e g j k o))
 |_=>none
def z50.l0sh:Env×Store:=(.undef :: .undef::(.ptr 0 0) :: .undef::(.ptr 2 0)::(.sref 3 0)::un 12 ((.ints false .u64 [])::(.int .i64 0)::(.int .i64 0)::un 13 []),[(.cells 37 [(.ints false .u64 [])]),.dead,(.cells 37 [(.ints false .u64 [])]),(.arr 0 false 63 (.ints false .u64 []))])
def z50.l0at (a:J0) (b:Int) (c d:J0) (x:(Int×J0)):Env×Store:=Qf z50.l0sh [.li a,.i b,.i x.1,.li c,.li d,.li x.2]
def z50.l0out0 (a:J0) (b:Int) (c d:J0) (o:Int×J0):X×Env×Store:=((.exit 0),Qf z50.l0sh [.li a,.i b,.i o.1,.li c,.li d,.li o.2])
def z50.l0pack:List Leaf->Option LPack
 |[.li a,.i b,.i c,.li d,.li e,.li g]=>some (.one _ (z50.l0 a b d (c,g)) (z50.l0out0 a b d e))
 |_=>none
def z50.C:Ctx where
 T:=tab
 draws:=λf i=>match f,i with|161,5=>([(26,[(2,0)],0),(27,[(7,0)],0),(28,[(5,0)],0),(29,[(6,0)],0),(30,[(27,3),(28,4)],12),(31,[(25,1),(26,2),(29,5)],31)],2113929216)|_,_=>([],0)
 call:=Qg [(297,z44.pack),(138,z0.pack),(107,z26.pack)]
 inl:=inlL [(223,Tryz.f223)]
 keep:=λf i=>match f,i with|223,0=>([1,2,3,6,13,14,15],List.range 64,[])|161,0=>([2,4,5,18,19,20],[0,2,3],[])|_,_=>([],[],[])
 keepR:=λf i=>match f,i with|223,0=>([],List.range 64,[])|161,0=>([4],[0,2,3],[4])|_,_=>([],[],[])
 L:=Qv [⟨223,0,4,z50.l0ash,z50.l0apack⟩,⟨161,0,0,z50.l0sh,z50.l0pack⟩]
def z50.dec:V->Option (J0)
 |(.agg [(.ints _ .u64 x0)])=>some x0
 |_=>none
theorem z50.l0a_link (a:Int) (b c:Nat) (d:J0) (e:Int) (g h j:J0):Qr z50.C 0 223 0 4 5 (ifun Tryz.f223) (z50.l0aat a b c d e g h j) (z50.l0aP a b c d e) (z50.l0aout0 a b c d e g h j):=λ_ _ _ _=>by kernel_rfl
theorem z50.l0_link (a:J0) (b:Int) (c d:J0):Qr z50.C 6 161 0 0 4 (ifun Tryz.f161) (z50.l0at a b c d) (z50.l0P a b c) (z50.l0out0 a b c d):=λ_ _ _ _=>by kernel_rfl
theorem z50.link (a0 a1:J0):z50.C.evTop 161 (ifun Tryz.f161) [(.agg [(.ints false .u64 a0)]),(.agg [(.ints false .u64 a1)])] z50.dec=z50.F a0 a1:=by kernel_rfl
def z51.C:Ctx where
 T:=tab
 draws:=λf i=>match f,i with|239,1=>([(6,[(2,0)],0),(7,[(5,1)],1),(8,[(3,0)],0),(9,[(7,3)],4),(10,[(6,2),(8,4)],15),(11,[(2,0)],0),(12,[(10,6)],32),(13,[(3,0)],0),(14,[(12,8)],128),(15,[(11,7),(13,9)],480),(16,[(9,5),(14,10)],1023),(0,[(4,0),(15,11)],2047)],65504)|_,_=>([],0)
 call:=Qg [(161,z50.pack),(32,z25.pack)]
theorem z51.link (a0:J0) (a1:Bool) (a2:J0) (a3:Bool):z51.C.evTop 239 (ifun Tryz.f239) [(.agg [(.ints false .u64 a0),(.bool a1)]),(.agg [(.ints false .u64 a2),(.bool a3)])] z30.dec=z51.F a0 a1 a2 a3:=by kernel_rfl
def z53.C:Ctx where
 T:=tab
 draws:=λf i=>match f,i with|235,1=>([(4,[(1,0)],0),(5,[(3,1)],1),(6,[],0),(7,[(5,3)],4),(8,[(4,2),(6,4)],15),(0,[(2,0),(7,5)],31)],248)|_,_=>([],0)
 call:=Qg [(33,z27.pack),(68,z52.pack)]
theorem z53.link (a0:J0) (a1:Bool) (a2:J0):z53.C.evTop 235 (ifun Tryz.f235) [(.agg [(.ints false .u64 a0),(.bool a1),(.ints false .u64 a2)])] z50.dec=z53.F a0 a1 a2:=by kernel_rfl
def z55.C:Ctx where
 T:=tab
 draws:=λf i=>match f,i with|234,1=>([(7,[(2,0)],0),(8,[(6,1)],1),(9,[(3,0)],0),(10,[(8,3)],4),(11,[(7,2),(9,4)],15),(12,[(2,0)],0),(13,[(11,6)],63),(14,[(3,0)],0),(15,[(13,8)],128),(16,[(12,7),(14,9)],511),(17,[(10,5),(15,10)],1023),(18,[(16,11)],2047),(19,[(16,11)],2047),(0,[(4,0),(17,12)],8191),(6,[(18,13)],16383)],524256)|_,_=>([],0)
 call:=Qg [(304,z54.pack),(239,z51.pack),(174,z49.pack)]
def z55.dec:V->Option (J0×Bool×J0×Int)
 |(.tup [(.agg [(.ints _ .u64 x0),(.bool x1),(.ints _ .u64 x2)]),(.int .i64 x3)])=>some (x0,x1,x2,x3)
 |_=>none
theorem z55.link (a0:J0) (a1:Bool) (a2 a3:J0) (a4:Bool) (a5:J0):z55.C.evTop 234 (ifun Tryz.f234) [(.agg [(.ints false .u64 a0),(.bool a1),(.ints false .u64 a2)]),(.agg [(.ints false .u64 a3),(.bool a4),(.ints false .u64 a5)])] z55.dec=z55.F a0 a1 a2 a3 a4 a5:=by kernel_rfl
def z56.C:Ctx where
 T:=tab
theorem z56.link (a0 a1:J1):z56.C.evTop 124 (ifun Tryz.f124) [(.str a0),(.str a1)] z23.dec=z56.F a0 a1:=by kernel_rfl
def z60.C:Ctx where
 T:=tab
 call:=Qg [(160,z3.pack)]
theorem z60.link (a0:J1):z60.C.evTop 310 (ifun Tryz.f310) [(.str a0)] z23.dec=z60.F a0:=by kernel_rfl
def z62.C:Ctx where
 T:=tab
theorem z62.link (a0:Int):z62.C.evTop 311 (ifun Tryz.f311) [(.int .i64 a0)] z23.dec=z62.F a0:=by kernel_rfl
def z66.C:Ctx where
 T:=tab
 draws:=λf i=>match f,i with|132,1=>([(6,[(2,0)],0),(7,[(3,0)],0),(8,[(6,2)],2),(9,[(5,1),(7,3)],7),(0,[(4,0),(8,4)],15)],480)|_,_=>([],0)
 call:=Qg [(81,z30.pack),(12,z65.pack)]
theorem z66.link (a0:J0) (a1:Bool) (a2:J0) (a3:Bool):z66.C.evTop 132 (ifun Tryz.f132) [(.agg [(.ints false .u64 a0),(.bool a1)]),(.agg [(.ints false .u64 a2),(.bool a3)])] z30.dec=z66.F a0 a1 a2 a3:=by kernel_rfl
def z67.C:Ctx where
 T:=tab
 call:=Qg [(132,z66.pack),(16,z24.pack)]
theorem z67.link (a0:J0) (a1:Bool) (a2:J0) (a3:Bool):z67.C.evTop 155 (ifun Tryz.f155) [(.agg [(.ints false .u64 a0),(.bool a1)]),(.agg [(.ints false .u64 a2),(.bool a3)])] z16.dec=z67.F a0 a1 a2 a3:=by kernel_rfl
def z73.C:Ctx where
 T:=tab
theorem z73.link (a0:J0) (a1:Bool) (a2:Int):z73.C.evTop 254 (ifun Tryz.f254) [(.agg [(.ints false .u64 a0),(.bool a1),(.int .i64 a2)])] z16.dec=z73.F a0 a1 a2:=by kernel_rfl
def z75.C:Ctx where
 T:=tab
 call:=Qg [(250,z61.pack),(37,z28.pack),(251,z63.pack),(252,z64.pack),(16,z24.pack),(253,z72.pack),(254,z73.pack),(255,z74.pack),(172,z29.pack),(234,z55.pack)]
theorem z75.link (a0:J1):z75.C.evTop 184 (ifun Tryz.f184) [(.str a0)] z55.dec=z75.F a0:=by kernel_rfl
def z78.C:Ctx where
 T:=tab
 draws:=λf i=>match f,i with|89,4=>([(18,[(4,0)],0),(19,[(17,1)],1),(20,[(18,2)],3),(21,[(19,3)],7),(22,[(4,0),(20,4)],15),(23,[(20,4)],15),(24,[(21,5),(22,6),(20,4)],63),(25,[(23,7),(20,4)],127),(26,[(20,4),(24,8)],255),(17,[(25,9)],511)],67043328)|_,_=>([],0)
 call:=Qg [(27,z76.pack),(16,z24.pack),(156,z77.pack),(155,z67.pack)]
def z78.dec:V->Option (J0×Bool×Int)
 |(.tup [(.agg [(.ints _ .u64 x0),(.bool x1)]),(.int .i64 x2)])=>some (x0,x1,x2)
 |_=>none
theorem z78.link (a0:J1):z78.C.evTop 89 (ifun Tryz.f89) [(.str a0)] z78.dec=z78.F a0:=by kernel_rfl
def z79.C:Ctx where
 T:=tab
 call:=Qg [(89,z78.pack),(16,z24.pack)]
theorem z79.link (a0:J1):z79.C.evTop 292 (ifun Tryz.f292) [(.str a0)] z16.dec=z79.F a0:=by kernel_rfl
def z83.l0sh:Env×Store:=((.int .u64 0)::(.int .i64 0) :: .undef :: .undef::(.str ([]:J1))::(.ptr 0 0)::(.int .i64 0)::un 21 [],[(.arr 0 false 322 (.ints false .u8 []))])
def z83.l0at (a:Int) (b:J1) (x:(Int×Int×J0)):Env×Store:=Qf z83.l0sh [.i x.1,.i a,.s b,.i x.2.1,.li x.2.2]
def z83.l0out0 (a:Int) (b:J1) (o:Int×Int×J0):X×Env×Store:=((.exit 0),Qf z83.l0sh [.i o.1,.i a,.s b,.i o.2.1,.li o.2.2])
def z83.l0pack:List Leaf->Option LPack
 |[.i a,.i b,.s c,.i d,.li e]=>some (.one _ (z83.l0 b (a,d,e)) (z83.l0out0 b c))
 |_=>none
def z83.C:Ctx where
 T:=tab
 keep:=λf i=>match f,i with|144,0=>([0,1,4,5,6],[0],[])|_,_=>([],[],[])
 keepR:=λf i=>match f,i with|144,0=>([4],[0],[4])|_,_=>([],[],[])
 L:=Qv [⟨144,0,0,z83.l0sh,z83.l0pack⟩]
def z83.dec:V->Option (J1)
 |(.str x0)=>some x0
 |_=>none
theorem z83.l0_link (a:Int) (b:J1):Qr z83.C 6 144 0 0 1 (ifun Tryz.f144) (z83.l0at a b) (z83.l0P a) (z83.l0out0 a b):=λ_ _ _ _=>by kernel_rfl
theorem z83.link (a0 a1:Int):z83.C.evTop 144 (ifun Tryz.f144) [(.int .u64 a0),(.int .i64 a1)] z83.dec=z83.F a0 a1:=by kernel_rfl
def z84.l2sh:Env×Store:=(.undef::(.ptr 0 0)::(.str ([]:J1))::(.sref 1 0)::(.ptr 2 0) :: .undef :: .undef::(.int .u64 0)::un 19 ((.ints false .u64 [])::(.int .i64 0)::(.int .i64 0)::un 27 []),[(.cells 37 [(.ints false .u64 [])]),(.arr 0 true 9 (.strs false [])),(.cells 37 [(.ints false .u64 [])]),.dead])
def z84.l2at (a:J1) (b:J0) (c:Int) (d:J0) (e:List J1) (g:J0) (x:(Int×Int)):Env×Store:=Qf z84.l2sh [.s a,.i x.1,.li b,.i c,.i x.2,.li d,.ls e,.li g]
def z84.l2out0 (a:J1) (b:J0) (c:Int) (d:J0) (e:List J1) (g:J0) (o:Int×Int):X×Env×Store:=((.exit 2),Qf z84.l2sh [.s a,.i o.1,.li b,.i c,.i o.2,.li d,.ls e,.li g])
def z84.l2pack:List Leaf->Option LPack
 |[.s a,.i b,.li c,.i d,.i e,.li g,.ls h,.li j]=>some (.one _ (z84.l2 c d (b,e)) (z84.l2out0 a c d g h j))
 |_=>none
def z84.l0sh:Env×Store:=(.undef::(.ptr 0 0)::(.str ([]:J1))::(.sref 1 0)::un 53 [],[(.cells 37 [(.ints false .u64 [])]),(.arr 0 true 9 (.strs false []))])
def z84.l0at (a:J1) (x:(J0×(List J1))):Env×Store:=Qf z84.l0sh [.s a,.li x.1,.ls x.2]
def z84.l0out0 (a:J1) (o:J0×(List J1)):X×Env×Store:=((.exit 0),Qf z84.l0sh [.s a,.li o.1,.ls o.2])
def z84.l0pack:List Leaf->Option LPack
 |[.s a,.li b,.ls c]=>some (.one _ (z84.l0 (b,c)) (z84.l0out0 a))
 |_=>none
def z84.l4sh:Env×Store:=(.undef :: .undef::(.str ([]:J1))::(.sref 1 0)::un 7 ((.ptr 2 0)::(.int .i64 0)::un 44 []),[.dead,(.arr 0 true 9 (.strs false [])),(.cells 215 [(.ptr 2 0),(.sref 3 0)]),(.arr 0 true 5 (.ints false .u8 []))])
def z84.l4at (a:J1) (b:List J1) (x:(Int×J0)):Env×Store:=Qf z84.l4sh [.s a,.i x.1,.ls b,.li x.2]
def z84.l4out0 (a:J1) (b:List J1) (o:Int×J0):X×Env×Store:=((.exit 4),Qf z84.l4sh [.s a,.i o.1,.ls b,.li o.2])
def z84.l4pack:List Leaf->Option LPack
 |[.s a,.i b,.ls c,.li d]=>some (.one _ (z84.l4 c (b,d)) (z84.l4out0 a c))
 |_=>none
def z84.C:Ctx where
 T:=tab
 draws:=λf i=>match f,i with|70,5=>([(20,[(1,0)],0),(21,[],0),(22,[(20,2)],2),(23,[(19,1),(21,3)],7),(19,[(22,4)],15),(24,[(18,5)],31),(25,[(18,5)],31),(26,[(18,5)],31),(5,[],0),(6,[],0),(0,[(4,9),(23,6)],831),(0,[(5,10),(24,7)],1919),(7,[(25,8)],4095)],66846832)|119,1=>([(4,[(0,0)],0),(5,[(3,1)],1),(6,[(4,2)],3),(7,[(5,3)],7),(8,[(6,4)],15),(9,[(0,0)],0),(10,[(8,6)],32),(11,[(9,7)],96),(12,[(10,8)],224),(13,[(11,9)],480),(14,[(7,5),(12,10)],1023),(3,[(13,11)],2047)],16380)|_,_=>([],0)
 call:=Qg [(75,z23.pack),(33,z27.pack),(142,z46.pack),(143,z37.pack),(144,z83.pack)]
 inl:=inlL [(119,Tryz.f119),(117,Tryz.f117)]
 rank:=λg=>match g with|117=>1|_=>0
 prim:=W9 [(185,Qbr 215)]
 keep:=λf i=>match f,i with|70,2=>([1,2,3,4,7,27,28,29],[0,1,2],[])|70,0=>([1,2,3],[0,1],[])|70,4=>([2,3,11,12],[1,2,3],[])|_,_=>([],[],[])
 keepR:=λf i=>match f,i with|70,2=>([2],[0,1,2],[2])|70,0=>([2],[0,1],[2])|70,4=>([2],[1,2,3],[2])|_,_=>([],[],[])
 unroll:=λf i=>match f,i with|70,4=>1|_,_=>0
 L:=Qv [⟨70,2,0,z84.l2sh,z84.l2pack⟩,⟨70,0,0,z84.l0sh,z84.l0pack⟩,⟨70,4,0,z84.l4sh,z84.l4pack⟩]
theorem z84.l2_link (a:J1) (b:J0) (c:Int) (d:J0) (e:List J1) (g:J0):Qr z84.C 6 70 2 0 4 (ifun Tryz.f70) (z84.l2at a b c d e g) (z84.l2P b c) (z84.l2out0 a b c d e g):=λ_ _ _ _=>by kernel_rfl
theorem z84.l0_link (a:J1):Qr z84.C 6 70 0 0 2 (ifun Tryz.f70) (z84.l0at a) (z84.l0P ) (z84.l0out0 a):=λ_ _ _ _=>by kernel_rfl
theorem z84.l4_link (a:J1) (b:List J1):Qr z84.C 6 70 4 0 4 (ifun Tryz.f70) (z84.l4at a b) (z84.l4P b) (z84.l4out0 a b):=λ_ _ _ _=>by kernel_rfl
theorem z84.link (a0:J0):z84.C.evTop 70 (ifun Tryz.f70) [(.agg [(.ints false .u64 a0)])] z83.dec=z84.F a0:=by kernel_rfl
def z88.C:Ctx where
 T:=tab
 call:=Qg [(16,z24.pack)]
theorem z88.link (a0:J0) (a1:Bool) (a2:J0):z88.C.evTop 233 (ifun Tryz.f233) [(.agg [(.ints false .u64 a0),(.bool a1),(.ints false .u64 a2)])] z16.dec=z88.F a0 a1 a2:=by kernel_rfl
def z91.C:Ctx where
 T:=tab
 call:=Qg [(305,z90.pack),(293,z68.pack)]
def z91.dec:V->Option (J0×Int)
 |(.tup [(.agg [(.ints _ .u64 x0)]),(.int .i64 x1)])=>some (x0,x1)
 |_=>none
theorem z91.link (a0:J0) (a1:Int):z91.C.evTop 238 (ifun Tryz.f238) [(.agg [(.ints false .u64 a0)]),(.int .i64 a1)] z91.dec=z91.F a0 a1:=by kernel_rfl
def z101.C:Ctx where
 T:=tab
 draws:=λf i=>match f,i with|157,4=>([(27,[(10,0)],0),(28,[(0,0)],0),(29,[(27,2)],2),(30,[(28,3)],6),(31,[(29,4)],14),(32,[(26,1),(30,5)],31),(33,[(31,6)],63)],8522825728)|157,6=>([(34,[(0,0)],0),(35,[(0,0)],0),(36,[(34,2)],2),(37,[(35,3)],6),(38,[(36,4)],14),(39,[(10,0)],0),(40,[(37,5),(38,6)],62),(41,[(33,1)],127),(42,[(40,8)],255),(0,[(41,9),(39,7)],511)],4389456576512)|157,7=>([(44,[(0,0)],0),(45,[(0,0)],0),(46,[(44,2)],2),(47,[(45,3)],6),(48,[(46,4)],14),(49,[(0,0)],0),(50,[(48,6)],32),(51,[(49,7)],96),(52,[(50,8)],224),(53,[(0,0)],0),(54,[(52,10)],512),(55,[(53,11)],1536),(56,[(54,12)],3584),(57,[(3,0)],0),(58,[(47,5),(51,9),(55,13),(56,14)],16382),(43,[(57,15)],32766),(59,[(42,16)],65534),(60,[(42,16)],65534),(61,[(43,1)],131071),(62,[(60,19)],393215),(0,[(61,20),(58,17)],917503)],4611681620380876800)|157,8=>([(63,[(2,0)],0),(64,[(5,0)],0),(65,[(63,2)],2),(66,[(0,0)],0),(67,[(65,4)],8),(68,[(66,5)],24),(69,[(67,6)],56),(70,[(68,7)],120),(71,[(0,0)],0),(72,[(70,9)],256),(73,[(71,10)],768),(74,[(72,11)],1792),(75,[(62,1),(64,3),(69,8),(73,12)],4095),(9,[(74,13)],8191),(10,[],16383)],37774320176938734322432)|_,_=>([],0)
 call:=Qg [(89,z78.pack),(155,z67.pack),(132,z66.pack),(31,z99.pack),(13,z85.pack),(42,z100.pack)]
def z101.dec:V->List V->V->Option (J2×Int×J1×J1×Int×Int×Int×Int×Int×Int×Int×Int×J0×Bool×J1×J0×Bool×J2)
 |(.tup [(.recs _ 8 x0),(.int .i64 x1)]),[(.str x2),(.str x3),(.int .i64 x4),(.int .i64 x5),(.int .i64 x6),(.int .i64 x7),(.int .i64 x8),(.int .i64 x9),(.int .i64 x10),(.int .i64 x11),(.ints _ .u64 x12),(.bool x13),(.str x14),(.ints _ .u64 x15),(.bool x16)],(.recs _ 8 x17)=>some (x0,x1,x2,x3,x4,x5,x6,x7,x8,x9,x10,x11,x12,x13,x14,x15,x16,x17)
 |_,_,_=>none
theorem z101.link (a0 a1:J1) (a2 a3 a4 a5 a6 a7 a8 a9:Int) (a10:J0) (a11:Bool) (a12:J1) (a13:J0) (a14:Bool) (a15:J2) (a16 a17 a18 a19:Int) (a20:J1) (a21:J2) (a22:Int):z101.C.evSub 157 (ifun Tryz.f157) 178 81 0 [(.str a0),(.str a1),(.int .i64 a2),(.int .i64 a3),(.int .i64 a4),(.int .i64 a5),(.int .i64 a6),(.int .i64 a7),(.int .i64 a8),(.int .i64 a9),(.ints false .u64 a10),(.bool a11),(.str a12),(.ints false .u64 a13),(.bool a14)] (.recs false 8 a15) [(.agg [(.int .i64 a16),(.int .i64 a17),(.int .i64 a18),(.int .i64 a19),(.str a20)]),(.recs false 8 a21),(.int .i64 a22)] z101.dec=z101.F a0 a1 a2 a3 a4 a5 a6 a7 a8 a9 a10 a11 a12 a13 a14 a15 a16 a17 a18 a19 a20 a21 a22:=by kernel_rfl
def z102.C:Ctx where
 T:=tab
 draws:=λf i=>match f,i with|215,4=>([(23,[(2,0)],0),(24,[(22,1)],1),(25,[(7,0),(23,2)],3),(26,[(0,0),(23,2)],3),(27,[(25,4),(23,2)],11),(28,[(26,5),(23,2)],27),(29,[(27,6),(23,2)],59),(30,[(24,3),(28,7),(23,2)],127),(31,[(29,8),(23,2)],255),(32,[(23,2),(30,9)],511),(22,[(31,10)],1023)],4292870144)|_,_=>([],0)
 call:=Qg [(132,z66.pack),(155,z67.pack),(16,z24.pack)]
def z102.dec:V->List V->V->Option (J0×Bool×J1×J1×Int×Int×Int×Int×Int×Int×Int×Int×J0×Bool×J1×J0×Bool×J2)
 |(.agg [(.ints _ .u64 x0),(.bool x1)]),[(.str x2),(.str x3),(.int .i64 x4),(.int .i64 x5),(.int .i64 x6),(.int .i64 x7),(.int .i64 x8),(.int .i64 x9),(.int .i64 x10),(.int .i64 x11),(.ints _ .u64 x12),(.bool x13),(.str x14),(.ints _ .u64 x15),(.bool x16)],(.recs _ 8 x17)=>some (x0,x1,x2,x3,x4,x5,x6,x7,x8,x9,x10,x11,x12,x13,x14,x15,x16,x17)
 |_,_,_=>none
theorem z102.link (a0 a1:J1) (a2 a3 a4 a5 a6 a7 a8 a9:Int) (a10:J0) (a11:Bool) (a12:J1) (a13:J0) (a14:Bool) (a15:J2) (a16:J0) (a17 a18:Bool):z102.C.evSub 215 (ifun Tryz.f215) 178 81 0 [(.str a0),(.str a1),(.int .i64 a2),(.int .i64 a3),(.int .i64 a4),(.int .i64 a5),(.int .i64 a6),(.int .i64 a7),(.int .i64 a8),(.int .i64 a9),(.ints false .u64 a10),(.bool a11),(.str a12),(.ints false .u64 a13),(.bool a14)] (.recs false 8 a15) [(.agg [(.ints false .u64 a16),(.bool a17)]),(.bool a18)] z102.dec=z102.F a0 a1 a2 a3 a4 a5 a6 a7 a8 a9 a10 a11 a12 a13 a14 a15 a16 a17 a18:=by kernel_rfl
def z105.C:Ctx where
 T:=tab
def z105.dec:V->Option ((List J1))
 |(.strs _ x0)=>some x0
 |_=>none
theorem z105.link:z105.C.evTop 334 (ifun Tryz.f334) [] z105.dec=z105.F:=by kernel_rfl
def z112.C:Ctx where
 T:=tab
 call:=Qg [(114,z111.pack)]
def z112.dec:V->Option (Int×Int)
 |(.tup [(.int .i64 x0),(.int .i64 x1)])=>some (x0,x1)
 |_=>none
theorem z112.link (a0 a1 a2 a3 a4 a5:Int):z112.C.evTop 39 (ifun Tryz.f39) [(.agg [(.int .i64 a0),(.int .i64 a1),(.int .i64 a2)]),(.agg [(.int .i64 a3),(.int .i64 a4),(.int .i64 a5)])] z112.dec=z112.F a0 a1 a2 a3 a4 a5:=by kernel_rfl
def z113.C:Ctx where
 T:=tab
 call:=Qg [(39,z112.pack)]
theorem z113.link (a0 a1 a2 a3 a4 a5:Int):z113.C.evTop 281 (ifun Tryz.f281) [(.agg [(.int .i64 a0),(.int .i64 a1),(.int .i64 a2)]),(.agg [(.int .i64 a3),(.int .i64 a4),(.int .i64 a5)])] z16.dec=z113.F a0 a1 a2 a3 a4 a5:=by kernel_rfl
def z122.C:Ctx where
 T:=tab
 draws:=λf i=>match f,i with|158,1=>([(14,[(0,0)],0),(15,[(13,1)],1),(16,[(14,2)],3),(17,[(15,3)],7),(18,[(16,4)],15),(19,[(0,0)],0),(20,[(18,6)],32),(21,[(19,7)],96),(22,[(20,8)],224),(23,[(21,9)],480),(24,[(2,0)],0),(25,[(5,0)],0),(26,[(24,12)],2048),(27,[(17,5),(22,10),(23,11),(25,13)],8191),(13,[(26,14)],16383),(28,[(12,15)],32767),(29,[(12,15)],32767),(9,[],0),(0,[(8,18),(27,16)],196607),(10,[(28,17)],524287)],536867584)|158,3=>([(34,[(0,0)],0),(35,[(33,1)],1),(36,[(34,2)],3),(37,[(35,3)],7),(38,[(10,0)],0),(39,[(36,4),(37,5)],31),(12,[],0),(0,[(11,7),(38,6)],127)],541165881344)|158,4=>([(40,[(0,0)],0),(41,[(0,0)],0),(42,[(40,2)],2),(43,[(41,3)],6),(44,[(42,4)],14),(45,[(5,0)],0),(46,[(44,6)],32),(47,[(0,0)],0),(48,[(46,8)],128),(49,[(47,9)],384),(50,[(48,10)],896),(51,[(49,11)],1920),(52,[(8,0)],0),(53,[(51,13)],8064),(54,[(10,0)],0),(55,[(53,15)],32640),(56,[(8,0)],0),(57,[(10,0)],0),(58,[(55,17),(56,18)],262016),(59,[(57,19)],524160),(60,[(11,0)],0),(61,[(59,21)],2097024),(62,[(45,7),(50,12),(52,14),(54,16),(58,20),(60,22)],4194272),(63,[(61,23)],8388576),(64,[(43,5),(62,24)],16777214),(65,[(39,1)],33554431),(66,[(64,26)],67108863),(0,[(65,27),(63,25)],134217727)],73786975745082392576)|_,_=>([],0)
 call:=Qg [(214,z121.pack),(132,z66.pack),(13,z85.pack),(12,z65.pack)]
 prim:=W9 [(215,subP 178 81 0 z102.pk)]
def z122.dec:V->List V->V->Option (J1×J1×Int×Int×Int×Int×Int×Int×Int×Int×J0×Bool×J1×J0×Bool×J2)
 |(.tup []),[(.str x0),(.str x1),(.int .i64 x2),(.int .i64 x3),(.int .i64 x4),(.int .i64 x5),(.int .i64 x6),(.int .i64 x7),(.int .i64 x8),(.int .i64 x9),(.ints _ .u64 x10),(.bool x11),(.str x12),(.ints _ .u64 x13),(.bool x14)],(.recs _ 8 x15)=>some (x0,x1,x2,x3,x4,x5,x6,x7,x8,x9,x10,x11,x12,x13,x14,x15)
 |_,_,_=>none
theorem z122.link (a0 a1:J1) (a2 a3 a4 a5 a6 a7 a8 a9:Int) (a10:J0) (a11:Bool) (a12:J1) (a13:J0) (a14:Bool) (a15:J2) (a16 a17 a18 a19 a20 a21:Int) (a22:J2) (a23:Bool):z122.C.evSub 158 (ifun Tryz.f158) 178 81 1 [(.str a0),(.str a1),(.int .i64 a2),(.int .i64 a3),(.int .i64 a4),(.int .i64 a5),(.int .i64 a6),(.int .i64 a7),(.int .i64 a8),(.int .i64 a9),(.ints false .u64 a10),(.bool a11),(.str a12),(.ints false .u64 a13),(.bool a14)] (.recs false 8 a15) [(.agg [(.int .i64 a16),(.int .i64 a17),(.int .i64 a18),(.int .i64 a19),(.int .i64 a20),(.int .i64 a21)]),(.recs false 8 a22),(.bool a23)] z122.dec=z122.F a0 a1 a2 a3 a4 a5 a6 a7 a8 a9 a10 a11 a12 a13 a14 a15 a16 a17 a18 a19 a20 a21 a22 a23:=by kernel_rfl
def z124.C:Ctx where
 T:=tab
 call:=Qg [(333,z123.pack)]
theorem z124.link (a0:Int):z124.C.evTop 319 (ifun Tryz.f319) [(.int .i64 a0)] z83.dec=z124.F a0:=by kernel_rfl
def z128.C:Ctx where
 T:=tab
 draws:=λf i=>match f,i with|277,10=>([(48,[(8,0)],0),(49,[(47,1)],1),(50,[(8,0)],0),(51,[(49,3)],4),(52,[(8,0)],0),(53,[(51,5)],16),(54,[(50,4),(52,6)],60),(55,[(48,2),(53,7)],127),(56,[(8,0)],255),(0,[(55,9),(54,8)],511)],71916856549572608)|_,_=>([],0)
 call:=Qg [(181,z22.pack),(183,z21.pack)]
def z128.dec:V->Option (Int×Int×Int×Int)
 |(.tup [(.agg [(.int .i64 x0),(.int .i64 x1),(.int .i64 x2)]),(.int .i64 x3)])=>some (x0,x1,x2,x3)
 |_=>none
theorem z128.link (a0 a1 a2 a3:Int):z128.C.evTop 277 (ifun Tryz.f277) [(.agg [(.int .i64 a0),(.int .i64 a1),(.int .i64 a2)]),(.int .i64 a3)] z128.dec=z128.F a0 a1 a2 a3:=by kernel_rfl
def z129.C:Ctx where
 T:=tab
 call:=Qg [(89,z78.pack),(16,z24.pack),(184,z75.pack),(276,z127.pack),(277,z128.pack)]
theorem z129.link (a0 a1:J1) (a2 a3 a4 a5 a6 a7 a8 a9:Int):z129.C.evTop 198 (ifun Tryz.f198) [(.agg [(.str a0),(.str a1),(.int .i64 a2),(.int .i64 a3),(.int .i64 a4),(.int .i64 a5),(.int .i64 a6),(.int .i64 a7),(.int .i64 a8),(.int .i64 a9)])] z16.dec=z129.F a0 a1 a2 a3 a4 a5 a6 a7 a8 a9:=by kernel_rfl
def z133.l0sh:Env×Store:=(un 3 ((.ptr 0 0)::(.ptr 1 0) :: .undef::(.int .i64 0)::(.int .i64 0) :: .undef :: .undef::(.recs false 5 [])::(.int .i64 0)::(.int .i64 0)::un 30 []),[(.cells 73 [(.str ([]:J1)),(.str ([]:J1)),(.int .i64 0),(.int .i64 0),(.int .i64 0),(.int .i64 0),(.int .i64 0),(.int .i64 0),(.int .i64 0),(.int .i64 0)]),(.cells 41 [(.int .i64 0),(.int .i64 0),(.int .i64 0)])])
def z133.l0so1:Env×Store:=(un 6 ((.int .i64 0)::(.int .i64 0)::un 35 []),[(.cells 73 [(.str ([]:J1)),(.str ([]:J1)),(.int .i64 0),(.int .i64 0),(.int .i64 0),(.int .i64 0),(.int .i64 0),(.int .i64 0),(.int .i64 0),(.int .i64 0)]),(.cells 41 [(.int .i64 0),(.int .i64 0),(.int .i64 0)])])
def z133.l0at (a b:Int) (c:J2) (d:Int) (e g:J1) (h j k m n o p q r t u x:Int):Env×Store:=Qf z133.l0sh [.i a,.i b,.lr c,.i d,.i x,.s e,.s g,.i h,.i j,.i k,.i m,.i n,.i o,.i p,.i q,.i r,.i t,.i u]
def z133.l0out0 (a b:Int) (c:J2) (d:Int) (e g:J1) (h j k m n p q r t u v o:Int):X×Env×Store:=((.exit 0),Qf z133.l0sh [.i a,.i b,.lr c,.i d,.i o,.s e,.s g,.i h,.i j,.i k,.i m,.i n,.i p,.i q,.i r,.i t,.i u,.i v])
def z133.l0out1 (a b:J1) (c d e g h j k m n p q:Int) (o:Int×Int):X×Env×Store:=(.ret,Qf z133.l0so1 [.i o.1,.i o.2,.s a,.s b,.i c,.i d,.i e,.i g,.i h,.i j,.i k,.i m,.i n,.i p,.i q])
def z133.l0pack:List Leaf->Option LPack
 |[.i a,.i b,.lr c,.i d,.i e,.s g,.s h,.i j,.i k,.i m,.i n,.i o,.i p,.i q,.i r,.i t,.i u,.i v]=>some (.two _ _ (z133.l0 c d n o p t u v e) (z133.l0out0 a b c d g h j k m n o p q r t u v) (z133.l0out1 g h j k m n o p q r t u v))
 |_=>none
def z133.C:Ctx where
 T:=tab
 call:=Qg [(148,z18.pack)]
 keep:=λf i=>match f,i with|88,0=>([3,4,6,7,10,11,12,22],[0,1],[])|_,_=>([],[],[])
 keepR:=λf i=>match f,i with|88,0=>([6,7],[0,1],[6,7])|_,_=>([],[],[])
 L:=Qv [⟨88,0,0,z133.l0sh,z133.l0pack⟩]
theorem z133.l0_link (a b:Int) (c:J2) (d:Int) (e g:J1) (h j k m n o p q r s t:Int):Yo z133.C 6 88 0 0 2 (ifun Tryz.f88) (z133.l0at a b c d e g h j k m n o p q r s t) (z133.l0P c d m n o r s t) (z133.l0out0 a b c d e g h j k m n o p q r s t) (z133.l0out1 e g h j k m n o p q r s t):=λ_ _ _ _=>by kernel_rfl
theorem z133.link (a0 a1:J1) (a2 a3 a4 a5 a6 a7 a8 a9 a10 a11 a12:Int) (a13:J2):z133.C.evTop 88 (ifun Tryz.f88) [(.agg [(.str a0),(.str a1),(.int .i64 a2),(.int .i64 a3),(.int .i64 a4),(.int .i64 a5),(.int .i64 a6),(.int .i64 a7),(.int .i64 a8),(.int .i64 a9)]),(.agg [(.int .i64 a10),(.int .i64 a11),(.int .i64 a12)]),(.recs false 5 a13)] z112.dec=z133.F a0 a1 a2 a3 a4 a5 a6 a7 a8 a9 a10 a11 a12 a13:=by kernel_rfl
def z138.l0sh:Env×Store:=((.ints false .i64 []) :: .undef::(.sref 0 0)::(.int .i64 0)::un 17 [],[(.arr 0 true 3 (.ints false .i64 []))])
def z138.l0at (a b:J0) (x:Int):Env×Store:=Qf z138.l0sh [.li a,.i x,.li b]
def z138.l0out0 (a b:J0) (o:Int):X×Env×Store:=((.exit 0),Qf z138.l0sh [.li a,.i o,.li b])
def z138.l0pack:List Leaf->Option LPack
 |[.li a,.i b,.li c]=>some (.one _ (z138.l0 a b) (z138.l0out0 a c))
 |_=>none
def z138.C:Ctx where
 T:=tab
 keep:=λf i=>match f,i with|180,0=>([0,2,3],[0],[])|_,_=>([],[],[])
 keepR:=λf i=>match f,i with|180,0=>([2],[0],[2])|_,_=>([],[],[])
 L:=Qv [⟨180,0,0,z138.l0sh,z138.l0pack⟩]
def z138.dec:V->Option (J0)
 |(.ints _ .i64 x0)=>some x0
 |_=>none
theorem z138.l0_link (a b:J0):Qr z138.C 6 180 0 0 1 (ifun Tryz.f180) (z138.l0at a b) (z138.l0P a) (z138.l0out0 a b):=λ_ _ _ _=>by kernel_rfl
theorem z138.link (a0:J0):z138.C.evTop 180 (ifun Tryz.f180) [(.ints false .i64 a0)] z138.dec=z138.F a0:=by kernel_rfl
def z139.l2sh:Env×Store:=((.ints false .i64 [])::(.ints false .i64 []) :: .undef :: .undef::(.sref 0 0)::(.sref 1 0)::(.int .i64 0)::(.int .i64 0)::(.int .i64 0)::un 54 [],[(.arr 0 true 3 (.ints false .i64 [])),(.arr 0 false 3 (.ints false .i64 []))])
def z139.l2at (a b:J0) (c:Int) (d:J0) (x:(Int×Int×J0)):Env×Store:=Qf z139.l2sh [.li a,.li b,.i c,.i x.1,.i x.2.1,.li d,.li x.2.2]
def z139.l2out0 (a b:J0) (c:Int) (d:J0) (o:Int×Int×J0):X×Env×Store:=((.exit 2),Qf z139.l2sh [.li a,.li b,.i c,.i o.1,.i o.2.1,.li d,.li o.2.2])
def z139.l2pack:List Leaf->Option LPack
 |[.li a,.li b,.i c,.i d,.i e,.li g,.li h]=>some (.one _ (z139.l2 a b c (d,e,h)) (z139.l2out0 a b c g))
 |_=>none
def z139.l0sh:Env×Store:=((.ints false .i64 [])::(.ints false .i64 []) :: .undef :: .undef::(.sref 0 0)::(.sref 1 0)::(.int .i64 0)::un 56 [],[(.arr 0 true 3 (.ints false .i64 [])),(.arr 0 false 3 (.ints false .i64 []))])
def z139.l0at (a b c:J0) (x:(Int×J0)):Env×Store:=Qf z139.l0sh [.li a,.li b,.i x.1,.li c,.li x.2]
def z139.l0out0 (a b c:J0) (o:Int×J0):X×Env×Store:=((.exit 0),Qf z139.l0sh [.li a,.li b,.i o.1,.li c,.li o.2])
def z139.l0pack:List Leaf->Option LPack
 |[.li a,.li b,.i c,.li d,.li e]=>some (.one _ (z139.l0 a b (c,e)) (z139.l0out0 a b d))
 |_=>none
def z139.C:Ctx where
 T:=tab
 draws:=λf i=>match f,i with|112,10=>([(38,[(5,0)],0),(39,[(6,0)],0),(40,[(8,0)],0),(41,[(38,2),(39,3)],6),(42,[(37,1),(40,4)],15),(43,[(41,5)],31),(44,[(0,0)],0),(45,[(6,0)],0),(46,[(43,7),(44,8)],192),(47,[(45,9)],448),(48,[(9,0)],0),(49,[(46,10),(47,11)],1984),(50,[(42,6),(48,12)],4095),(51,[(7,0)],0),(52,[(49,13),(50,14)],16383),(11,[(51,15)],32767)],4503462188418048)|_,_=>([],0)
 call:=Qg [(179,z137.pack),(180,z138.pack)]
 keep:=λf i=>match f,i with|112,2=>([0,1,4,5,6,7,8],[0,1],[])|112,0=>([0,1,4,5,6,29,30],[0,1],[])|_,_=>([],[],[])
 keepR:=λf i=>match f,i with|112,2=>([4],[0,1],[4])|112,0=>([4],[0,1],[4])|_,_=>([],[],[])
 L:=Qv [⟨112,2,0,z139.l2sh,z139.l2pack⟩,⟨112,0,0,z139.l0sh,z139.l0pack⟩]
theorem z139.l2_link (a b:J0) (c:Int) (d:J0):Qr z139.C 6 112 2 0 2 (ifun Tryz.f112) (z139.l2at a b c d) (z139.l2P a b c) (z139.l2out0 a b c d):=λ_ _ _ _=>by kernel_rfl
theorem z139.l0_link (a b c:J0):Qr z139.C 6 112 0 0 2 (ifun Tryz.f112) (z139.l0at a b c) (z139.l0P a b) (z139.l0out0 a b c):=λ_ _ _ _=>by kernel_rfl
theorem z139.link (a0 a1:J0):z139.C.evTop 112 (ifun Tryz.f112) [(.ints false .i64 a0),(.ints false .i64 a1)] z138.dec=z139.F a0 a1:=by kernel_rfl
def z142.C:Ctx where
 T:=tab
 call:=Qg [(62,z14.pack),(64,z12.pack),(103,z140.pack),(14,z6.pack),(104,z141.pack)]
def z142.dec:V->Option (J1×J1×Int×Int×Int×Int×Int×Int×Int×Int)
 |(.agg [(.str x0),(.str x1),(.int .i64 x2),(.int .i64 x3),(.int .i64 x4),(.int .i64 x5),(.int .i64 x6),(.int .i64 x7),(.int .i64 x8),(.int .i64 x9)])=>some (x0,x1,x2,x3,x4,x5,x6,x7,x8,x9)
 |_=>none
theorem z142.link (a0 a1 a2 a3 a4 a5 a6 a7 a8 a9 a10 a11 a12:Int):z142.C.evTop 30 (ifun Tryz.f30) [(.agg [(.int .u64 a0),(.int .u16 a1),(.int .u32 a2),(.int .u8 a3),(.int .u8 a4),(.int .u8 a5),(.int .u8 a6),(.int .u8 a7),(.int .u8 a8),(.int .i64 a9),(.int .i64 a10),(.int .i64 a11)]),(.int .i64 a12)] z142.dec=z142.F a0 a1 a2 a3 a4 a5 a6 a7 a8 a9 a10 a11 a12:=by kernel_rfl
def z144.l0sh:Env×Store:=((.sref 4 0)::(.func 85 []) :: .undef :: .undef::(.int .i64 0) :: .undef :: .undef::(.int .i64 0)::(.int .i64 0)::un 10 [],[(.cells 71 [(.int .u64 0),(.int .u16 0),(.int .u32 0),(.int .u8 0),(.int .u8 0),(.int .u8 0),(.int .u8 0),(.int .u8 0),(.int .u8 0),(.int .i64 0),(.int .i64 0),(.int .i64 0),(.int .i64 0),(.int .i64 0),(.int .i64 0),(.ints false .u8 []),(.ints false .u8 []),(.ints false .u32 []),(.bool false)]),(.cells 73 [(.str ([]:J1)),(.str ([]:J1)),(.int .i64 0),(.int .i64 0),(.int .i64 0),(.int .i64 0),(.int .i64 0),(.int .i64 0),(.int .i64 0),(.int .i64 0)]),(.arr 0 true 85 (.recs false 5 [])),(.cells 73 [(.str ([]:J1)),(.str ([]:J1)),(.int .i64 0),(.int .i64 0),(.int .i64 0),(.int .i64 0),(.int .i64 0),(.int .i64 0),(.int .i64 0),(.int .i64 0)]),(.arr 0 true 85 (.recs false 5 [])),(.arr 0 true 85 (.recs false 5 []))])
def z144.l0so1:Env×Store:=(un 4 ((.int .i64 0)::un 14 []),[(.cells 71 [(.int .u64 0),(.int .u16 0),(.int .u32 0),(.int .u8 0),(.int .u8 0),(.int .u8 0),(.int .u8 0),(.int .u8 0),(.int .u8 0),(.int .i64 0),(.int .i64 0),(.int .i64 0),(.int .i64 0),(.int .i64 0),(.int .i64 0),(.ints false .u8 []),(.ints false .u8 []),(.ints false .u32 []),(.bool false)]),(.cells 73 [(.str ([]:J1)),(.str ([]:J1)),(.int .i64 0),(.int .i64 0),(.int .i64 0),(.int .i64 0),(.int .i64 0),(.int .i64 0),(.int .i64 0),(.int .i64 0)]),(.arr 0 true 85 (.recs false 5 [])),(.cells 73 [(.str ([]:J1)),(.str ([]:J1)),(.int .i64 0),(.int .i64 0),(.int .i64 0),(.int .i64 0),(.int .i64 0),(.int .i64 0),(.int .i64 0),(.int .i64 0)]),(.arr 0 true 85 (.recs false 5 [])),(.arr 0 true 85 (.recs false 5 []))])
def z144.l0at (a c d e g h j k m n o p q r t u v:Int) (w y z:J0) (A:Bool) (B C:J1) (D E G H I J K L:Int) (M:J2) (N O:J1) (P Q S U W Y Z a0:Int) (a1 a2:J2) (x:Int):Env×Store:=Qf z144.l0sh [.i a,.i c,.i x,.i d,.i e,.i g,.i h,.i j,.i k,.i m,.i n,.i o,.i p,.i q,.i r,.i t,.i u,.i v,.li w,.li y,.li z,.b A,.s B,.s C,.i D,.i E,.i G,.i H,.i I,.i J,.i K,.i L,.lr M,.s N,.s O,.i P,.i Q,.i S,.i U,.i W,.i Y,.i Z,.i a0,.lr a1,.lr a2]
def z144.l0out0 (a c d e g h j k m n p q r t u v w:Int) (x y z:J0) (A:Bool) (B C:J1) (D E G H I J K L:Int) (M:J2) (N O:J1) (P Q S U W Y Z a0:Int) (a1 a2:J2) (o:Int):X×Env×Store:=((.exit 0),Qf z144.l0sh [.i a,.i c,.i o,.i d,.i e,.i g,.i h,.i j,.i k,.i m,.i n,.i p,.i q,.i r,.i t,.i u,.i v,.i w,.li x,.li y,.li z,.b A,.s B,.s C,.i D,.i E,.i G,.i H,.i I,.i J,.i K,.i L,.lr M,.s N,.s O,.i P,.i Q,.i S,.i U,.i W,.i Y,.i Z,.i a0,.lr a1,.lr a2])
def z144.l0out1 (a c d e g h j k m n p q r t u:Int) (v w x:J0) (y:Bool) (z A:J1) (B C D E G H I J:Int) (K:J2) (L M:J1) (N O P Q S U W Y:Int) (Z a0:J2) (o:Int):X×Env×Store:=(.ret,Qf z144.l0so1 [.i o,.i a,.i c,.i d,.i e,.i g,.i h,.i j,.i k,.i m,.i n,.i p,.i q,.i r,.i t,.i u,.li v,.li w,.li x,.b y,.s z,.s A,.i B,.i C,.i D,.i E,.i G,.i H,.i I,.i J,.lr K,.s L,.s M,.i N,.i O,.i P,.i Q,.i S,.i U,.i W,.i Y,.lr Z,.lr a0])
def z144.l0pack:List Leaf->Option LPack
 |.i a :: .i c :: .i d :: .i e :: .i g :: .i h :: .i j :: .i k :: .i m :: .i n :: .i o :: .i p :: .i q :: .i r :: .i t :: .i u :: .i v :: .i w :: .li x :: .li y :: .li z :: .b A :: .s B :: .s C :: .i D :: .i E :: .i G :: .i H :: .i I :: .i J :: .i K :: .i L :: .lr M :: .s N :: .s O :: .i P :: .i Q :: .i S :: .i U :: .i W :: .i Y :: .i Z :: .i a0 :: .lr a1 :: .lr a2::[]=>some (.two _ _ (z144.l0 c a1 d) (z144.l0out0 a c e g h j k m n o p q r t u v w x y z A B C D E G H I J K L M N O P Q S U W Y Z a0 a1 a2) (z144.l0out1 e g h j k m n o p q r t u v w x y z A B C D E G H I J K L M N O P Q S U W Y Z a0 a1 a2))
 |_=>none
def z144.l0ash:Env×Store:=((.sref 4 0)::(.func 85 []) :: .undef :: .undef::(.sref 5 0)::(.int .i64 0)::(.int .i64 0)::un 35 [],[(.cells 71 [(.int .u64 0),(.int .u16 0),(.int .u32 0),(.int .u8 0),(.int .u8 0),(.int .u8 0),(.int .u8 0),(.int .u8 0),(.int .u8 0),(.int .i64 0),(.int .i64 0),(.int .i64 0),(.int .i64 0),(.int .i64 0),(.int .i64 0),(.ints false .u8 []),(.ints false .u8 []),(.ints false .u32 []),(.bool false)]),(.cells 73 [(.str ([]:J1)),(.str ([]:J1)),(.int .i64 0),(.int .i64 0),(.int .i64 0),(.int .i64 0),(.int .i64 0),(.int .i64 0),(.int .i64 0),(.int .i64 0)]),(.arr 0 true 85 (.recs false 5 [])),(.cells 73 [(.str ([]:J1)),(.str ([]:J1)),(.int .i64 0),(.int .i64 0),(.int .i64 0),(.int .i64 0),(.int .i64 0),(.int .i64 0),(.int .i64 0),(.int .i64 0)]),(.arr 0 true 85 (.recs false 5 [])),(.arr 0 true 85 (.recs false 5 []))])
def z144.l0aat (a c d e g h j k m n o p q r t:Int) (u v w:J0) (y:Bool) (z A:J1) (B C D E G H I J:Int) (K:J2) (L M:J1) (N O P Q S U W Y:Int) (Z:J2) (x:(Int×Int×J2)):Env×Store:=Qf z144.l0ash [.i x.1,.i x.2.1,.i a,.i c,.i d,.i e,.i g,.i h,.i j,.i k,.i m,.i n,.i o,.i p,.i q,.i r,.i t,.li u,.li v,.li w,.b y,.s z,.s A,.i B,.i C,.i D,.i E,.i G,.i H,.i I,.i J,.lr K,.s L,.s M,.i N,.i O,.i P,.i Q,.i S,.i U,.i W,.i Y,.lr x.2.2,.lr Z]
def z144.l0aout0 (a c d e g h j k m n p q r t u:Int) (v w x:J0) (y:Bool) (z A:J1) (B C D E G H I J:Int) (K:J2) (L M:J1) (N O P Q S U W Y:Int) (Z:J2) (o:Int×Int×J2):X×Env×Store:=((.exit 0),Qf z144.l0ash [.i o.1,.i o.2.1,.i a,.i c,.i d,.i e,.i g,.i h,.i j,.i k,.i m,.i n,.i p,.i q,.i r,.i t,.i u,.li v,.li w,.li x,.b y,.s z,.s A,.i B,.i C,.i D,.i E,.i G,.i H,.i I,.i J,.lr K,.s L,.s M,.i N,.i O,.i P,.i Q,.i S,.i U,.i W,.i Y,.lr o.2.2,.lr Z])
def z144.l0apack:List Leaf->Option LPack
 |.i a :: .i c :: .i d :: .i e :: .i g :: .i h :: .i j :: .i k :: .i m :: .i n :: .i o :: .i p :: .i q :: .i r :: .i t :: .i u :: .i v :: .li w :: .li x :: .li y :: .b z :: .s A :: .s B :: .i C :: .i D :: .i E :: .i G :: .i H :: .i I :: .i J :: .i K :: .lr L :: .s M :: .s N :: .i O :: .i P :: .i Q :: .i S :: .i U :: .i W :: .i Y :: .i Z :: .lr a0 :: .lr a1::[]=>some (.one _ (z144.l0a (a,c,a0)) (z144.l0aout0 d e g h j k m n o p q r t u v w x y z A B C D E G H I J K L M N O P Q S U W Y Z a1))
 |_=>none
def z144.C:Ctx where
 T:=tab
 call:=Qg [(30,z142.pack),(85,z143.pack)]
 inl:=inlL [(84,Tryz.f84),(152,Tryz.f152)]
 rank:=λg=>match g with|84=>1|_=>0
 prim:=W9 [(46,newP 85 z13.pack)]
 keep:=λf i=>match f,i with|152,0=>([0,1,4,7,8],List.range 64,[])|84,0=>([0,1,4,5,6],List.range 64,[])|_,_=>([],[],[])
 keepR:=λf i=>match f,i with|152,0=>([4],List.range 64,[])|84,0=>([4],List.range 64,[])|_,_=>([],[],[])
 L:=Qv [⟨152,0,6,z144.l0sh,z144.l0pack⟩,⟨84,0,5,z144.l0ash,z144.l0apack⟩]
def z144.dec:V->Option (J1×J1×Int×Int×Int×Int×Int×Int×Int×Int×J2)
 |(.tup [(.agg [(.str x0),(.str x1),(.int .i64 x2),(.int .i64 x3),(.int .i64 x4),(.int .i64 x5),(.int .i64 x6),(.int .i64 x7),(.int .i64 x8),(.int .i64 x9)]),(.recs _ 5 x10)])=>some (x0,x1,x2,x3,x4,x5,x6,x7,x8,x9,x10)
 |_=>none
theorem z144.l0_link (a b c d e g h j k m n o p q r s t:Int) (u v w:J0) (x:Bool) (y z:J1) (A B D E G H I J:Int) (K:J2) (L M:J1) (N O P Q S U W Y:Int) (Z a0:J2):Yo z144.C 0 152 0 6 6 (ifun Tryz.f152) (z144.l0at a b c d e g h j k m n o p q r s t u v w x y z A B D E G H I J K L M N O P Q S U W Y Z a0) (z144.l0P b Z) (z144.l0out0 a b c d e g h j k m n o p q r s t u v w x y z A B D E G H I J K L M N O P Q S U W Y Z a0) (z144.l0out1 c d e g h j k m n o p q r s t u v w x y z A B D E G H I J K L M N O P Q S U W Y Z a0):=λ_ _ _ _=>by kernel_rfl
theorem z144.l0a_link (a b c d e g h j k m n o p q r:Int) (s t u:J0) (v:Bool) (w x:J1) (y z A B D E G H:Int) (I:J2) (J K:J1) (L M N O P Q S U:Int) (W:J2):Qr z144.C 1 84 0 5 6 (ifun Tryz.f84) (z144.l0aat a b c d e g h j k m n o p q r s t u v w x y z A B D E G H I J K L M N O P Q S U W) (z144.l0aP ) (z144.l0aout0 a b c d e g h j k m n o p q r s t u v w x y z A B D E G H I J K L M N O P Q S U W):=λ_ _ _ _=>by kernel_rfl
theorem z144.link (a0 a1 a2 a3 a4 a5 a6 a7 a8 a9 a10 a11 a12 a13 a14:Int) (a15 a16 a17:J0) (a18:Bool):z144.C.evTop 24 (ifun Tryz.f24) [(.agg [(.int .u64 a0),(.int .u16 a1),(.int .u32 a2),(.int .u8 a3),(.int .u8 a4),(.int .u8 a5),(.int .u8 a6),(.int .u8 a7),(.int .u8 a8),(.int .i64 a9),(.int .i64 a10),(.int .i64 a11),(.int .i64 a12),(.int .i64 a13),(.int .i64 a14),(.ints false .u8 a15),(.ints false .u8 a16),(.ints false .u32 a17),(.bool a18)])] z144.dec=z144.F a0 a1 a2 a3 a4 a5 a6 a7 a8 a9 a10 a11 a12 a13 a14 a15 a16 a17 a18:=by kernel_rfl
end
noncomputable section
def z6.C:Ctx where
 T:=tab
 call:=Qg [(71,z5.pack)]
theorem z6.link (a0:J0) (a1:Bool):z6.C.evTop 14 (ifun Tryz.f14) [(.agg [(.ints false .i64 a0),(.bool a1)])] z83.dec=z6.F a0 a1:=by kernel_rfl
def z7.C:Ctx where
 T:=tab
theorem z7.link (a0:Int):z7.C.evTop 202 (ifun Tryz.f202) [(.int .i64 a0)] z23.dec=z7.F a0:=by kernel_rfl
def z17.l0sh:Env×Store:=(.undef :: .undef::(.int .i64 0)::(.int .i64 0) :: .undef :: .undef::(.ints false .i64 [])::(.int .i64 0)::(.int .i64 0)::un 9 [],[])
def z17.l0so1:Env×Store:=(.undef :: .undef::(.int .i64 0)::un 15 [],[])
def z17.l0at (a b:Int) (c:J0) (d x:Int):Env×Store:=Qf z17.l0sh [.i a,.i b,.li c,.i d,.i x]
def z17.l0out0 (a b:Int) (c:J0) (d o:Int):X×Env×Store:=((.exit 0),Qf z17.l0sh [.i a,.i b,.li c,.i d,.i o])
def z17.l0out1 (o:Int):X×Env×Store:=(.ret,Qf z17.l0so1 [.i o])
def z17.l0pack:List Leaf->Option LPack
 |[.i a,.i b,.li c,.i d,.i e]=>some (.two _ _ (z17.l0 b c d e) (z17.l0out0 a b c d) (z17.l0out1 ))
 |_=>none
def z17.C:Ctx where
 T:=tab
 keep:=λf i=>match f,i with|210,0=>([2,3,6,7,8],[],[])|_,_=>([],[],[])
 keepR:=λf i=>match f,i with|210,0=>([2],[],[2])|_,_=>([],[],[])
 L:=Qv [⟨210,0,0,z17.l0sh,z17.l0pack⟩]
theorem z17.l0_link (a b:Int) (c:J0) (d:Int):Yo z17.C 6 210 0 0 0 (ifun Tryz.f210) (z17.l0at a b c d) (z17.l0P b c d) (z17.l0out0 a b c d) (z17.l0out1 ):=λ_ _ _ _=>by kernel_rfl
theorem z17.link (a0:J0):z17.C.evTop 210 (ifun Tryz.f210) [(.ints false .i64 a0)] z16.dec=z17.F a0:=by kernel_rfl
def z36.l0sh:Env×Store:=(.undef :: .undef::(.ptr 0 0)::(.ptr 1 0)::(.ptr 2 0)::(.bool false)::(.sref 3 0)::(.int .u64 0)::un 11 ((.int .i64 0)::(.int .i64 0)::un 21 []),[(.cells 37 [(.ints false .u64 [])]),(.cells 37 [(.ints false .u64 [])]),(.cells 37 [(.ints false .u64 [])]),(.arr 0 false 63 (.ints false .u64 []))])
def z36.l0at (a:Bool) (c:Int) (d e g:J0) (x:(Int×Int×J0)):Env×Store:=Qf z36.l0sh [.b a,.i x.1,.i c,.i x.2.1,.li d,.li e,.li g,.li x.2.2]
def z36.l0out0 (a:Bool) (c:Int) (d e g:J0) (o:Int×Int×J0):X×Env×Store:=((.exit 0),Qf z36.l0sh [.b a,.i o.1,.i c,.i o.2.1,.li d,.li e,.li g,.li o.2.2])
def z36.l0pack:List Leaf->Option LPack
 |[.b a,.i c,.i d,.i e,.li g,.li h,.li j,.li k]=>some (.one _ (z36.l0 d g h (c,e,k)) (z36.l0out0 a d g h j))
 |_=>none
def z36.C:Ctx where
 T:=tab
 draws:=λf i=>match f,i with|69,8=>([(25,[(6,0)],0),(26,[(8,0)],0),(27,[(2,0)],0),(28,[(26,3)],4),(29,[(8,0)],0),(30,[(27,4),(28,5)],28),(31,[(29,6)],60),(32,[(3,0)],0),(33,[(8,0)],0),(34,[(31,8),(32,9)],384),(35,[(7,18)],0),(36,[(30,7),(33,10),(34,11)],2044),(24,[(35,12)],4092),(37,[(23,13)],8188),(38,[(23,13)],8188),(39,[(24,1),(25,2)],16383),(0,[(38,16),(36,14)],49151),(8,[(37,15)],131071)],549747425408)|_,_=>([],0)
 call:=Qg [(140,z35.pack),(139,z32.pack),(141,z1.pack),(107,z26.pack)]
 keep:=λf i=>match f,i with|69,0=>([2,3,4,5,6,7,19,20],[0,1,2,3],[])|_,_=>([],[],[])
 keepR:=λf i=>match f,i with|69,0=>([4,5],[0,1,2,3],[4,5])|_,_=>([],[],[])
 L:=Qv [⟨69,0,0,z36.l0sh,z36.l0pack⟩]
def z36.dec:V->Option (J0×Bool)
 |(.tup [(.agg [(.ints _ .u64 x0)]),(.bool x1)])=>some (x0,x1)
 |_=>none
theorem z36.l0_link (a:Bool) (b:Int) (c d e:J0):Qr z36.C 6 69 0 0 4 (ifun Tryz.f69) (z36.l0at a b c d e) (z36.l0P b c d) (z36.l0out0 a b c d e):=λ_ _ _ _=>by kernel_rfl
theorem z36.link (a0 a1:J0):z36.C.evTop 69 (ifun Tryz.f69) [(.agg [(.ints false .u64 a0)]),(.agg [(.ints false .u64 a1)])] z36.dec=z36.F a0 a1:=by kernel_rfl
def z37.C:Ctx where
 T:=tab
 prim:=W9 [(108,Jx (.ints true .u64 []) 63 8)]
def z37.dec:V->Option (J0)
 |(.ints _ .u64 x0)=>some x0
 |_=>none
theorem z37.link (a0:J0):z37.C.evTop 143 (ifun Tryz.f143) [(.agg [(.ints false .u64 a0)])] z37.dec=z37.F a0:=by kernel_rfl
def z42.C:Ctx where
 T:=tab
theorem z42.link (a0:Int):z42.C.evTop 325 (ifun Tryz.f325) [(.int .i64 a0)] z23.dec=z42.F a0:=by kernel_rfl
def z52.l0sh:Env×Store:=(.undef :: .undef::(.ptr 0 0)::(.ptr 1 0)::(.ptr 2 0)::(.sref 3 0)::(.int .u64 0)::un 11 ((.int .i64 0)::(.int .i64 0)::un 19 []),[(.cells 37 [(.ints false .u64 [])]),(.cells 37 [(.ints false .u64 [])]),(.cells 37 [(.ints false .u64 [])]),(.arr 0 false 63 (.ints false .u64 []))])
def z52.l0at (a:Int) (b c d:J0) (x:(Int×Int×J0)):Env×Store:=Qf z52.l0sh [.i x.1,.i a,.i x.2.1,.li b,.li c,.li d,.li x.2.2]
def z52.l0out0 (a:Int) (b c d:J0) (o:Int×Int×J0):X×Env×Store:=((.exit 0),Qf z52.l0sh [.i o.1,.i a,.i o.2.1,.li b,.li c,.li d,.li o.2.2])
def z52.l0pack:List Leaf->Option LPack
 |[.i a,.i b,.i c,.li d,.li e,.li g,.li h]=>some (.one _ (z52.l0 b d e (a,c,h)) (z52.l0out0 b d e g))
 |_=>none
def z52.C:Ctx where
 T:=tab
 draws:=λf i=>match f,i with|68,6=>([(24,[(5,0)],0),(25,[(7,0)],0),(26,[(2,0)],0),(27,[(7,0)],0),(28,[(25,3),(26,4)],12),(29,[(3,0)],0),(30,[(7,0)],0),(31,[(28,6),(29,7)],124),(32,[(6,16)],0),(33,[(27,5),(30,8),(31,9)],508),(23,[(32,10)],1020),(34,[(22,11)],2044),(35,[(22,11)],2044),(36,[(23,1),(24,2)],4095),(0,[(35,14),(33,12)],12287),(7,[(34,13)],32767)],68715282496)|_,_=>([],0)
 call:=Qg [(139,z32.pack),(138,z0.pack),(107,z26.pack)]
 keep:=λf i=>match f,i with|68,0=>([2,3,4,5,6,18,19],[0,1,2,3],[])|_,_=>([],[],[])
 keepR:=λf i=>match f,i with|68,0=>([4],[0,1,2,3],[4])|_,_=>([],[],[])
 L:=Qv [⟨68,0,0,z52.l0sh,z52.l0pack⟩]
theorem z52.l0_link (a:Int) (b c d:J0):Qr z52.C 6 68 0 0 4 (ifun Tryz.f68) (z52.l0at a b c d) (z52.l0P a b c) (z52.l0out0 a b c d):=λ_ _ _ _=>by kernel_rfl
theorem z52.link (a0 a1:J0):z52.C.evTop 68 (ifun Tryz.f68) [(.agg [(.ints false .u64 a0)]),(.agg [(.ints false .u64 a1)])] z50.dec=z52.F a0 a1:=by kernel_rfl
def z58.C:Ctx where
 T:=tab
 call:=Qg [(159,z57.pack)]
def z58.dec:V->Option (J1×Bool)
 |(.tup [(.str x0),(.bool x1)])=>some (x0,x1)
 |_=>none
theorem z58.link (a0 a1:J1):z58.C.evTop 92 (ifun Tryz.f92) [(.str a0),(.str a1)] z58.dec=z58.F a0 a1:=by kernel_rfl
def z70.C:Ctx where
 T:=tab
 call:=Qg [(213,z69.pack),(32,z25.pack)]
theorem z70.link (a0:Int):z70.C.evTop 313 (ifun Tryz.f313) [(.int .i64 a0)] z30.dec=z70.F a0:=by kernel_rfl
def z74.C:Ctx where
 T:=tab
 draws:=λf i=>match f,i with|255,1=>([(7,[(1,0)],0),(8,[(6,1)],1),(9,[(1,0)],0),(10,[(8,3)],4),(11,[(9,4)],12),(12,[(7,2),(10,5)],31),(6,[(11,6)],63),(13,[(5,7)],127),(14,[(5,7)],127),(4,[],0),(0,[(3,10),(12,8)],767),(5,[(13,9)],2047)],16376)|_,_=>([],0)
 call:=Qg [(313,z70.pack),(174,z49.pack)]
def z74.dec:V->Option (J0×Bool×J0)
 |(.agg [(.ints _ .u64 x0),(.bool x1),(.ints _ .u64 x2)])=>some (x0,x1,x2)
 |_=>none
theorem z74.link (a0:J0) (a1:Bool) (a2:Int):z74.C.evTop 255 (ifun Tryz.f255) [(.agg [(.ints false .u64 a0),(.bool a1),(.int .i64 a2)])] z74.dec=z74.F a0 a1 a2:=by kernel_rfl
def z77.C:Ctx where
 T:=tab
 call:=Qg [(213,z69.pack),(32,z25.pack)]
theorem z77.link:z77.C.evTop 156 (ifun Tryz.f156) [] z30.dec=z77.F:=by kernel_rfl
def z94.C:Ctx where
 T:=tab
theorem z94.link (a0:Int):z94.C.evTop 241 (ifun Tryz.f241) [(.int .i64 a0)] z23.dec=z94.F a0:=by kernel_rfl
def z99.C:Ctx where
 T:=tab
 call:=Qg [(105,z97.pack),(106,z98.pack)]
theorem z99.link (a0 a1:J1) (a2 a3 a4 a5 a6 a7 a8 a9:Int) (a10:J0) (a11:Bool) (a12:J1) (a13:Int):z99.C.evTop 31 (ifun Tryz.f31) [(.agg [(.str a0),(.str a1),(.int .i64 a2),(.int .i64 a3),(.int .i64 a4),(.int .i64 a5),(.int .i64 a6),(.int .i64 a7),(.int .i64 a8),(.int .i64 a9)]),(.agg [(.ints false .u64 a10),(.bool a11)]),(.str a12),(.int .i64 a13)] z78.dec=z99.F a0 a1 a2 a3 a4 a5 a6 a7 a8 a9 a10 a11 a12 a13:=by kernel_rfl
def z100.C:Ctx where
 T:=tab
 draws:=λf i=>match f,i with|42,3=>([(20,[(10,0)],0),(21,[(19,1)],1),(22,[(20,2)],3),(23,[(21,3)],7),(24,[(5,0)],0),(25,[(22,4),(23,5)],31)],33030144)|42,6=>([(35,[(5,0)],0),(36,[(10,0)],0),(37,[(35,2)],2),(38,[(36,3)],6),(39,[(37,4)],14),(40,[(2,0)],0),(41,[(3,0)],0),(42,[(34,1),(38,5),(39,6),(40,7)],127),(12,[],0),(0,[(11,9),(41,8)],511)],4380866643968)|_,_=>([],0)
 prim:=W9 [(41,Jx (.recs true 8 []) 107 80)]
def z100.dec:V->Option (J2)
 |(.recs _ 8 x0)=>some x0
 |_=>none
theorem z100.link (a0:J2) (a1 a2 a3:Int) (a4 a5:J1):z100.C.evTop 42 (ifun Tryz.f42) [(.recs false 8 a0),(.agg [(.int .i64 a1),(.int .i64 a2),(.int .i64 a3)]),(.str a4),(.str a5)] z100.dec=z100.F a0 a1 a2 a3 a4 a5:=by kernel_rfl
def z103.l0sh:Env×Store:=((.recs false 8 []) :: .undef::(.int .i64 0)::(.cptr [(.int .i64 0),(.int .i64 0),(.int .i64 0),(.int .i64 0),(.int .i64 0),(.int .i64 0),(.str ([]:J1)),(.str ([]:J1))])::un 3 ((.recs false 8 [])::(.int .i64 0)::(.int .i64 0)::un 14 []),[.dead,.dead,.dead])
def z103.l0so1:Env×Store:=(.undef :: .undef::(.int .i64 0)::un 21 [],[.dead,.dead,.dead])
def z103.l0at (a:J2) (b:Int) (c:J2) (d:Int) (x:(Int×Int×Int×Int×Int×Int×J1×J1×Int)):Env×Store:=Qf z103.l0sh [.lr a,.i b,.i x.1,.i x.2.1,.i x.2.2.1,.i x.2.2.2.1,.i x.2.2.2.2.1,.i x.2.2.2.2.2.1,.s x.2.2.2.2.2.2.1,.s x.2.2.2.2.2.2.2.1,.lr c,.i d,.i x.2.2.2.2.2.2.2.2]
def z103.l0out0 (a:J2) (b:Int) (c:J2) (d:Int) (o:Int×Int×Int×Int×Int×Int×J1×J1×Int):X×Env×Store:=((.exit 0),Qf z103.l0sh [.lr a,.i b,.i o.1,.i o.2.1,.i o.2.2.1,.i o.2.2.2.1,.i o.2.2.2.2.1,.i o.2.2.2.2.2.1,.s o.2.2.2.2.2.2.1,.s o.2.2.2.2.2.2.2.1,.lr c,.i d,.i o.2.2.2.2.2.2.2.2])
def z103.l0out1 (o:Int):X×Env×Store:=(.ret,Qf z103.l0so1 [.i o])
def z103.l0pack:List Leaf->Option LPack
 |[.lr a,.i b,.i c,.i d,.i e,.i g,.i h,.i j,.s k,.s m,.lr n,.i o,.i p]=>some (.two _ _ (z103.l0 a n o (c,d,e,g,h,j,k,m,p)) (z103.l0out0 a b n o) (z103.l0out1 ))
 |_=>none
def z103.l0ash:Env×Store:=((.recs false 8 []) :: .undef::(.int .i64 0)::(.cptr [(.int .i64 0),(.int .i64 0),(.int .i64 0),(.int .i64 0),(.int .i64 0),(.int .i64 0),(.str ([]:J1)),(.str ([]:J1))])::un 3 ((.recs false 8 [])::(.int .i64 0)::(.int .i64 0)::un 14 []),[.dead,.dead,.dead,.dead])
def z103.l0aso1:Env×Store:=(.undef :: .undef::(.int .i64 0)::un 21 [],[.dead,.dead,.dead,.dead])
def z103.l0aat (a:J2) (b:Int) (c:J2) (d:Int) (x:(Int×Int×Int×Int×Int×Int×J1×J1×Int)):Env×Store:=Qf z103.l0ash [.lr a,.i b,.i x.1,.i x.2.1,.i x.2.2.1,.i x.2.2.2.1,.i x.2.2.2.2.1,.i x.2.2.2.2.2.1,.s x.2.2.2.2.2.2.1,.s x.2.2.2.2.2.2.2.1,.lr c,.i d,.i x.2.2.2.2.2.2.2.2]
def z103.l0aout0 (a:J2) (b:Int) (c:J2) (d:Int) (o:Int×Int×Int×Int×Int×Int×J1×J1×Int):X×Env×Store:=((.exit 0),Qf z103.l0ash [.lr a,.i b,.i o.1,.i o.2.1,.i o.2.2.1,.i o.2.2.2.1,.i o.2.2.2.2.1,.i o.2.2.2.2.2.1,.s o.2.2.2.2.2.2.1,.s o.2.2.2.2.2.2.2.1,.lr c,.i d,.i o.2.2.2.2.2.2.2.2])
def z103.l0aout1 (o:Int):X×Env×Store:=(.ret,Qf z103.l0aso1 [.i o])
def z103.l0apack:List Leaf->Option LPack
 |[.lr a,.i b,.i c,.i d,.i e,.i g,.i h,.i j,.s k,.s m,.lr n,.i o,.i p]=>some (.two _ _ (z103.l0a a n o (c,d,e,g,h,j,k,m,p)) (z103.l0aout0 a b n o) (z103.l0aout1 ))
 |_=>none
def z103.C:Ctx where
 T:=tab
 draws:=λf i=>match f,i with|116,3=>([(22,[(2,0)],0),(23,[(21,1)],1),(24,[(2,0)],0),(25,[(23,3)],4),(26,[(22,2),(24,4)],15),(27,[(25,5)],31),(28,[(26,6)],63),(29,[(1,0),(27,7)],127),(30,[(28,8),(27,7)],255),(31,[(29,9),(27,7)],511),(32,[(2,0),(30,10)],1023),(33,[(31,11),(30,10)],2047),(34,[(1,0),(30,10)],1023),(35,[(33,13),(30,10)],5119),(36,[(34,14),(30,10)],13311),(37,[(35,15),(30,10)],29695),(38,[(32,12),(36,16),(30,10)],65535),(39,[(30,10),(37,17),(27,7)],131071),(40,[(27,7),(38,18)],262143),(21,[(39,19)],524287)],1099510579200)|_,_=>([],0)
 call:=Qg [(181,z22.pack),(148,z18.pack),(89,z78.pack),(184,z75.pack)]
 inl:=inlL [(116,Tryz.f116)]
 keep:=λf i=>match f,i with|45,0=>([0,2,3,7,8,9],[],[])|_,_=>([],[],[])
 keepR:=λf i=>match f,i with|45,0=>([2],[],[2])|_,_=>([],[],[])
 unroll:=λf i=>match f,i with|45,0=>1|_,_=>0
 L:=Qv [⟨45,0,0,z103.l0sh,z103.l0pack⟩,⟨45,0,0,z103.l0ash,z103.l0apack⟩]
theorem z103.l0_link (a:J2) (b:Int) (c:J2) (d:Int):Yo z103.C 6 45 0 0 3 (ifun Tryz.f45) (z103.l0at a b c d) (z103.l0P a c d) (z103.l0out0 a b c d) (z103.l0out1 ):=λ_ _ _ _=>by kernel_rfl
theorem z103.l0a_link (a:J2) (b:Int) (c:J2) (d:Int):Yo z103.C 6 45 0 0 4 (ifun Tryz.f45) (z103.l0aat a b c d) (z103.l0aP a c d) (z103.l0aout0 a b c d) (z103.l0aout1 ):=λ_ _ _ _=>by kernel_rfl
theorem z103.link (a0:J2):z103.C.evTop 45 (ifun Tryz.f45) [(.recs false 8 a0)] z16.dec=z103.F a0:=by kernel_rfl
def z104.C:Ctx where
 T:=tab
theorem z104.link (a0:Int):z104.C.evTop 278 (ifun Tryz.f278) [(.int .i64 a0)] z23.dec=z104.F a0:=by kernel_rfl
def z106.C:Ctx where
 T:=tab
 call:=Qg [(278,z104.pack),(334,z105.pack)]
theorem z106.link (a0:Int):z106.C.evTop 320 (ifun Tryz.f320) [(.int .i64 a0)] z83.dec=z106.F a0:=by kernel_rfl
def z109.C:Ctx where
 T:=tab
 call:=Qg [(280,z108.pack)]
theorem z109.link (a0 a1 a2 a3 a4 a5:Int):z109.C.evTop 279 (ifun Tryz.f279) [(.agg [(.int .i64 a0),(.int .i64 a1),(.int .i64 a2)]),(.agg [(.int .i64 a3),(.int .i64 a4),(.int .i64 a5)])] z74.dec=z109.F a0 a1 a2 a3 a4 a5:=by kernel_rfl
def z115.C:Ctx where
 T:=tab
 draws:=λf i=>match f,i with|323,1=>([(6,[(2,0)],0),(7,[(5,1)],1),(8,[(3,0)],0),(9,[(7,3)],4),(10,[(6,2),(8,4)],15),(11,[(3,0)],0),(12,[(10,6)],32),(13,[(2,0)],0),(14,[(12,8)],159),(15,[(11,7),(13,9)],511),(16,[(9,5),(14,10)],1023),(17,[(2,0)],0),(18,[(16,12)],4095),(19,[(3,0)],0),(20,[(18,14)],16383),(21,[(17,13),(19,15)],32767),(22,[(15,11),(20,16)],65535),(0,[(4,0),(21,17)],131071)],4194272)|_,_=>([],0)
 call:=Qg [(304,z54.pack),(239,z51.pack),(12,z65.pack),(235,z53.pack),(161,z50.pack),(243,z48.pack)]
theorem z115.link (a0:J0) (a1:Bool) (a2 a3:J0) (a4:Bool) (a5:J0):z115.C.evTop 323 (ifun Tryz.f323) [(.agg [(.ints false .u64 a0),(.bool a1),(.ints false .u64 a2)]),(.agg [(.ints false .u64 a3),(.bool a4),(.ints false .u64 a5)])] z74.dec=z115.F a0 a1 a2 a3 a4 a5:=by kernel_rfl
def z116.C:Ctx where
 T:=tab
 draws:=λf i=>match f,i with|282,2=>([(13,[(2,0)],0),(14,[(3,0)],0),(15,[(12,1),(13,2)],3),(16,[(2,0)],0),(17,[(15,4)],8),(18,[(16,5)],31),(19,[(14,3),(17,6)],63),(0,[(4,0),(18,7)],127)],520192)|282,5=>([(31,[(5,0)],0),(32,[(2,0)],0),(33,[(31,2)],2),(34,[(32,3)],6),(35,[(30,1),(33,4)],15),(36,[(3,0)],0),(37,[(35,6)],32),(38,[(2,0)],0),(39,[(37,8)],128),(40,[(36,7),(38,9)],480),(41,[(39,10)],992),(42,[(40,11)],2047),(43,[(34,5),(41,12)],4095),(44,[(6,0)],0),(45,[(3,0)],0),(46,[(44,15)],16384),(47,[(45,16)],57343),(48,[(43,14),(46,17)],131071),(49,[(42,13),(47,18)],262143),(0,[(4,0),(48,19)],524287)],562948879679488)|_,_=>([],0)
 call:=Qg [(281,z113.pack),(322,z114.pack),(280,z108.pack),(323,z115.pack)]
theorem z116.link (a0 a1 a2 a3 a4 a5:Int):z116.C.evTop 282 (ifun Tryz.f282) [(.agg [(.int .i64 a0),(.int .i64 a1),(.int .i64 a2)]),(.agg [(.int .i64 a3),(.int .i64 a4),(.int .i64 a5)])] z74.dec=z116.F a0 a1 a2 a3 a4 a5:=by kernel_rfl
def z117.C:Ctx where
 T:=tab
 call:=Qg [(278,z104.pack),(181,z22.pack),(148,z18.pack),(279,z109.pack),(281,z113.pack),(280,z108.pack),(282,z116.pack)]
theorem z117.link (a0 a1 a2 a3 a4 a5 a6:Int):z117.C.evTop 199 (ifun Tryz.f199) [(.int .i64 a0),(.agg [(.int .i64 a1),(.int .i64 a2),(.int .i64 a3)]),(.agg [(.int .i64 a4),(.int .i64 a5),(.int .i64 a6)])] z55.dec=z117.F a0 a1 a2 a3 a4 a5 a6:=by kernel_rfl
def z125.C:Ctx where
 T:=tab
theorem z125.link:z125.C.evTop 335 (ifun Tryz.f335) [] z105.dec=z125.F:=by kernel_rfl
def z126.C:Ctx where
 T:=tab
 call:=Qg [(241,z94.pack),(335,z125.pack)]
theorem z126.link (a0:Int):z126.C.evTop 321 (ifun Tryz.f321) [(.int .i64 a0)] z83.dec=z126.F a0:=by kernel_rfl
def z127.C:Ctx where
 T:=tab
 call:=Qg [(319,z124.pack),(320,z106.pack),(321,z126.pack)]
theorem z127.link (a0 a1:J1) (a2 a3 a4 a5 a6 a7 a8 a9:Int):z127.C.evTop 276 (ifun Tryz.f276) [(.agg [(.str a0),(.str a1),(.int .i64 a2),(.int .i64 a3),(.int .i64 a4),(.int .i64 a5),(.int .i64 a6),(.int .i64 a7),(.int .i64 a8),(.int .i64 a9)])] z23.dec=z127.F a0 a1 a2 a3 a4 a5 a6 a7 a8 a9:=by kernel_rfl
def z134.l0ash:Env×Store:=((.ptr 4 0) :: .undef :: .undef::(.int .i64 0) :: .undef::(.ptr 6 0) :: .undef :: .undef::(.int .i64 0)::(.int .i64 0)::(.recs false 8 [])::(.int .i64 0)::un 18 ((.recs false 5 [])::(.int .i64 0)::(.int .i64 0)::un 31 []),[.dead,(.arr 0 true 81 (.recs false 8 [])),.dead,(.arr 0 true 81 (.recs false 8 [])),(.cells 178 [(.str ([]:J1)),(.str ([]:J1)),(.int .i64 0),(.int .i64 0),(.int .i64 0),(.int .i64 0),(.int .i64 0),(.int .i64 0),(.int .i64 0),(.int .i64 0),(.ints false .u64 []),(.bool false),(.str ([]:J1)),(.ints false .u64 []),(.bool false),(.sref 3 0)]),(.cells 175 [(.int .i64 0),(.int .i64 0),(.int .i64 0),(.int .i64 0),(.int .i64 0),(.int .i64 0)]),(.cells 175 [(.int .i64 0),(.int .i64 0),(.int .i64 0),(.int .i64 0),(.int .i64 0),(.int .i64 0)])])
def z134.l0aso1:Env×Store:=(un 8 ((.int .i64 0)::(.int .i64 0)::un 54 []),[.dead,(.arr 0 true 81 (.recs false 8 [])),.dead,(.arr 0 true 81 (.recs false 8 [])),(.cells 178 [(.str ([]:J1)),(.str ([]:J1)),(.int .i64 0),(.int .i64 0),(.int .i64 0),(.int .i64 0),(.int .i64 0),(.int .i64 0),(.int .i64 0),(.int .i64 0),(.ints false .u64 []),(.bool false),(.str ([]:J1)),(.ints false .u64 []),(.bool false),(.sref 3 0)]),(.cells 175 [(.int .i64 0),(.int .i64 0),(.int .i64 0),(.int .i64 0),(.int .i64 0),(.int .i64 0)]),(.cells 175 [(.int .i64 0),(.int .i64 0),(.int .i64 0),(.int .i64 0),(.int .i64 0),(.int .i64 0)])])
def z134.l0aat (a c d:Int) (e:J2) (g:Int) (h:J2) (j k m n o p q r t u v w:Int) (x:(J2×Int×Int×J2×J1×J1×Int×Int×Int×Int×Int×Int×Int×Int×J0×Bool×J1×J0×Bool)):Env×Store:=Qf z134.l0ash [.i a,.i c,.i d,.lr x.1,.i x.2.1,.lr e,.i g,.i x.2.2.1,.lr h,.lr x.2.2.2.1,.s x.2.2.2.2.1,.s x.2.2.2.2.2.1,.i x.2.2.2.2.2.2.1,.i x.2.2.2.2.2.2.2.1,.i x.2.2.2.2.2.2.2.2.1,.i x.2.2.2.2.2.2.2.2.2.1,.i x.2.2.2.2.2.2.2.2.2.2.1,.i x.2.2.2.2.2.2.2.2.2.2.2.1,.i x.2.2.2.2.2.2.2.2.2.2.2.2.1,.i x.2.2.2.2.2.2.2.2.2.2.2.2.2.1,.li x.2.2.2.2.2.2.2.2.2.2.2.2.2.2.1,.b x.2.2.2.2.2.2.2.2.2.2.2.2.2.2.2.1,.s x.2.2.2.2.2.2.2.2.2.2.2.2.2.2.2.2.1,.li x.2.2.2.2.2.2.2.2.2.2.2.2.2.2.2.2.2.1,.b x.2.2.2.2.2.2.2.2.2.2.2.2.2.2.2.2.2.2,.i j,.i k,.i m,.i n,.i o,.i p,.i q,.i r,.i t,.i u,.i v,.i w]
def z134.l0aout0 (a c d:Int) (e:J2) (g:Int) (h:J2) (j k m n p q r t u v w x:Int) (o:J2×Int×Int×J2×J1×J1×Int×Int×Int×Int×Int×Int×Int×Int×J0×Bool×J1×J0×Bool):X×Env×Store:=((.exit 0),Qf z134.l0ash [.i a,.i c,.i d,.lr o.1,.i o.2.1,.lr e,.i g,.i o.2.2.1,.lr h,.lr o.2.2.2.1,.s o.2.2.2.2.1,.s o.2.2.2.2.2.1,.i o.2.2.2.2.2.2.1,.i o.2.2.2.2.2.2.2.1,.i o.2.2.2.2.2.2.2.2.1,.i o.2.2.2.2.2.2.2.2.2.1,.i o.2.2.2.2.2.2.2.2.2.2.1,.i o.2.2.2.2.2.2.2.2.2.2.2.1,.i o.2.2.2.2.2.2.2.2.2.2.2.2.1,.i o.2.2.2.2.2.2.2.2.2.2.2.2.2.1,.li o.2.2.2.2.2.2.2.2.2.2.2.2.2.2.1,.b o.2.2.2.2.2.2.2.2.2.2.2.2.2.2.2.1,.s o.2.2.2.2.2.2.2.2.2.2.2.2.2.2.2.2.1,.li o.2.2.2.2.2.2.2.2.2.2.2.2.2.2.2.2.2.1,.b o.2.2.2.2.2.2.2.2.2.2.2.2.2.2.2.2.2.2,.i j,.i k,.i m,.i n,.i p,.i q,.i r,.i t,.i u,.i v,.i w,.i x])
def z134.l0aout1 (a:J2) (c d e g h j k m n p q r:Int) (o:Int×Int×J2×J1×J1×Int×Int×Int×Int×Int×Int×Int×Int×J0×Bool×J1×J0×Bool):X×Env×Store:=(.ret,Qf z134.l0aso1 [.i o.1,.i o.2.1,.lr a,.lr o.2.2.1,.s o.2.2.2.1,.s o.2.2.2.2.1,.i o.2.2.2.2.2.1,.i o.2.2.2.2.2.2.1,.i o.2.2.2.2.2.2.2.1,.i o.2.2.2.2.2.2.2.2.1,.i o.2.2.2.2.2.2.2.2.2.1,.i o.2.2.2.2.2.2.2.2.2.2.1,.i o.2.2.2.2.2.2.2.2.2.2.2.1,.i o.2.2.2.2.2.2.2.2.2.2.2.2.1,.li o.2.2.2.2.2.2.2.2.2.2.2.2.2.1,.b o.2.2.2.2.2.2.2.2.2.2.2.2.2.2.1,.s o.2.2.2.2.2.2.2.2.2.2.2.2.2.2.2.1,.li o.2.2.2.2.2.2.2.2.2.2.2.2.2.2.2.2.1,.b o.2.2.2.2.2.2.2.2.2.2.2.2.2.2.2.2.2,.i c,.i d,.i e,.i g,.i h,.i j,.i k,.i m,.i n,.i p,.i q,.i r])
def z134.l0apack:List Leaf->Option LPack
 |.i a :: .i c :: .i d :: .lr e :: .i g :: .lr h :: .i j :: .i k :: .lr m :: .lr n :: .s o :: .s p :: .i q :: .i r :: .i t :: .i u :: .i v :: .i w :: .i x :: .i y :: .li z :: .b A :: .s B :: .li C :: .b D :: .i E :: .i G :: .i H :: .i I :: .i J :: .i K :: .i L :: .i M :: .i N :: .i O :: .i P :: .i Q::[]=>some (.two _ _ (z134.l0a a h j O P Q (e,g,k,n,o,p,q,r,t,u,v,w,x,y,z,A,B,C,D)) (z134.l0aout0 a c d h j m E G H I J K L M N O P Q) (z134.l0aout1 m E G H I J K L M N O P Q))
 |_=>none
def z134.l0sh:Env×Store:=(.undef::(.recs false 5 []) :: .undef :: .undef::(.sref 1 0)::(.int .i64 0)::(.int .i64 0)::(.recs false 6 [])::un 7 ((.ptr 4 0)::(.int .i64 0)::un 63 ((.recs false 6 [])::(.int .i64 0)::(.int .i64 0)::un 29 [])),[.dead,(.arr 0 true 81 (.recs false 8 [])),.dead,(.arr 0 true 81 (.recs false 8 [])),(.cells 178 [(.str ([]:J1)),(.str ([]:J1)),(.int .i64 0),(.int .i64 0),(.int .i64 0),(.int .i64 0),(.int .i64 0),(.int .i64 0),(.int .i64 0),(.int .i64 0),(.ints false .u64 []),(.bool false),(.str ([]:J1)),(.ints false .u64 []),(.bool false),(.sref 3 0)])])
def z134.l0so1:Env×Store:=(un 4 ((.recs false 8 [])::(.int .i64 0)::(.int .i64 0)::un 105 []),[.dead,(.arr 0 true 81 (.recs false 8 [])),.dead,(.arr 0 true 81 (.recs false 8 [])),(.cells 178 [(.str ([]:J1)),(.str ([]:J1)),(.int .i64 0),(.int .i64 0),(.int .i64 0),(.int .i64 0),(.int .i64 0),(.int .i64 0),(.int .i64 0),(.int .i64 0),(.ints false .u64 []),(.bool false),(.str ([]:J1)),(.ints false .u64 []),(.bool false),(.sref 3 0)])])
def z134.l0at (a:J2) (c d:Int) (e g:J2) (h:Int) (j:J2) (x:(Int×Int×J2×J1×J1×Int×Int×Int×Int×Int×Int×Int×Int×J0×Bool×J1×J0×Bool)):Env×Store:=Qf z134.l0sh [.lr a,.i c,.i d,.lr e,.i x.1,.lr g,.i h,.i x.2.1,.lr j,.lr x.2.2.1,.s x.2.2.2.1,.s x.2.2.2.2.1,.i x.2.2.2.2.2.1,.i x.2.2.2.2.2.2.1,.i x.2.2.2.2.2.2.2.1,.i x.2.2.2.2.2.2.2.2.1,.i x.2.2.2.2.2.2.2.2.2.1,.i x.2.2.2.2.2.2.2.2.2.2.1,.i x.2.2.2.2.2.2.2.2.2.2.2.1,.i x.2.2.2.2.2.2.2.2.2.2.2.2.1,.li x.2.2.2.2.2.2.2.2.2.2.2.2.2.1,.b x.2.2.2.2.2.2.2.2.2.2.2.2.2.2.1,.s x.2.2.2.2.2.2.2.2.2.2.2.2.2.2.2.1,.li x.2.2.2.2.2.2.2.2.2.2.2.2.2.2.2.2.1,.b x.2.2.2.2.2.2.2.2.2.2.2.2.2.2.2.2.2]
def z134.l0out0 (a:J2) (c d:Int) (e g:J2) (h:Int) (j:J2) (o:Int×Int×J2×J1×J1×Int×Int×Int×Int×Int×Int×Int×Int×J0×Bool×J1×J0×Bool):X×Env×Store:=((.exit 0),Qf z134.l0sh [.lr a,.i c,.i d,.lr e,.i o.1,.lr g,.i h,.i o.2.1,.lr j,.lr o.2.2.1,.s o.2.2.2.1,.s o.2.2.2.2.1,.i o.2.2.2.2.2.1,.i o.2.2.2.2.2.2.1,.i o.2.2.2.2.2.2.2.1,.i o.2.2.2.2.2.2.2.2.1,.i o.2.2.2.2.2.2.2.2.2.1,.i o.2.2.2.2.2.2.2.2.2.2.1,.i o.2.2.2.2.2.2.2.2.2.2.2.1,.i o.2.2.2.2.2.2.2.2.2.2.2.2.1,.li o.2.2.2.2.2.2.2.2.2.2.2.2.2.1,.b o.2.2.2.2.2.2.2.2.2.2.2.2.2.2.1,.s o.2.2.2.2.2.2.2.2.2.2.2.2.2.2.2.1,.li o.2.2.2.2.2.2.2.2.2.2.2.2.2.2.2.2.1,.b o.2.2.2.2.2.2.2.2.2.2.2.2.2.2.2.2.2])
def z134.l0out1 (a:J2) (o:J2×Int×Int×J2×J1×J1×Int×Int×Int×Int×Int×Int×Int×Int×J0×Bool×J1×J0×Bool):X×Env×Store:=(.ret,Qf z134.l0so1 [.lr o.1,.i o.2.1,.i o.2.2.1,.lr a,.lr o.2.2.2.1,.s o.2.2.2.2.1,.s o.2.2.2.2.2.1,.i o.2.2.2.2.2.2.1,.i o.2.2.2.2.2.2.2.1,.i o.2.2.2.2.2.2.2.2.1,.i o.2.2.2.2.2.2.2.2.2.1,.i o.2.2.2.2.2.2.2.2.2.2.1,.i o.2.2.2.2.2.2.2.2.2.2.2.1,.i o.2.2.2.2.2.2.2.2.2.2.2.2.1,.i o.2.2.2.2.2.2.2.2.2.2.2.2.2.1,.li o.2.2.2.2.2.2.2.2.2.2.2.2.2.2.1,.b o.2.2.2.2.2.2.2.2.2.2.2.2.2.2.2.1,.s o.2.2.2.2.2.2.2.2.2.2.2.2.2.2.2.2.1,.li o.2.2.2.2.2.2.2.2.2.2.2.2.2.2.2.2.2.1,.b o.2.2.2.2.2.2.2.2.2.2.2.2.2.2.2.2.2.2])
def z134.l0pack:List Leaf->Option LPack
 |[.lr a,.i c,.i d,.lr e,.i g,.lr h,.i j,.i k,.lr m,.lr n,.s o,.s p,.i q,.i r,.i t,.i u,.i v,.i w,.i x,.i y,.li z,.b A,.s B,.li C,.b D]=>some (.two _ _ (z134.l0 a e h j (g,k,n,o,p,q,r,t,u,v,w,x,y,z,A,B,C,D)) (z134.l0out0 a c d e h j m) (z134.l0out1 m))
 |_=>none
def z134.C:Ctx where
 T:=tab
 draws:=λf i=>match f,i with|25,7=>([(40,[(2,0)],0),(41,[(7,0)],0),(42,[(7,0)],0),(43,[(41,3)],4),(44,[(42,4)],12),(45,[(40,2),(43,5)],30),(46,[(44,6)],62),(47,[(45,7)],126),(48,[(1,0)],0),(49,[(39,1),(46,8),(47,9)],511),(39,[(48,10)],1023),(50,[(38,11)],2047),(51,[(38,11)],2047),(12,[(49,12)],4095),(13,[(50,13)],16383)],2251524935784448)|25,17=>([(89,[(15,0)],0),(90,[(18,0)],0),(91,[(1,0)],0),(92,[(16,0)],0),(93,[(90,3),(91,4)],12),(94,[(7,0)],0),(95,[(93,6)],32),(96,[(17,0)],0),(97,[(94,7),(95,8)],224),(98,[(88,1),(89,2),(92,5),(96,9)],511),(88,[(97,10)],1023),(99,[(87,11)],2047),(100,[(87,11)],2047),(20,[(98,12)],4095),(21,[(99,13)],16383)],1267495857723318728962342387712)|90,1=>([(16,[(5,0)],0),(17,[(15,1)],1),(18,[(5,0)],0),(19,[(17,3)],4),(20,[(0,0)],0),(21,[(19,5)],16),(22,[(20,6)],48),(23,[(21,7)],112),(24,[(22,8)],240),(25,[(0,0)],0),(26,[(24,10)],512),(27,[(25,11)],1536),(28,[(26,12)],3584),(29,[(16,2),(18,4),(23,9),(27,13)],8191),(30,[(28,14)],16383),(11,[(29,15)],32767)],1073710080)|_,_=>([],0)
 call:=Qg [(86,z132.pack),(87,z82.pack),(88,z133.pack),(89,z78.pack),(31,z99.pack),(13,z85.pack),(148,z18.pack)]
 inl:=inlL [(90,Tryz.f90)]
 rank:=λg=>match g with|90=>1|_=>0
 prim:=W9 [(157,subP 178 81 0 z101.pk),(158,subP 178 81 1 z122.pk)]
 own:=λd=>match d with|65=>true|_=>false
 keep:=λf i=>match f,i with|90,0=>([0,3,5,8,9,10,11,30,31,32],List.range 64,[])|25,0=>([1,4,5,6,7,15,16,80,81,82],[1,3,4],[])|_,_=>([],[],[])
 keepR:=λf i=>match f,i with|90,0=>([8,9],List.range 64,[])|25,0=>([4,5,6],[1,3,4],[4,5,6])|_,_=>([],[],[])
 L:=Qv [⟨90,0,6,z134.l0ash,z134.l0apack⟩,⟨25,0,0,z134.l0sh,z134.l0pack⟩]
def z134.dec:V->Option (J2×Int×Int)
 |(.tup [(.recs _ 8 x0),(.int .i64 x1),(.int .i64 x2)])=>some (x0,x1,x2)
 |_=>none
theorem z134.l0a_link (a b c:Int) (d:J2) (e:Int) (g:J2) (h j k m n o p q r s t u:Int):Yo z134.C 1 90 0 6 7 (ifun Tryz.f90) (z134.l0aat a b c d e g h j k m n o p q r s t u) (z134.l0aP a d e s t u) (z134.l0aout0 a b c d e g h j k m n o p q r s t u) (z134.l0aout1 g h j k m n o p q r s t u):=λ_ _ _ _=>by kernel_rfl
theorem z134.l0_link (a:J2) (b c:Int) (d e:J2) (g:Int) (h:J2):Yo z134.C 6 25 0 0 5 (ifun Tryz.f25) (z134.l0at a b c d e g h) (z134.l0P a d e g) (z134.l0out0 a b c d e g h) (z134.l0out1 h):=λ_ _ _ _=>by kernel_rfl
theorem z134.link (a0 a1:J1) (a2 a3 a4 a5 a6 a7 a8 a9:Int) (a10:J2):z134.C.evTop 25 (ifun Tryz.f25) [(.agg [(.str a0),(.str a1),(.int .i64 a2),(.int .i64 a3),(.int .i64 a4),(.int .i64 a5),(.int .i64 a6),(.int .i64 a7),(.int .i64 a8),(.int .i64 a9)]),(.recs false 5 a10)] z134.dec=z134.F a0 a1 a2 a3 a4 a5 a6 a7 a8 a9 a10:=by kernel_rfl
def z137.C:Ctx where
 T:=tab
theorem z137.link (a0:J0) (a1:Int):z137.C.evTop 179 (ifun Tryz.f179) [(.ints false .i64 a0),(.int .i64 a1)] z16.dec=z137.F a0 a1:=by kernel_rfl
def z141.l0sh:Env×Store:=(.undef::(.ptr 0 0)::(.str ([]:J1))::(.str ([]:J1))::un 36 [],[(.cells 200 [(.ints false .i64 []),(.bool false),(.int .i64 0)])])
def z141.l0at (a:J1) (c:J0) (d:Bool) (e:Int) (x:(J1)):Env×Store:=Qf z141.l0sh [.s a,.s x,.li c,.b d,.i e]
def z141.l0out0 (a:J1) (c:J0) (d:Bool) (e:Int) (o:J1):X×Env×Store:=((.exit 0),Qf z141.l0sh [.s a,.s o,.li c,.b d,.i e])
def z141.l0pack:List Leaf->Option LPack
 |[.s a,.s c,.li d,.b e,.i g]=>some (.one _ (z141.l0 g c) (z141.l0out0 a d e g))
 |_=>none
def z141.C:Ctx where
 T:=tab
 draws:=λf i=>match f,i with|104,5=>([(19,[(3,17)],0),(20,[(3,17)],0),(21,[(19,2)],2),(22,[(1,0)],0),(23,[(21,4)],8),(24,[(20,3),(22,5)],30),(25,[(18,1),(23,6)],63),(26,[(24,7)],127),(27,[(3,17)],0),(28,[(3,17)],0),(29,[(27,10)],512),(30,[(1,0)],0),(31,[(29,12)],2048),(32,[(28,11),(30,13)],7680),(33,[(26,9),(31,14)],16128),(34,[(25,8),(32,15)],32767),(4,[(33,16)],65535)],17179607048)|_,_=>([],0)
 call:=Qg [(71,z5.pack)]
 keep:=λf i=>match f,i with|104,0=>([1,2,3],[0],[])|_,_=>([],[],[])
 keepR:=λf i=>match f,i with|104,0=>([2],[0],[2])|_,_=>([],[],[])
 L:=Qv [⟨104,0,0,z141.l0sh,z141.l0pack⟩]
theorem z141.l0_link (a:J1) (b:J0) (c:Bool) (d:Int):Qr z141.C 6 104 0 0 1 (ifun Tryz.f104) (z141.l0at a b c d) (z141.l0P d) (z141.l0out0 a b c d):=λ_ _ _ _=>by kernel_rfl
theorem z141.link (a0:J0) (a1:Bool) (a2:Int):z141.C.evTop 104 (ifun Tryz.f104) [(.agg [(.ints false .i64 a0),(.bool a1),(.int .i64 a2)])] z83.dec=z141.F a0 a1 a2:=by kernel_rfl
end
noncomputable section
def z5.l2sh:Env×Store:=((.ints false .i64 []) :: .undef::(.str ([]:J1))::(.str ([]:J1))::(.int .i64 0)::(.int .i64 0)::(.int .i64 0)::un 37 [],[])
def z5.l2at (a:J0) (b:J1) (c:Int) (x:(J1×Int×Int)):Env×Store:=Qf z5.l2sh [.li a,.s b,.s x.1,.i c,.i x.2.1,.i x.2.2]
def z5.l2out0 (a:J0) (b:J1) (c:Int) (o:J1×Int×Int):X×Env×Store:=((.exit 2),Qf z5.l2sh [.li a,.s b,.s o.1,.i c,.i o.2.1,.i o.2.2])
def z5.l2pack:List Leaf->Option LPack
 |[.li a,.s b,.s c,.i d,.i e,.i g]=>some (.one _ (z5.l2 (c,e,g)) (z5.l2out0 a b d))
 |_=>none
def z5.l0sh:Env×Store:=((.ints false .i64 []) :: .undef::(.str ([]:J1))::(.str ([]:J1))::(.int .i64 0)::un 39 [],[])
def z5.l0at (a:J0) (b:J1) (x:(J1×Int)):Env×Store:=Qf z5.l0sh [.li a,.s b,.s x.1,.i x.2]
def z5.l0out0 (a:J0) (b:J1) (o:J1×Int):X×Env×Store:=((.exit 0),Qf z5.l0sh [.li a,.s b,.s o.1,.i o.2])
def z5.l0pack:List Leaf->Option LPack
 |[.li a,.s b,.s c,.i d]=>some (.one _ (z5.l0 a (c,d)) (z5.l0out0 a b))
 |_=>none
def z5.l4sh:Env×Store:=(.undef :: .undef::(.str ([]:J1))::(.str ([]:J1))::un 3 ((.int .i64 0)::un 36 []),[])
def z5.l4at (a b:J1) (x:Int):Env×Store:=Qf z5.l4sh [.s a,.s b,.i x]
def z5.l4out0 (a b:J1) (o:Int):X×Env×Store:=((.exit 4),Qf z5.l4sh [.s a,.s b,.i o])
def z5.l4pack:List Leaf->Option LPack
 |[.s a,.s b,.i c]=>some (.one _ (z5.l4 b c) (z5.l4out0 a b))
 |_=>none
def z5.C:Ctx where
 T:=tab
 keep:=λf i=>match f,i with|71,2=>([0,2,3,4,5,6],[],[])|71,0=>([0,2,3,4],[],[])|71,4=>([2,3,7],[],[])|_,_=>([],[],[])
 keepR:=λf i=>match f,i with|71,2=>([2],[],[2])|71,0=>([2],[],[2])|71,4=>([2],[],[2])|_,_=>([],[],[])
 L:=Qv [⟨71,2,0,z5.l2sh,z5.l2pack⟩,⟨71,0,0,z5.l0sh,z5.l0pack⟩,⟨71,4,0,z5.l4sh,z5.l4pack⟩]
theorem z5.l2_link (a:J0) (b:J1) (c:Int):Qr z5.C 6 71 2 0 0 (ifun Tryz.f71) (z5.l2at a b c) (z5.l2P ) (z5.l2out0 a b c):=λ_ _ _ _=>by kernel_rfl
theorem z5.l0_link (a:J0) (b:J1):Qr z5.C 6 71 0 0 0 (ifun Tryz.f71) (z5.l0at a b) (z5.l0P a) (z5.l0out0 a b):=λ_ _ _ _=>by kernel_rfl
theorem z5.l4_link (a b:J1):Qr z5.C 6 71 4 0 0 (ifun Tryz.f71) (z5.l4at a b) (z5.l4P b) (z5.l4out0 a b):=λ_ _ _ _=>by kernel_rfl
theorem z5.link (a0:J0):z5.C.evTop 71 (ifun Tryz.f71) [(.ints false .i64 a0)] z83.dec=z5.F a0:=by kernel_rfl
def z8.C:Ctx where
 T:=tab
 call:=Qg [(202,z7.pack)]
theorem z8.link (a0 a1:Int):z8.C.evTop 133 (ifun Tryz.f133) [(.int .i64 a0),(.int .i64 a1)] z16.dec=z8.F a0 a1:=by kernel_rfl
def z12.C:Ctx where
 T:=tab
 call:=Qg [(111,z11.pack),(35,z10.pack)]
def z12.dec:V->Option (J0×Bool)
 |(.agg [(.ints _ .i64 x0),(.bool x1)])=>some (x0,x1)
 |_=>none
theorem z12.link (a0:Int):z12.C.evTop 64 (ifun Tryz.f64) [(.int .i64 a0)] z12.dec=z12.F a0:=by kernel_rfl
def z15.C:Ctx where
 T:=tab
theorem z15.link (a0:Int):z15.C.evTop 283 (ifun Tryz.f283) [(.int .i64 a0)] z23.dec=z15.F a0:=by kernel_rfl
def z18.C:Ctx where
 T:=tab
 draws:=λf i=>match f,i with|148,1=>([(6,[(2,0)],0),(7,[(5,1)],1),(8,[(3,0)],0),(9,[(7,3)],4),(10,[(6,2),(8,4)],15),(11,[(2,0)],0),(12,[(10,6)],32),(13,[(3,0)],0),(14,[(12,8)],128),(15,[(11,7),(13,9)],511),(16,[(2,0)],0),(17,[(15,11)],1024),(18,[(3,0)],0),(19,[(17,13)],4096),(20,[(16,12),(18,14)],16383),(21,[(9,5),(14,10),(19,15)],32767),(22,[(20,16)],65535),(5,[(21,17)],131071)],4194288)|_,_=>([],0)
 call:=Qg [(206,z16.pack),(210,z17.pack)]
theorem z18.link (a0 a1 a2 a3 a4 a5:Int):z18.C.evTop 148 (ifun Tryz.f148) [(.agg [(.int .i64 a0),(.int .i64 a1),(.int .i64 a2)]),(.agg [(.int .i64 a3),(.int .i64 a4),(.int .i64 a5)])] z16.dec=z18.F a0 a1 a2 a3 a4 a5:=by kernel_rfl
def z19.C:Ctx where
 T:=tab
theorem z19.link (a0:Int):z19.C.evTop 248 (ifun Tryz.f248) [(.int .i64 a0)] z23.dec=z19.F a0:=by kernel_rfl
def z22.C:Ctx where
 T:=tab
 draws:=λf i=>match f,i with|181,1=>([(4,[(1,0)],0),(5,[(3,1)],1),(6,[(4,2)],3),(7,[(5,3)],7),(8,[(1,0),(6,4)],15),(9,[(7,5),(6,4)],31),(10,[(1,0),(6,4)],15),(11,[(9,7),(6,4)],79),(12,[(1,0),(6,4)],15),(13,[(11,9),(6,4)],271),(14,[(10,8),(12,10),(6,4)],975),(15,[(8,6),(13,11),(6,4)],2047),(16,[(6,4),(14,12)],4095)],65528)|_,_=>([],0)
 call:=Qg [(183,z21.pack)]
theorem z22.link (a0 a1 a2:Int):z22.C.evTop 181 (ifun Tryz.f181) [(.agg [(.int .i64 a0),(.int .i64 a1),(.int .i64 a2)])] z16.dec=z22.F a0 a1 a2:=by kernel_rfl
def z26.l0sh:Env×Store:=((.ints false .u64 []) :: .undef::(.ptr 0 0)::(.int .i64 0)::un 19 [],[(.cells 37 [(.ints false .u64 [])])])
def z26.l0at (a b:J0) (x:Int):Env×Store:=Qf z26.l0sh [.li a,.i x,.li b]
def z26.l0out0 (a b:J0) (o:Int):X×Env×Store:=((.exit 0),Qf z26.l0sh [.li a,.i o,.li b])
def z26.l0pack:List Leaf->Option LPack
 |[.li a,.i b,.li c]=>some (.one _ (z26.l0 a b) (z26.l0out0 a c))
 |_=>none
def z26.C:Ctx where
 T:=tab
 keep:=λf i=>match f,i with|107,0=>([0,2,3],[0],[])|_,_=>([],[],[])
 keepR:=λf i=>match f,i with|107,0=>([2],[0],[2])|_,_=>([],[],[])
 L:=Qv [⟨107,0,0,z26.l0sh,z26.l0pack⟩]
theorem z26.l0_link (a b:J0):Qr z26.C 6 107 0 0 1 (ifun Tryz.f107) (z26.l0at a b) (z26.l0P a) (z26.l0out0 a b):=λ_ _ _ _=>by kernel_rfl
theorem z26.link (a0:J0):z26.C.evTop 107 (ifun Tryz.f107) [(.ints false .u64 a0)] z50.dec=z26.F a0:=by kernel_rfl
def z27.C:Ctx where
 T:=tab
 call:=Qg [(107,z26.pack)]
 prim:=W9 [(108,Jx (.ints true .u64 []) 63 8)]
theorem z27.link (a0:J0):z27.C.evTop 33 (ifun Tryz.f33) [(.ints false .u64 a0)] z50.dec=z27.F a0:=by kernel_rfl
def z31.C:Ctx where
 T:=tab
theorem z31.link (a0:J0) (a1:Bool):z31.C.evTop 237 (ifun Tryz.f237) [(.agg [(.ints false .u64 a0),(.bool a1)])] z50.dec=z31.F a0 a1:=by kernel_rfl
def z32.C:Ctx where
 T:=tab
def z32.dec:V->Option (Int)
 |(.int .u64 x0)=>some x0
 |_=>none
theorem z32.link (a0:J0) (a1:Int):z32.C.evTop 139 (ifun Tryz.f139) [(.agg [(.ints false .u64 a0)]),(.int .i64 a1)] z32.dec=z32.F a0 a1:=by kernel_rfl
def z33.C:Ctx where
 T:=tab
theorem z33.link (a0:Int):z33.C.evTop 284 (ifun Tryz.f284) [(.int .u64 a0)] z23.dec=z33.F a0:=by kernel_rfl
def z39.C:Ctx where
 T:=tab
 call:=Qg [(324,z38.pack)]
theorem z39.link (a0:Int):z39.C.evTop 286 (ifun Tryz.f286) [(.int .u64 a0)] z16.dec=z39.F a0:=by kernel_rfl
def z40.l0sh:Env×Store:=(.undef :: .undef::(.int .u64 0)::un 3 ((.int .u64 0)::(.int .u64 0)::(.int .u64 0)::(.int .u64 0)::(.int .u64 0)::(.int .u64 0) :: .undef::(.int .u64 0)::(.int .u64 0)::(.int .u64 0)::(.int .u64 0)::un 118 []),[])
def z40.l0at (a b c d e g h j k:Int) (x:(Int×Int)):Env×Store:=Qf z40.l0sh [.i a,.i b,.i c,.i d,.i e,.i g,.i h,.i j,.i k,.i x.1,.i x.2]
def z40.l0out0 (a b c d e g h j k:Int) (o:Int×Int):X×Env×Store:=((.exit 0),Qf z40.l0sh [.i a,.i b,.i c,.i d,.i e,.i g,.i h,.i j,.i k,.i o.1,.i o.2])
def z40.l0pack:List Leaf->Option LPack
 |[.i a,.i b,.i c,.i d,.i e,.i g,.i h,.i j,.i k,.i m,.i n]=>some (.one _ (z40.l0 e g j (m,n)) (z40.l0out0 a b c d e g h j k))
 |_=>none
def z40.l2sh:Env×Store:=(.undef :: .undef::(.int .u64 0)::un 3 ((.int .u64 0)::(.int .u64 0)::(.int .u64 0)::(.int .u64 0)::(.int .u64 0)::un 3 ((.int .u64 0)::(.int .u64 0)::(.int .u64 0)::(.int .u64 0)::(.int .u64 0)::un 116 [])),[])
def z40.l2at (a b c d e g h j k:Int) (x:(Int×Int)):Env×Store:=Qf z40.l2sh [.i a,.i b,.i c,.i d,.i e,.i g,.i h,.i j,.i x.1,.i k,.i x.2]
def z40.l2out0 (a b c d e g h j k:Int) (o:Int×Int):X×Env×Store:=((.exit 2),Qf z40.l2sh [.i a,.i b,.i c,.i d,.i e,.i g,.i h,.i j,.i o.1,.i k,.i o.2])
def z40.l2pack:List Leaf->Option LPack
 |[.i a,.i b,.i c,.i d,.i e,.i g,.i h,.i j,.i k,.i m,.i n]=>some (.one _ (z40.l2 e g h (k,n)) (z40.l2out0 a b c d e g h j m))
 |_=>none
def z40.C:Ctx where
 T:=tab
 draws:=λf i=>match f,i with|285,6=>([(29,[(1,0)],0),(30,[(2,0)],0),(31,[(28,1),(29,2)],3),(32,[(1,0)],0),(33,[(2,0)],0),(34,[(31,4),(32,5)],24),(7,[(30,3)],7),(8,[(33,6)],127)],16911433920)|_,_=>([],0)
 call:=Qg [(286,z39.pack)]
 keep:=λf i=>match f,i with|285,0=>([2,6,7,8,9,10,11,13,14,15,16,105,106,107,108,109,110,111,112],[],[])|285,2=>([2,6,7,8,9,10,14,15,16,17,18],[],[])|_,_=>([],[],[])
 keepR:=λf i=>match f,i with|285,0=>([6,7],[],[6,7])|285,2=>([6,7],[],[6,7])|_,_=>([],[],[])
 L:=Qv [⟨285,0,0,z40.l0sh,z40.l0pack⟩,⟨285,2,0,z40.l2sh,z40.l2pack⟩]
def z40.dec:V->Option (Int×Int)
 |(.tup [(.int .u64 x0),(.int .u64 x1)])=>some (x0,x1)
 |_=>none
theorem z40.l0_link (a b c d e g h j k:Int):Qr z40.C 6 285 0 0 0 (ifun Tryz.f285) (z40.l0at a b c d e g h j k) (z40.l0P e g j) (z40.l0out0 a b c d e g h j k):=λ_ _ _ _=>by kernel_rfl
theorem z40.l2_link (a b c d e g h j k:Int):Qr z40.C 6 285 2 0 0 (ifun Tryz.f285) (z40.l2at a b c d e g h j k) (z40.l2P e g h) (z40.l2out0 a b c d e g h j k):=λ_ _ _ _=>by kernel_rfl
theorem z40.link (a0 a1 a2:Int):z40.C.evTop 285 (ifun Tryz.f285) [(.int .u64 a0),(.int .u64 a1),(.int .u64 a2)] z40.dec=z40.F a0 a1 a2:=by kernel_rfl
def z41.l0sh:Env×Store:=((.ints false .u64 [])::(.int .u64 0) :: .undef :: .undef::(.sref 0 0)::(.int .u64 0)::(.sref 1 0)::(.int .u64 0)::(.int .i64 0)::un 25 [],[(.arr 0 true 63 (.ints false .u64 [])),(.arr 0 false 63 (.ints false .u64 []))])
def z41.l0at (a:J0) (b c:Int) (d:J0) (x:(Int×Int×J0)):Env×Store:=Qf z41.l0sh [.li a,.i b,.i c,.i x.1,.i x.2.1,.li d,.li x.2.2]
def z41.l0out0 (a:J0) (b c:Int) (d:J0) (o:Int×Int×J0):X×Env×Store:=((.exit 0),Qf z41.l0sh [.li a,.i b,.i c,.i o.1,.i o.2.1,.li d,.li o.2.2])
def z41.l0pack:List Leaf->Option LPack
 |[.li a,.i b,.i c,.i d,.i e,.li g,.li h]=>some (.one _ (z41.l0 a b (d,e,h)) (z41.l0out0 a b c g))
 |_=>none
def z41.C:Ctx where
 T:=tab
 call:=Qg [(285,z40.pack)]
 keep:=λf i=>match f,i with|208,0=>([0,1,4,5,6,7,8],[0,1],[])|_,_=>([],[],[])
 keepR:=λf i=>match f,i with|208,0=>([4,5],[0,1],[4,5])|_,_=>([],[],[])
 L:=Qv [⟨208,0,0,z41.l0sh,z41.l0pack⟩]
def z41.dec:V->Option (J0×Int)
 |(.tup [(.ints _ .u64 x0),(.int .u64 x1)])=>some (x0,x1)
 |_=>none
theorem z41.l0_link (a:J0) (b c:Int) (d:J0):Qr z41.C 6 208 0 0 2 (ifun Tryz.f208) (z41.l0at a b c d) (z41.l0P a b) (z41.l0out0 a b c d):=λ_ _ _ _=>by kernel_rfl
theorem z41.link (a0:J0) (a1:Int):z41.C.evTop 208 (ifun Tryz.f208) [(.ints false .u64 a0),(.int .u64 a1)] z41.dec=z41.F a0 a1:=by kernel_rfl
def z45.l0sh:Env×Store:=(.undef::(.int .u64 0) :: .undef :: .undef::(.sref 2 0)::(.sref 3 0)::un 6 ((.ints false .u64 [])::(.int .i64 0)::(.int .i64 0)::un 23 []),[(.arr 0 true 63 (.ints false .u64 [])),(.arr 0 true 63 (.ints false .u64 [])),(.arr 0 true 63 (.ints false .u64 [])),(.arr 0 false 63 (.ints false .u64 []))])
def z45.l0at (a:Int) (b:J0) (c:Int) (d e g:J0) (x:(Int×J0)):Env×Store:=Qf z45.l0sh [.i a,.li b,.i c,.i x.1,.li d,.li e,.li g,.li x.2]
def z45.l0out0 (a:Int) (b:J0) (c:Int) (d e g:J0) (o:Int×J0):X×Env×Store:=((.exit 0),Qf z45.l0sh [.i a,.li b,.i c,.i o.1,.li d,.li e,.li g,.li o.2])
def z45.l0pack:List Leaf->Option LPack
 |[.i a,.li b,.i c,.i d,.li e,.li g,.li h,.li j]=>some (.one _ (z45.l0 a b c (d,j)) (z45.l0out0 a b c e g h))
 |_=>none
def z45.l0ash:Env×Store:=(.undef::(.int .u64 0) :: .undef :: .undef::(.sref 4 0)::(.sref 5 0)::un 6 ((.ints false .u64 [])::(.int .i64 0)::(.int .i64 0)::un 23 []),[(.arr 0 true 63 (.ints false .u64 [])),(.arr 0 true 63 (.ints false .u64 [])),(.arr 0 true 63 (.ints false .u64 [])),(.arr 0 false 63 (.ints false .u64 [])),(.arr 0 true 63 (.ints false .u64 [])),(.arr 0 false 63 (.ints false .u64 []))])
def z45.l0aat (a:Int) (b:J0) (c:Int) (d e g h j:J0) (x:(Int×J0)):Env×Store:=Qf z45.l0ash [.i a,.li b,.i c,.i x.1,.li d,.li e,.li g,.li h,.li j,.li x.2]
def z45.l0aout0 (a:Int) (b:J0) (c:Int) (d e g h j:J0) (o:Int×J0):X×Env×Store:=((.exit 0),Qf z45.l0ash [.i a,.li b,.i c,.i o.1,.li d,.li e,.li g,.li h,.li j,.li o.2])
def z45.l0apack:List Leaf->Option LPack
 |[.i a,.li b,.i c,.i d,.li e,.li g,.li h,.li j,.li k,.li m]=>some (.one _ (z45.l0a a b c (d,m)) (z45.l0aout0 a b c e g h j k))
 |_=>none
def z45.l0b3sh:Env×Store:=((.sview 3 0 0 0)::(.sview 5 0 0 0)::(.int .u64 0)::un 3 ((.int .u64 0)::(.int .u64 0)::(.int .u64 0)::un 5 ((.sview 5 0 0 0)::(.int .i64 0)::(.int .i64 0)::un 49 [])),[(.arr 0 true 63 (.ints false .u64 [])),(.arr 0 true 63 (.ints false .u64 [])),.dead,(.arr 0 false 63 (.ints false .u64 [])),.dead,(.arr 0 false 63 (.ints false .u64 [])),(.arr 0 false 63 (.ints false .u64 []))])
def z45.l0b4t (a b c d:Nat) (e g:Int) (h j:Nat) (k:Int) (m o p q:J0) (x:(Int×Int×Int×J0)):Env×Store:=Qf z45.l0b3sh [.n a,.n b,.n c,.n d,.i e,.i g,.i x.1,.i x.2.1,.n h,.n j,.i k,.i x.2.2.1,.li m,.li o,.li x.2.2.2,.li p,.li q]
def z45.l0b3out0 (a b c d:Nat) (e g:Int) (h j:Nat) (k:Int) (m p q r:J0) (o:Int×Int×Int×J0):X×Env×Store:=((.exit 0),Qf z45.l0b3sh [.n a,.n b,.n c,.n d,.i e,.i g,.i o.1,.i o.2.1,.n h,.n j,.i k,.i o.2.2.1,.li m,.li p,.li o.2.2.2,.li q,.li r])
def z45.l0b3pack:List Leaf->Option LPack
 |[.n a,.n b,.n c,.n d,.i e,.i g,.i h,.i j,.n k,.n m,.i o,.i p,.li q,.li r,.li s,.li t,.li u]=>some (.one _ (z45.l0b3 a b e k m o t (h,j,p,s)) (z45.l0b3out0 a b c d e g k m o q r t u))
 |_=>none
def z45.l0b4sh:Env×Store:=((.sview 3 0 0 0)::(.sview 5 0 0 0) :: .undef :: .undef::(.int .u64 0) :: .undef :: .undef::(.sview 5 0 0 0)::(.int .i64 0)::(.int .i64 0)::un 26 [],[(.arr 0 true 63 (.ints false .u64 [])),(.arr 0 true 63 (.ints false .u64 [])),.dead,(.arr 0 false 63 (.ints false .u64 [])),.dead,(.arr 0 false 63 (.ints false .u64 [])),(.arr 0 false 63 (.ints false .u64 []))])
def z45.l0b5t (a b c d e g:Nat) (h:Int) (j k m o:J0) (x:(Int×Int×J0)):Env×Store:=Qf z45.l0b4sh [.n a,.n b,.n c,.n d,.i x.1,.n e,.n g,.i h,.i x.2.1,.li j,.li k,.li x.2.2,.li m,.li o]
def z45.l0b4out0 (a b c d e g:Nat) (h:Int) (j k m p:J0) (o:Int×Int×J0):X×Env×Store:=((.exit 0),Qf z45.l0b4sh [.n a,.n b,.n c,.n d,.i o.1,.n e,.n g,.i h,.i o.2.1,.li j,.li k,.li o.2.2,.li m,.li p])
def z45.l0b4pack:List Leaf->Option LPack
 |[.n a,.n b,.n c,.n d,.i e,.n g,.n h,.i j,.i k,.li m,.li o,.li p,.li q,.li r]=>some (.one _ (z45.l0b4 a b g h j q (e,k,p)) (z45.l0b4out0 a b c d g h j m o q r))
 |_=>none
def z45.l2sh:Env×Store:=((.sref 3 0)::(.sview 5 0 0 0) :: .undef :: .undef::(.sref 0 0)::(.sref 1 0)::(.int .u64 0)::(.sref 6 0)::(.int .i64 0)::(.sview 3 0 0 0)::(.int .u64 0)::(.int .u64 0)::un 75 [],[(.arr 0 true 63 (.ints false .u64 [])),(.arr 0 true 63 (.ints false .u64 [])),.dead,(.arr 0 false 63 (.ints false .u64 [])),.dead,(.arr 0 false 63 (.ints false .u64 [])),(.arr 0 false 63 (.ints false .u64 []))])
def z45.l2at (a b:Nat) (c d:Int) (e g:Nat) (h j k m:J0) (x:(Int×Int×J0)):Env×Store:=Qf z45.l2sh [.n a,.n b,.i c,.i d,.n e,.n g,.i x.1,.i x.2.1,.li h,.li j,.li x.2.2,.li k,.li m]
def z45.l2out0 (a b:Nat) (c d:Int) (e g:Nat) (h j k m:J0) (o:Int×Int×J0):X×Env×Store:=((.exit 2),Qf z45.l2sh [.n a,.n b,.i c,.i d,.n e,.n g,.i o.1,.i o.2.1,.li h,.li j,.li o.2.2,.li k,.li m])
def z45.l2pack:List Leaf->Option LPack
 |[.n a,.n b,.i c,.i d,.n e,.n g,.i h,.i j,.li k,.li m,.li o,.li p,.li q]=>some (.one _ (z45.l2 a b e g p (h,j,o)) (z45.l2out0 a b c d e g k m p q))
 |_=>none
def z45.l0aash:Env×Store:=((.sref 3 0)::(.sview 5 0 0 0) :: .undef :: .undef::(.sref 0 0)::(.sref 1 0)::(.int .u64 0)::(.sref 6 0)::(.int .i64 0)::un 78 [],[(.arr 0 true 63 (.ints false .u64 [])),(.arr 0 true 63 (.ints false .u64 [])),.dead,(.arr 0 false 63 (.ints false .u64 [])),.dead,(.arr 0 false 63 (.ints false .u64 [])),(.arr 0 false 63 (.ints false .u64 []))])
def z45.l0b3t (a b:Nat) (c:Int) (d e g:J0) (x:(Int×J0×J0)):Env×Store:=Qf z45.l0aash [.n a,.n b,.i c,.i x.1,.li d,.li e,.li x.2.1,.li g,.li x.2.2]
def z45.l0aaout0 (a b:Nat) (c:Int) (d e g:J0) (o:Int×J0×J0):X×Env×Store:=((.exit 0),Qf z45.l0aash [.n a,.n b,.i c,.i o.1,.li d,.li e,.li o.2.1,.li g,.li o.2.2])
def z45.l0aapack:List Leaf->Option LPack
 |[.n a,.n b,.i c,.i d,.li e,.li g,.li h,.li j,.li k]=>some (.one _ (z45.l0aa a b j (d,h,k)) (z45.l0aaout0 a b c e g j))
 |_=>none
def z45.C:Ctx where
 T:=tab
 draws:=λf i=>match f,i with|209,2=>([(23,[(0,10)],0),(24,[(6,0)],0),(25,[(22,1),(23,2)],3),(26,[(1,11)],0),(27,[(6,0)],0),(28,[(25,4),(26,5)],31),(29,[(1,11)],0),(30,[(28,7)],64),(31,[(27,6),(29,8)],255),(1,[(24,3)],63),(2,[(30,9)],1023)],2143289347)|288,2=>([(18,[(0,0)],0),(19,[(5,0)],0),(20,[(17,1),(18,2)],3),(21,[(19,3)],7),(22,[(0,0)],0),(23,[(5,0)],0),(24,[(22,6)],32),(25,[(21,5),(23,7)],112),(26,[(24,8)],240),(27,[(0,0)],0),(28,[(5,0)],0),(29,[(27,11)],1024),(30,[(26,10),(28,12)],3584),(31,[(29,13)],7680),(7,[(20,4)],15),(8,[(25,9)],16895),(9,[(30,14)],65535)],2147353024)|_,_=>([],0)
 call:=Qg [(286,z39.pack),(297,z44.pack),(138,z0.pack),(141,z1.pack),(285,z40.pack),(33,z27.pack),(291,z43.pack),(143,z37.pack)]
 inl:=inlL [(287,Tryz.f287),(288,Tryz.f288),(289,Tryz.f289),(290,Tryz.f290)]
 keep:=λf i=>match f,i with|287,0=>([1,4,5,12,13,14],List.range 64,[])|289,0=>([0,1,2,6,7,8,14,15,16],List.range 64,[])|290,0=>([0,1,4,7,8,9],List.range 64,[])|209,2=>([0,1,4,5,6,7,8,9,10,11],[0,1,3,5,6],[])|209,0=>([0,1,4,5,6,7,8],[0,1,3,5,6],[])|_,_=>([],[],[])
 keepR:=λf i=>match f,i with|287,0=>([4],List.range 64,[])|289,0=>([6],List.range 64,[])|290,0=>([],List.range 64,[])|209,2=>([4,5],[0,1,3,5,6],[4,5])|209,0=>([4,5],[0,1,3,5,6],[4,5])|_,_=>([],[],[])
 unroll:=λf i=>match f,i with|288,1000000=>2|_,_=>0
 L:=Qv [⟨287,0,2,z45.l0sh,z45.l0pack⟩,⟨287,0,4,z45.l0ash,z45.l0apack⟩,⟨289,0,7,z45.l0b3sh,z45.l0b3pack⟩,⟨290,0,7,z45.l0b4sh,z45.l0b4pack⟩,⟨209,2,0,z45.l2sh,z45.l2pack⟩,⟨209,0,0,z45.l0aash,z45.l0aapack⟩]
def z45.dec:V->Option (J0×J0)
 |(.tup [(.ints _ .u64 x0),(.ints _ .u64 x1)])=>some (x0,x1)
 |_=>none
theorem z45.l0_link (a:Int) (b:J0) (c:Int) (d e g:J0):Qr z45.C 0 287 0 2 4 (ifun Tryz.f287) (z45.l0at a b c d e g) (z45.l0P a b c) (z45.l0out0 a b c d e g):=λ_ _ _ _=>by kernel_rfl
theorem z45.l0a_link (a:Int) (b:J0) (c:Int) (d e g h j:J0):Qr z45.C 0 287 0 4 6 (ifun Tryz.f287) (z45.l0aat a b c d e g h j) (z45.l0aP a b c) (z45.l0aout0 a b c d e g h j):=λ_ _ _ _=>by kernel_rfl
theorem z45.l0b3_link (a b c d:Nat) (e g:Int) (h j:Nat) (k:Int) (m n o p:J0):Qr z45.C 0 289 0 7 7 (ifun Tryz.f289) (z45.l0b4t a b c d e g h j k m n o p) (z45.l0b3P a b e h j k o) (z45.l0b3out0 a b c d e g h j k m n o p):=λ_ _ _ _=>by kernel_rfl
theorem z45.l0b4_link (a b c d e g:Nat) (h:Int) (j k m n:J0):Qr z45.C 0 290 0 7 7 (ifun Tryz.f290) (z45.l0b5t a b c d e g h j k m n) (z45.l0b4P a b e g h m) (z45.l0b4out0 a b c d e g h j k m n):=λ_ _ _ _=>by kernel_rfl
theorem z45.l2_link (a b:Nat) (c d:Int) (e g:Nat) (h j k m:J0):Qr z45.C 6 209 2 0 7 (ifun Tryz.f209) (z45.l2at a b c d e g h j k m) (z45.l2P a b e g k) (z45.l2out0 a b c d e g h j k m):=λ_ _ _ _=>by kernel_rfl
theorem z45.l0aa_link (a b:Nat) (c:Int) (d e g:J0):Qr z45.C 6 209 0 0 7 (ifun Tryz.f209) (z45.l0b3t a b c d e g) (z45.l0aaP a b g) (z45.l0aaout0 a b c d e g):=λ_ _ _ _=>by kernel_rfl
theorem z45.link (a0 a1:J0):z45.C.evTop 209 (ifun Tryz.f209) [(.ints false .u64 a0),(.ints false .u64 a1)] z45.dec=z45.F a0 a1:=by kernel_rfl
def z47.l0sh:Env×Store:=(.undef :: .undef::(.ptr 0 0)::(.ptr 1 0)::(.ptr 2 0)::un 16 [],[(.cells 37 [(.ints false .u64 [])]),(.cells 37 [(.ints false .u64 [])]),(.cells 37 [(.ints false .u64 [])])])
def z47.l0at (a:J0) (x:(J0×J0)):Env×Store:=Qf z47.l0sh [.li x.1,.li x.2,.li a]
def z47.l0out0 (a:J0) (o:J0×J0):X×Env×Store:=((.exit 0),Qf z47.l0sh [.li o.1,.li o.2,.li a])
def z47.l0pack:List Leaf->Option LPack
 |[.li a,.li b,.li c]=>some (.one _ (z47.l0 (a,b)) (z47.l0out0 c))
 |_=>none
def z47.C:Ctx where
 T:=tab
 draws:=λf i=>match f,i with|306,3=>([(19,[(3,0)],0),(20,[(6,0)],0),(0,[(2,0),(18,1)],1),(0,[(3,0),(19,2)],7)],786432)|_,_=>([],0)
 call:=Qg [(75,z23.pack),(142,z46.pack)]
 keep:=λf i=>match f,i with|306,0=>([2,3,4],[0,1,2],[])|_,_=>([],[],[])
 keepR:=λf i=>match f,i with|306,0=>([4],[0,1,2],[4])|_,_=>([],[],[])
 L:=Qv [⟨306,0,0,z47.l0sh,z47.l0pack⟩]
theorem z47.l0_link (a:J0):Qr z47.C 6 306 0 0 3 (ifun Tryz.f306) (z47.l0at a) (z47.l0P ) (z47.l0out0 a):=λ_ _ _ _=>by kernel_rfl
theorem z47.link (a0 a1:J0):z47.C.evTop 306 (ifun Tryz.f306) [(.agg [(.ints false .u64 a0)]),(.agg [(.ints false .u64 a1)])] z50.dec=z47.F a0 a1:=by kernel_rfl
def z48.C:Ctx where
 T:=tab
 draws:=λf i=>match f,i with|243,1=>([(15,[(2,0)],0),(16,[(14,1)],1),(17,[(3,0)],0),(18,[(15,2),(16,3)],7),(6,[],0),(0,[(5,5),(17,4)],31)],245792)|243,2=>([(20,[(2,0)],0),(21,[(19,1)],1),(22,[(5,0)],0),(23,[(20,2),(21,3)],7),(19,[(22,4)],15),(24,[(18,5)],31),(25,[(18,5)],31),(26,[(18,5)],31),(7,[],0),(8,[],0),(0,[(6,9),(23,6)],831),(0,[(7,10),(24,7)],1919),(9,[(25,8)],4095)],66847168)|243,4=>([(35,[(9,0)],0),(36,[],0),(37,[(35,2)],2),(38,[(34,1),(36,3)],7),(34,[(37,4)],15),(39,[(33,5)],31),(40,[(33,5)],31),(13,[],0),(0,[(12,8),(38,6)],191),(14,[(39,7)],511)],1090921705472)|243,5=>([(41,[(6,0)],0),(42,[(2,0)],0),(43,[(41,2)],2),(44,[(42,3)],6),(45,[(40,1),(43,4)],15),(46,[(12,0)],0),(47,[(44,5),(45,6)],63),(0,[(4,0),(46,7)],127)],139637976727552)|_,_=>([],0)
 call:=Qg [(237,z31.pack),(306,z47.pack),(142,z46.pack),(33,z27.pack),(69,z36.pack),(16,z24.pack),(32,z25.pack)]
theorem z48.link (a0:J0) (a1:Bool) (a2:J0):z48.C.evTop 243 (ifun Tryz.f243) [(.agg [(.ints false .u64 a0),(.bool a1)]),(.agg [(.ints false .u64 a2)])] z74.dec=z48.F a0 a1 a2:=by kernel_rfl
def z57.C:Ctx where
 T:=tab
 call:=Qg [(124,z56.pack)]
theorem z57.link (a0 a1:J1):z57.C.evTop 159 (ifun Tryz.f159) [(.str a0),(.str a1)] z58.dec=z57.F a0 a1:=by kernel_rfl
def z59.l2sh:Env×Store:=((.str ([]:J1)) :: .undef::(.ptr 0 0)::(.int .i64 0)::(.ptr 1 0) :: .undef::(.int .i64 0)::(.int .u64 0)::un 39 ((.ptr 2 0)::un 21 []),[(.cells 37 [(.ints false .u64 [])]),(.cells 37 [(.ints false .u64 [])]),(.siter ([]:J1) 0)])
def z59.l2at (a:J1) (b c:Int) (d e:J0) (g:J1) (x:(Int×Nat)):Env×Store:=Qf z59.l2sh [.s a,.i b,.i c,.i x.1,.li d,.li e,.s g,.n x.2]
def z59.l2out0 (a:J1) (b c:Int) (d e:J0) (g:J1) (o:Int×Nat):X×Env×Store:=((.exit 2),Qf z59.l2sh [.s a,.i b,.i c,.i o.1,.li d,.li e,.s g,.n o.2])
def z59.l2pack:List Leaf->Option LPack
 |[.s a,.i b,.i c,.i d,.li e,.li g,.s h,.n j]=>some (.one _ (z59.l2 h (d,j)) (z59.l2out0 a b c e g h))
 |_=>none
def z59.l2ash:Env×Store:=((.str ([]:J1)) :: .undef::(.ptr 0 0)::(.int .i64 0)::(.ptr 1 0) :: .undef::(.int .i64 0)::(.int .u64 0)::un 33 ((.int .i64 0)::(.bool false)::un 4 ((.ptr 2 0)::un 21 [])),[(.cells 37 [(.ints false .u64 [])]),(.cells 37 [(.ints false .u64 [])]),(.siter ([]:J1) 0)])
def z59.l2aat (a:J1) (c d e:Int) (g:Bool) (h j:J0) (k:J1) (x:(Int×Nat)):Env×Store:=Qf z59.l2ash [.s a,.i c,.i d,.i x.1,.i e,.b g,.li h,.li j,.s k,.n x.2]
def z59.l2aout0 (a:J1) (c d e:Int) (g:Bool) (h j:J0) (k:J1) (o:Int×Nat):X×Env×Store:=((.exit 2),Qf z59.l2ash [.s a,.i c,.i d,.i o.1,.i e,.b g,.li h,.li j,.s k,.n o.2])
def z59.l2apack:List Leaf->Option LPack
 |[.s a,.i c,.i d,.i e,.i g,.b h,.li j,.li k,.s m,.n o]=>some (.one _ (z59.l2a m (e,o)) (z59.l2aout0 a c d g h j k m))
 |_=>none
def z59.l0sh:Env×Store:=((.str ([]:J1)) :: .undef::(.ptr 0 0)::(.int .i64 0)::(.ptr 1 0)::(.bool false)::un 63 [],[(.cells 37 [(.ints false .u64 [])]),(.cells 37 [(.ints false .u64 [])])])
def z59.l0at (a:Int) (c:J0) (x:(J1×Bool×J0)):Env×Store:=Qf z59.l0sh [.s x.1,.i a,.b x.2.1,.li c,.li x.2.2]
def z59.l0out0 (a:Int) (c:J0) (o:J1×Bool×J0):X×Env×Store:=((.exit 0),Qf z59.l0sh [.s o.1,.i a,.b o.2.1,.li c,.li o.2.2])
def z59.l0pack:List Leaf->Option LPack
 |[.s a,.i c,.b d,.li e,.li g]=>some (.one _ (z59.l0 (a,d,g)) (z59.l0out0 c e))
 |_=>none
def z59.C:Ctx where
 T:=tab
 draws:=λf i=>match f,i with|93,17=>([(58,[(4,0)],0),(59,[],0),(60,[(58,2)],2),(61,[(57,1),(59,3)],7),(62,[(7,0)],0),(63,[(61,5)],16),(64,[(62,6)],63),(65,[(60,4),(63,7)],127),(0,[(4,0),(64,8)],255)],36749372959343247360)|_,_=>([],0)
 call:=Qg [(160,z3.pack),(33,z27.pack),(161,z50.pack),(68,z52.pack)]
 keep:=λf i=>match f,i with|93,2=>([0,2,3,4,6,7,41,42,47],[0,1,2],[])|93,0=>([0,2,3,4,5],[0,1],[])|_,_=>([],[],[])
 keepR:=λf i=>match f,i with|93,2=>([2,3],[0,1,2],[2,3])|93,0=>([2,3],[0,1],[2,3])|_,_=>([],[],[])
 L:=Qv [⟨93,2,0,z59.l2sh,z59.l2pack⟩,⟨93,2,0,z59.l2ash,z59.l2apack⟩,⟨93,0,0,z59.l0sh,z59.l0pack⟩]
theorem z59.l2_link (a:J1) (b c:Int) (d e:J0) (g:J1):Qr z59.C 6 93 2 0 3 (ifun Tryz.f93) (z59.l2at a b c d e g) (z59.l2P g) (z59.l2out0 a b c d e g):=λ_ _ _ _=>by kernel_rfl
theorem z59.l2a_link (a:J1) (b c d:Int) (e:Bool) (g h:J0) (j:J1):Qr z59.C 6 93 2 0 3 (ifun Tryz.f93) (z59.l2aat a b c d e g h j) (z59.l2aP j) (z59.l2aout0 a b c d e g h j):=λ_ _ _ _=>by kernel_rfl
theorem z59.l0_link (a:Int) (b:J0):Qr z59.C 6 93 0 0 2 (ifun Tryz.f93) (z59.l0at a b) (z59.l0P ) (z59.l0out0 a b):=λ_ _ _ _=>by kernel_rfl
theorem z59.link (a0:J1):z59.C.evTop 93 (ifun Tryz.f93) [(.str a0)] z91.dec=z59.F a0:=by kernel_rfl
def z64.C:Ctx where
 T:=tab
theorem z64.link (a0:J0) (a1:Bool) (a2:Int):z64.C.evTop 252 (ifun Tryz.f252) [(.agg [(.ints false .u64 a0),(.bool a1),(.int .i64 a2)])] z30.dec=z64.F a0 a1 a2:=by kernel_rfl
def z68.l0sh:Env×Store:=(.undef::(.int .i64 0)::(.ptr 0 0) :: .undef::(.ptr 1 0)::(.ptr 2 0)::un 18 [],[(.cells 37 [(.ints false .u64 [])]),(.cells 37 [(.ints false .u64 [])]),(.cells 37 [(.ints false .u64 [])])])
def z68.l0at (a:J0) (x:(Int×J0×J0)):Env×Store:=Qf z68.l0sh [.i x.1,.li x.2.1,.li a,.li x.2.2]
def z68.l0out0 (a:J0) (o:Int×J0×J0):X×Env×Store:=((.exit 0),Qf z68.l0sh [.i o.1,.li o.2.1,.li a,.li o.2.2])
def z68.l0pack:List Leaf->Option LPack
 |[.i a,.li b,.li c,.li d]=>some (.one _ (z68.l0 (a,b,d)) (z68.l0out0 c))
 |_=>none
def z68.C:Ctx where
 T:=tab
 call:=Qg [(33,z27.pack),(161,z50.pack)]
 keep:=λf i=>match f,i with|293,0=>([1,2,4,5],[0,1,2],[])|_,_=>([],[],[])
 keepR:=λf i=>match f,i with|293,0=>([4],[0,1,2],[4])|_,_=>([],[],[])
 L:=Qv [⟨293,0,0,z68.l0sh,z68.l0pack⟩]
theorem z68.l0_link (a:J0):Qr z68.C 6 293 0 0 3 (ifun Tryz.f293) (z68.l0at a) (z68.l0P ) (z68.l0out0 a):=λ_ _ _ _=>by kernel_rfl
theorem z68.link (a0:J0) (a1:Int):z68.C.evTop 293 (ifun Tryz.f293) [(.agg [(.ints false .u64 a0)]),(.int .i64 a1)] z50.dec=z68.F a0 a1:=by kernel_rfl
def z69.C:Ctx where
 T:=tab
 call:=Qg [(33,z27.pack),(293,z68.pack)]
theorem z69.link (a0:Int):z69.C.evTop 213 (ifun Tryz.f213) [(.int .i64 a0)] z91.dec=z69.F a0:=by kernel_rfl
def z71.C:Ctx where
 T:=tab
 draws:=λf i=>match f,i with|312,1=>([(6,[(2,0)],0),(7,[(5,1)],1),(8,[(1,0)],0),(9,[(2,0)],0),(10,[(8,4)],8),(11,[(7,3),(9,5)],28),(12,[(10,6)],60),(13,[(6,2),(11,7)],127),(0,[(4,0),(12,8)],255)],8160)|_,_=>([],0)
 call:=Qg [(313,z70.pack),(239,z51.pack)]
theorem z71.link (a0:J0) (a1:Bool) (a2 a3:Int):z71.C.evTop 312 (ifun Tryz.f312) [(.agg [(.ints false .u64 a0),(.bool a1),(.int .i64 a2)]),(.int .i64 a3)] z30.dec=z71.F a0 a1 a2 a3:=by kernel_rfl
def z76.C:Ctx where
 T:=tab
 call:=Qg [(92,z58.pack),(93,z59.pack),(75,z23.pack),(32,z25.pack)]
theorem z76.link (a0:J1):z76.C.evTop 27 (ifun Tryz.f27) [(.str a0)] z78.dec=z76.F a0:=by kernel_rfl
def z81.C:Ctx where
 T:=tab
 call:=Qg [(181,z22.pack),(148,z18.pack),(212,z80.pack)]
theorem z81.link (a0 a1 a2 a3:Int) (a4:J1) (a5 a6 a7:Int):z81.C.evTop 154 (ifun Tryz.f154) [(.agg [(.int .i64 a0),(.int .i64 a1),(.int .i64 a2),(.int .i64 a3),(.str a4)]),(.agg [(.int .i64 a5),(.int .i64 a6),(.int .i64 a7)])] z16.dec=z81.F a0 a1 a2 a3 a4 a5 a6 a7:=by kernel_rfl
def z82.l0sh:Env×Store:=(.undef :: .undef::(.int .i64 0)::(.int .i64 0)::(.ptr 0 0)::un 6 ((.recs false 5 [])::(.int .i64 0)::(.int .i64 0)::un 14 []),[(.cells 41 [(.int .i64 0),(.int .i64 0),(.int .i64 0)])])
def z82.l0so1:Env×Store:=(.undef :: .undef::(.int .i64 0)::(.int .i64 0)::un 24 [],[(.cells 41 [(.int .i64 0),(.int .i64 0),(.int .i64 0)])])
def z82.l0at (a b:Int) (c:J2) (d:Int) (x:(Int×Int×Int×Int)):Env×Store:=Qf z82.l0sh [.i a,.i b,.lr c,.i d,.i x.1,.i x.2.1,.i x.2.2.1,.i x.2.2.2]
def z82.l0out0 (a b:Int) (c:J2) (d:Int) (o:Int×Int×Int×Int):X×Env×Store:=((.exit 0),Qf z82.l0sh [.i a,.i b,.lr c,.i d,.i o.1,.i o.2.1,.i o.2.2.1,.i o.2.2.2])
def z82.l0out1 (o:Int×Int×Int×Int×Int):X×Env×Store:=(.ret,Qf z82.l0so1 [.i o.1,.i o.2.1,.i o.2.2.1,.i o.2.2.2.1,.i o.2.2.2.2])
def z82.l0pack:List Leaf->Option LPack
 |[.i a,.i b,.lr c,.i d,.i e,.i g,.i h,.i j]=>some (.two _ _ (z82.l0 c d (e,g,h,j)) (z82.l0out0 a b c d) (z82.l0out1 ))
 |_=>none
def z82.C:Ctx where
 T:=tab
 call:=Qg [(154,z81.pack)]
 keep:=λf i=>match f,i with|87,0=>([2,3,4,11,12,13],[0],[])|_,_=>([],[],[])
 keepR:=λf i=>match f,i with|87,0=>([2,3],[0],[2,3])|_,_=>([],[],[])
 L:=Qv [⟨87,0,0,z82.l0sh,z82.l0pack⟩]
theorem z82.l0_link (a b:Int) (c:J2) (d:Int):Yo z82.C 6 87 0 0 1 (ifun Tryz.f87) (z82.l0at a b c d) (z82.l0P c d) (z82.l0out0 a b c d) (z82.l0out1 ):=λ_ _ _ _=>by kernel_rfl
theorem z82.link (a0:J2):z82.C.evTop 87 (ifun Tryz.f87) [(.recs false 5 a0)] z112.dec=z82.F a0:=by kernel_rfl
def z86.C:Ctx where
 T:=tab
 draws:=λf i=>match f,i with|200,1=>([(6,[(2,0)],0),(7,[(5,1)],1),(8,[(3,0)],0),(9,[(7,3)],4),(10,[(6,2),(8,4)],15),(11,[(2,0)],0),(12,[(10,6)],63),(13,[(3,0)],0),(14,[(12,8)],255),(15,[(11,7),(13,9)],511),(16,[(9,5),(14,10)],1023),(0,[(4,0),(15,11)],2047)],65504)|_,_=>([],0)
 call:=Qg [(239,z51.pack),(235,z53.pack),(161,z50.pack),(243,z48.pack)]
theorem z86.link (a0:J0) (a1:Bool) (a2 a3:J0) (a4:Bool) (a5:J0):z86.C.evTop 200 (ifun Tryz.f200) [(.agg [(.ints false .u64 a0),(.bool a1),(.ints false .u64 a2)]),(.agg [(.ints false .u64 a3),(.bool a4),(.ints false .u64 a5)])] z74.dec=z86.F a0 a1 a2 a3 a4 a5:=by kernel_rfl
def z87.C:Ctx where
 T:=tab
 call:=Qg [(184,z75.pack),(37,z28.pack),(174,z49.pack),(200,z86.pack)]
theorem z87.link (a0:J1) (a1:Int):z87.C.evTop 170 (ifun Tryz.f170) [(.str a0),(.int .i64 a1)] z55.dec=z87.F a0 a1:=by kernel_rfl
def z107.C:Ctx where
 T:=tab
 call:=Qg [(320,z106.pack)]
theorem z107.link (a0:Int):z107.C.evTop 326 (ifun Tryz.f326) [(.int .i64 a0)] z23.dec=z107.F a0:=by kernel_rfl
def z108.C:Ctx where
 T:=tab
 call:=Qg [(37,z28.pack),(174,z49.pack)]
theorem z108.link (a0 a1:Int):z108.C.evTop 280 (ifun Tryz.f280) [(.int .i64 a0),(.int .i64 a1)] z74.dec=z108.F a0 a1:=by kernel_rfl
def z118.C:Ctx where
 T:=tab
 call:=Qg [(148,z18.pack)]
theorem z118.link (a0 a1 a2 a3 a4 a5:Int):z118.C.evTop 336 (ifun Tryz.f336) [(.agg [(.int .i64 a0),(.int .i64 a1),(.int .i64 a2)]),(.agg [(.int .i64 a3),(.int .i64 a4),(.int .i64 a5)])] z14.dec=z118.F a0 a1 a2 a3 a4 a5:=by kernel_rfl
def z131.C:Ctx where
 T:=tab
 call:=Qg [(198,z129.pack),(211,z130.pack)]
def z131.dec:V->Option (J2×Int)
 |(.tup [(.recs _ 3 x0),(.int .i64 x1)])=>some (x0,x1)
 |_=>none
theorem z131.link (a0 a1:J1) (a2 a3 a4 a5 a6 a7 a8 a9:Int):z131.C.evTop 153 (ifun Tryz.f153) [(.agg [(.str a0),(.str a1),(.int .i64 a2),(.int .i64 a3),(.int .i64 a4),(.int .i64 a5),(.int .i64 a6),(.int .i64 a7),(.int .i64 a8),(.int .i64 a9)])] z131.dec=z131.F a0 a1 a2 a3 a4 a5 a6 a7 a8 a9:=by kernel_rfl
def z132.l0sh:Env×Store:=(.undef :: .undef::(.sref 1 0)::(.int .i64 0) :: .undef :: .undef::(.sref 2 0)::(.ptr 3 0)::un 12 ((.recs false 3 [])::(.int .i64 0)::(.int .i64 0)::un 12 []),[.dead,(.arr 0 true 175 (.recs false 6 [])),(.arr 0 true 175 (.recs false 6 [])),(.cells 41 [(.int .i64 0),(.int .i64 0),(.int .i64 0)])])
def z132.l0at (a:Int) (b:J2) (c:Int) (d:J2) (x:(Int×J2×Int×Int×Int)):Env×Store:=Qf z132.l0sh [.i a,.lr b,.i c,.i x.1,.lr d,.lr x.2.1,.i x.2.2.1,.i x.2.2.2.1,.i x.2.2.2.2]
def z132.l0out0 (a:Int) (b:J2) (c:Int) (d:J2) (o:Int×J2×Int×Int×Int):X×Env×Store:=((.exit 0),Qf z132.l0sh [.i a,.lr b,.i c,.i o.1,.lr d,.lr o.2.1,.i o.2.2.1,.i o.2.2.2.1,.i o.2.2.2.2])
def z132.l0pack:List Leaf->Option LPack
 |[.i a,.lr b,.i c,.i d,.lr e,.lr g,.i h,.i j,.i k]=>some (.one _ (z132.l0 b c (d,g,h,j,k)) (z132.l0out0 a b c e))
 |_=>none
def z132.C:Ctx where
 T:=tab
 call:=Qg [(153,z131.pack)]
 keep:=λf i=>match f,i with|86,0=>([2,3,6,7,20,21,22],[1,2,3],[])|_,_=>([],[],[])
 keepR:=λf i=>match f,i with|86,0=>([2,3],[1,2,3],[2,3])|_,_=>([],[],[])
 L:=Qv [⟨86,0,0,z132.l0sh,z132.l0pack⟩]
def z132.dec:V->Option (J2×Int)
 |(.tup [(.recs _ 6 x0),(.int .i64 x1)])=>some (x0,x1)
 |_=>none
theorem z132.l0_link (a:Int) (b:J2) (c:Int) (d:J2):Qr z132.C 6 86 0 0 4 (ifun Tryz.f86) (z132.l0at a b c d) (z132.l0P b c) (z132.l0out0 a b c d):=λ_ _ _ _=>by kernel_rfl
theorem z132.link (a0 a1:J1) (a2 a3 a4 a5 a6 a7 a8 a9:Int):z132.C.evTop 86 (ifun Tryz.f86) [(.agg [(.str a0),(.str a1),(.int .i64 a2),(.int .i64 a3),(.int .i64 a4),(.int .i64 a5),(.int .i64 a6),(.int .i64 a7),(.int .i64 a8),(.int .i64 a9)])] z132.dec=z132.F a0 a1 a2 a3 a4 a5 a6 a7 a8 a9:=by kernel_rfl
def z140.C:Ctx where
 T:=tab
 call:=Qg [(112,z139.pack),(35,z10.pack)]
theorem z140.link (a0:J0) (a1:Bool) (a2:J0) (a3:Bool):z140.C.evTop 103 (ifun Tryz.f103) [(.agg [(.ints false .i64 a0),(.bool a1)]),(.agg [(.ints false .i64 a2),(.bool a3)])] z12.dec=z140.F a0 a1 a2 a3:=by kernel_rfl
def z143.C:Ctx where
 T:=tab
theorem z143.link (a0 a1 a2 a3:Int) (a4:J1):z143.C.evTop 85 (ifun Tryz.f85) [(.agg [(.int .i64 a0),(.int .i64 a1),(.int .i64 a2),(.int .i64 a3),(.str a4)])] z23.dec=z143.F a0 a1 a2 a3 a4:=by kernel_rfl
end
noncomputable section
def z10.C:Ctx where
 T:=tab
theorem z10.link (a0:J0) (a1:Bool):z10.C.evTop 35 (ifun Tryz.f35) [(.ints false .i64 a0),(.bool a1)] z12.dec=z10.F a0 a1:=by kernel_rfl
def z11.l0sh:Env×Store:=((.int .i64 0) :: .undef::(.sref 0 0)::(.sref 1 0)::un 10 [],[(.arr 0 true 3 (.ints false .i64 [])),(.arr 0 true 3 (.ints false .i64 []))])
def z11.l0at (a:J0) (x:(Int×J0)):Env×Store:=Qf z11.l0sh [.i x.1,.li a,.li x.2]
def z11.l0out0 (a:J0) (o:Int×J0):X×Env×Store:=((.exit 0),Qf z11.l0sh [.i o.1,.li a,.li o.2])
def z11.l0pack:List Leaf->Option LPack
 |[.i a,.li b,.li c]=>some (.one _ (z11.l0 (a,c)) (z11.l0out0 b))
 |_=>none
def z11.C:Ctx where
 T:=tab
 keep:=λf i=>match f,i with|111,0=>([0,2,3],[0,1],[])|_,_=>([],[],[])
 keepR:=λf i=>match f,i with|111,0=>([2],[0,1],[2])|_,_=>([],[],[])
 L:=Qv [⟨111,0,0,z11.l0sh,z11.l0pack⟩]
theorem z11.l0_link (a:J0):Qr z11.C 6 111 0 0 2 (ifun Tryz.f111) (z11.l0at a) (z11.l0P ) (z11.l0out0 a):=λ_ _ _ _=>by kernel_rfl
theorem z11.link (a0:Int):z11.C.evTop 111 (ifun Tryz.f111) [(.int .i64 a0)] z138.dec=z11.F a0:=by kernel_rfl
def z20.C:Ctx where
 T:=tab
 call:=Qg [(248,z19.pack)]
theorem z20.link (a0:Int):z20.C.evTop 249 (ifun Tryz.f249) [(.int .i64 a0)] z23.dec=z20.F a0:=by kernel_rfl
def z25.C:Ctx where
 T:=tab
 draws:=λf i=>match f,i with|32,1=>([(6,[(2,0)],0),(7,[(1,0)],0),(8,[(6,2)],2),(9,[(2,0),(7,3)],6),(10,[(8,4),(7,3)],14),(11,[(9,5),(7,3)],30),(12,[(7,3),(10,6)],62),(13,[(5,1),(11,7)],127),(0,[(4,0),(12,8)],255)],8160)|_,_=>([],0)
 call:=Qg [(75,z23.pack)]
theorem z25.link (a0:J0) (a1:Bool):z25.C.evTop 32 (ifun Tryz.f32) [(.agg [(.ints false .u64 a0)]),(.bool a1)] z30.dec=z25.F a0 a1:=by kernel_rfl
def z28.C:Ctx where
 T:=tab
 call:=Qg [(33,z27.pack),(32,z25.pack)]
theorem z28.link (a0:Int):z28.C.evTop 37 (ifun Tryz.f37) [(.int .i64 a0)] z30.dec=z28.F a0:=by kernel_rfl
def z29.C:Ctx where
 T:=tab
theorem z29.link (a0:J0) (a1:Bool):z29.C.evTop 172 (ifun Tryz.f172) [(.agg [(.ints false .u64 a0),(.bool a1)])] z74.dec=z29.F a0 a1:=by kernel_rfl
def z35.l0sh:Env×Store:=(.undef :: .undef::(.ptr 0 0)::(.ptr 1 0)::(.int .i64 0) :: .undef::(.int .i64 0)::un 33 [],[(.cells 37 [(.ints false .u64 [])]),(.cells 37 [(.ints false .u64 [])])])
def z35.l0so1:Env×Store:=(un 4 ((.int .i64 0)::un 35 []),[(.cells 37 [(.ints false .u64 [])]),(.cells 37 [(.ints false .u64 [])])])
def z35.l0at (a:Int) (b c:J0) (x:Int):Env×Store:=Qf z35.l0sh [.i a,.i x,.li b,.li c]
def z35.l0out0 (a:Int) (b c:J0) (o:Int):X×Env×Store:=((.exit 0),Qf z35.l0sh [.i a,.i o,.li b,.li c])
def z35.l0out1 (a b:J0) (o:Int):X×Env×Store:=(.ret,Qf z35.l0so1 [.i o,.li a,.li b])
def z35.l0pack:List Leaf->Option LPack
 |[.i a,.i b,.li c,.li d]=>some (.two _ _ (z35.l0 c d b) (z35.l0out0 a c d) (z35.l0out1 c d))
 |_=>none
def z35.C:Ctx where
 T:=tab
 draws:=λf i=>match f,i with|140,7=>([(27,[(2,0)],0),(28,[(26,1)],1),(29,[(6,0)],0),(30,[(27,2),(28,3)],7),(31,[(29,4)],15),(32,[(3,0)],0),(33,[(31,6)],32),(34,[(6,0)],0),(35,[(32,7),(33,8)],224),(36,[(34,9)],480),(37,[(30,5),(35,10)],1023),(8,[(36,11)],2047)],137371844736)|_,_=>([],0)
 call:=Qg [(206,z16.pack),(207,z34.pack)]
 keep:=λf i=>match f,i with|140,0=>([2,3,4,6],[0,1],[])|_,_=>([],[],[])
 keepR:=λf i=>match f,i with|140,0=>([4],[0,1],[4])|_,_=>([],[],[])
 L:=Qv [⟨140,0,0,z35.l0sh,z35.l0pack⟩]
theorem z35.l0_link (a:Int) (b c:J0):Yo z35.C 6 140 0 0 2 (ifun Tryz.f140) (z35.l0at a b c) (z35.l0P b c) (z35.l0out0 a b c) (z35.l0out1 b c):=λ_ _ _ _=>by kernel_rfl
theorem z35.link (a0 a1:J0):z35.C.evTop 140 (ifun Tryz.f140) [(.agg [(.ints false .u64 a0)]),(.agg [(.ints false .u64 a1)])] z16.dec=z35.F a0 a1:=by kernel_rfl
def z38.C:Ctx where
 T:=tab
theorem z38.link (a0:Int):z38.C.evTop 324 (ifun Tryz.f324) [(.int .u64 a0)] z16.dec=z38.F a0:=by kernel_rfl
def z43.l0sh:Env×Store:=(un 4 ((.ptr 1 0)::(.int .i64 0)::(.sview 4 0 0 0)::(.int .u64 0)::un 17 ((.int .i64 0)::(.int .i64 0)::un 31 [])),[.dead,(.cells 37 [(.ints false .u64 [])]),.dead,.dead,(.arr 0 true 63 (.ints false .u64 []))])
def z43.l0at (a:Int) (b c:Nat) (d e:Int) (g:J0) (x:(Int×J0)):Env×Store:=Qf z43.l0sh [.i a,.n b,.n c,.i d,.i e,.i x.1,.li g,.li x.2]
def z43.l0out0 (a:Int) (b c:Nat) (d e:Int) (g:J0) (o:Int×J0):X×Env×Store:=((.exit 0),Qf z43.l0sh [.i a,.n b,.n c,.i d,.i e,.i o.1,.li g,.li o.2])
def z43.l0pack:List Leaf->Option LPack
 |[.i a,.n b,.n c,.i d,.i e,.i g,.li h,.li j]=>some (.one _ (z43.l0 b c d e (g,j)) (z43.l0out0 a b c d e h))
 |_=>none
def z43.C:Ctx where
 T:=tab
 draws:=λf i=>match f,i with|291,11=>([(42,[(6,0)],0),(43,[(8,0)],0),(44,[(41,1),(42,2)],3),(45,[(43,3)],7),(46,[(6,0)],0),(47,[(8,0)],0),(48,[(46,6)],32),(49,[(45,5),(47,7)],112),(50,[(48,8)],240),(51,[(7,0)],0),(52,[(50,10)],512),(53,[(49,9),(51,11)],2032),(54,[(44,4),(52,12)],4095),(55,[(41,1),(42,2)],8191),(0,[(54,14),(53,13)],16383)],36026597995708416)|_,_=>([],0)
 call:=Qg [(325,z42.pack),(33,z27.pack)]
 inl:=inlL [(143,Tryz.f143)]
 rank:=λg=>match g with|143=>1|_=>0
 prim:=W9 [(108,Jx (.ints true .u64 []) 63 8)]
 keep:=λf i=>match f,i with|291,0=>([4,5,6,7,25,26],[1,4],[])|_,_=>([],[],[])
 keepR:=λf i=>match f,i with|291,0=>([4,5],[1,4],[4,5])|_,_=>([],[],[])
 L:=Qv [⟨291,0,0,z43.l0sh,z43.l0pack⟩]
theorem z43.l0_link (a:Int) (b c:Nat) (d e:Int) (g:J0):Qr z43.C 6 291 0 0 5 (ifun Tryz.f291) (z43.l0at a b c d e g) (z43.l0P b c d e) (z43.l0out0 a b c d e g):=λ_ _ _ _=>by kernel_rfl
theorem z43.link (a0:J0) (a1:Int):z43.C.evTop 291 (ifun Tryz.f291) [(.agg [(.ints false .u64 a0)]),(.int .i64 a1)] z91.dec=z43.F a0 a1:=by kernel_rfl
def z44.C:Ctx where
 T:=tab
theorem z44.link (a0 a1:Int):z44.C.evTop 297 (ifun Tryz.f297) [(.int .u64 a0),(.int .u64 a1)] z40.dec=z44.F a0 a1:=by kernel_rfl
def z49.C:Ctx where
 T:=tab
 draws:=λf i=>match f,i with|174,6=>([(16,[(2,0)],0),(17,[(3,0)],0),(18,[(16,2)],2),(19,[(15,1),(17,3)],7),(0,[(4,0),(18,4)],15),(6,[],31)],491552)|_,_=>([],0)
 call:=Qg [(16,z24.pack),(81,z30.pack),(237,z31.pack),(243,z48.pack)]
theorem z49.link (a0:J0) (a1:Bool) (a2:J0) (a3:Bool):z49.C.evTop 174 (ifun Tryz.f174) [(.agg [(.ints false .u64 a0),(.bool a1)]),(.agg [(.ints false .u64 a2),(.bool a3)])] z55.dec=z49.F a0 a1 a2 a3:=by kernel_rfl
def z54.C:Ctx where
 T:=tab
 call:=Qg [(235,z53.pack),(32,z25.pack)]
theorem z54.link (a0:J0) (a1:Bool) (a2:J0):z54.C.evTop 304 (ifun Tryz.f304) [(.agg [(.ints false .u64 a0),(.bool a1),(.ints false .u64 a2)])] z30.dec=z54.F a0 a1 a2:=by kernel_rfl
def z61.C:Ctx where
 T:=tab
 draws:=λf i=>match f,i with|329,3=>([(14,[(0,0)],0),(15,[(7,0)],0),(16,[(13,1),(14,2)],3),(17,[(0,0)],0),(18,[(7,0)],0),(19,[(1,0)],0),(20,[(18,6)],32),(21,[(17,5),(19,7)],112),(22,[(16,4),(20,8)],248),(5,[(15,3)],7),(6,[(21,9)],1023),(7,[],2047)],4186224)|_,_=>([],0)
 call:=Qg [(92,z58.pack),(310,z60.pack),(160,z3.pack),(260,z4.pack),(93,z59.pack),(32,z25.pack),(317,z2.pack)]
 inl:=inlL [(309,Tryz.f309),(329,Tryz.f329),(197,Tryz.f197),(272,Tryz.f272)]
 rank:=λg=>match g with|309=>3|329=>2|197=>1|_=>0
def z61.dec:V->Option (J0×Bool×Int×Int)
 |(.tup [(.agg [(.ints _ .u64 x0),(.bool x1),(.int .i64 x2)]),(.int .i64 x3)])=>some (x0,x1,x2,x3)
 |_=>none
theorem z61.link (a0:J1):z61.C.evTop 250 (ifun Tryz.f250) [(.str a0)] z61.dec=z61.F a0:=by kernel_rfl
def z63.C:Ctx where
 T:=tab
 call:=Qg [(311,z62.pack)]
theorem z63.link (a0:J0) (a1:Bool) (a2:Int):z63.C.evTop 251 (ifun Tryz.f251) [(.agg [(.ints false .u64 a0),(.bool a1)]),(.int .i64 a2)] z61.dec=z63.F a0 a1 a2:=by kernel_rfl
def z65.C:Ctx where
 T:=tab
 draws:=λf i=>match f,i with|12,2=>([(15,[(2,0)],0),(16,[(14,1)],1),(17,[(3,0)],0),(18,[(16,3)],4),(19,[(15,2),(17,4)],15),(20,[(2,0)],0),(21,[(19,6)],32),(22,[(18,5),(20,7)],127),(0,[(4,0),(21,8)],255)],4177920)|_,_=>([],0)
 call:=Qg [(68,z52.pack),(32,z25.pack),(69,z36.pack)]
theorem z65.link (a0:J0) (a1:Bool) (a2:J0) (a3:Bool):z65.C.evTop 12 (ifun Tryz.f12) [(.agg [(.ints false .u64 a0),(.bool a1)]),(.agg [(.ints false .u64 a2),(.bool a3)])] z30.dec=z65.F a0 a1 a2 a3:=by kernel_rfl
def z72.C:Ctx where
 T:=tab
 draws:=λf i=>match f,i with|253,2=>([(12,[(2,0)],0),(13,[(5,0)],0),(14,[(11,1),(12,2)],3),(15,[(3,0)],0),(16,[(5,0)],0),(17,[(14,4),(15,5)],31),(18,[(13,3),(16,6)],63),(5,[(17,7)],127)],260112)|_,_=>([],0)
 call:=Qg [(312,z71.pack),(155,z67.pack)]
theorem z72.link (a0:J0) (a1:Bool) (a2:Int) (a3:J0) (a4:Bool) (a5:Int):z72.C.evTop 253 (ifun Tryz.f253) [(.agg [(.ints false .u64 a0),(.bool a1),(.int .i64 a2)]),(.agg [(.ints false .u64 a3),(.bool a4),(.int .i64 a5)])] z16.dec=z72.F a0 a1 a2 a3 a4 a5:=by kernel_rfl
def z80.C:Ctx where
 T:=tab
 call:=Qg [(292,z79.pack),(184,z75.pack)]
theorem z80.link (a0 a1 a2 a3:Int) (a4:J1):z80.C.evTop 212 (ifun Tryz.f212) [(.agg [(.int .i64 a0),(.int .i64 a1),(.int .i64 a2),(.int .i64 a3),(.str a4)])] z16.dec=z80.F a0 a1 a2 a3 a4:=by kernel_rfl
def z85.C:Ctx where
 T:=tab
 call:=Qg [(70,z84.pack)]
theorem z85.link (a0:J0) (a1:Bool):z85.C.evTop 13 (ifun Tryz.f13) [(.agg [(.ints false .u64 a0),(.bool a1)])] z83.dec=z85.F a0 a1:=by kernel_rfl
def z89.C:Ctx where
 T:=tab
theorem z89.link (a0:J0) (a1:Bool) (a2:J0):z89.C.evTop 236 (ifun Tryz.f236) [(.agg [(.ints false .u64 a0),(.bool a1),(.ints false .u64 a2)])] z30.dec=z89.F a0 a1 a2:=by kernel_rfl
def z90.C:Ctx where
 T:=tab
 call:=Qg [(75,z23.pack),(324,z38.pack)]
theorem z90.link (a0:J0):z90.C.evTop 305 (ifun Tryz.f305) [(.agg [(.ints false .u64 a0)])] z16.dec=z90.F a0:=by kernel_rfl
def z92.C:Ctx where
 T:=tab
 call:=Qg [(32,z25.pack)]
theorem z92.link (a0:J0):z92.C.evTop 240 (ifun Tryz.f240) [(.agg [(.ints false .u64 a0)])] z30.dec=z92.F a0:=by kernel_rfl
def z93.C:Ctx where
 T:=tab
 draws:=λf i=>match f,i with|171,6=>([(35,[(3,0)],0),(36,[(2,0)],0),(37,[(35,2)],2),(38,[(36,3)],6),(39,[(34,1),(37,4)],15),(40,[(38,5)],31),(41,[(38,5)],31),(0,[(6,0),(39,6)],127),(8,[(40,7)],255)],2181843386496)|171,8=>([(44,[(4,0)],0),(45,[(43,1)],1),(46,[(44,2)],3),(47,[(8,0)],0),(48,[(45,3),(46,4)],15),(10,[],0),(0,[(9,6),(47,5)],63)],272678883688960)|171,14=>([(74,[(3,0)],0),(75,[(73,1)],1),(76,[(4,0)],0),(77,[(75,3)],7),(78,[(74,2),(76,4)],15),(79,[(10,0)],0),(80,[(78,6)],63),(81,[(77,5),(79,7)],127),(17,[],0),(0,[(16,9),(80,8)],511)],2408406906263519059050496)|171,15=>([(82,[(16,0)],0),(83,[(3,0)],0),(84,[(82,2)],2),(85,[(8,0)],0),(86,[(83,3),(84,4)],14),(87,[(14,0)],0),(88,[(85,5),(86,6)],62),(89,[(87,7)],126),(90,[(81,1),(88,8)],255),(91,[(89,9)],511),(92,[(89,9)],511),(0,[(6,0),(90,10)],2047),(8,[(91,11)],4095)],4949342305502291841247084672)|_,_=>([],0)
 call:=Qg [(233,z88.pack),(37,z28.pack),(172,z29.pack),(234,z55.pack),(235,z53.pack),(236,z89.pack),(237,z31.pack),(68,z52.pack),(238,z91.pack),(69,z36.pack),(239,z51.pack),(240,z92.pack),(161,z50.pack),(174,z49.pack)]
theorem z93.link (a0:J0) (a1:Bool) (a2 a3:J0) (a4:Bool) (a5:J0) (a6:Int):z93.C.evTop 171 (ifun Tryz.f171) [(.agg [(.ints false .u64 a0),(.bool a1),(.ints false .u64 a2)]),(.agg [(.ints false .u64 a3),(.bool a4),(.ints false .u64 a5)]),(.int .i64 a6)] z55.dec=z93.F a0 a1 a2 a3 a4 a5 a6:=by kernel_rfl
def z95.C:Ctx where
 T:=tab
 draws:=λf i=>match f,i with|242,1=>([(12,[(6,0)],0),(13,[(6,0)],0),(14,[(11,1),(12,2)],3),(15,[(7,0)],0),(16,[(13,3),(14,4)],15),(10,[(15,5)],31)],64000)|_,_=>([],0)
 call:=Qg [(68,z52.pack),(140,z35.pack),(143,z37.pack)]
theorem z95.link (a0:Int) (a1 a2 a3:J0):z95.C.evTop 242 (ifun Tryz.f242) [(.int .i64 a0),(.agg [(.ints false .u64 a1)]),(.agg [(.ints false .u64 a2)]),(.agg [(.ints false .u64 a3)])] z23.dec=z95.F a0 a1 a2 a3:=by kernel_rfl
def z96.C:Ctx where
 T:=tab
 draws:=λf i=>match f,i with|173,3=>([(15,[(2,0)],0),(16,[(14,1)],1),(17,[(15,2)],3),(18,[(2,0)],0),(19,[(17,4)],15),(20,[(16,3),(18,5)],31),(14,[(19,6)],63),(21,[(13,7)],127),(22,[(13,7)],127),(23,[(13,7)],127),(7,[],0),(8,[],0),(0,[(6,11),(20,8)],3327),(0,[(7,12),(21,9)],7679),(9,[(22,10)],16383)],8380864)|173,4=>([(24,[(7,0)],0),(25,[(23,1)],1),(26,[(24,2)],3),(27,[(25,3)],7),(28,[(1,0),(26,4)],15),(29,[(6,0),(26,4)],15),(30,[(7,0),(26,4)],15),(31,[(2,0),(26,4)],15),(32,[(30,8),(26,4)],143),(33,[(27,5),(28,6),(29,7),(31,9),(26,4)],511),(34,[(26,4),(32,10)],1023)],17171480576)|173,5=>([(35,[(6,0)],0),(36,[],0),(37,[(35,2)],2),(38,[(34,1),(36,3)],7),(0,[(6,0),(37,4)],15)],257698037760)|173,6=>([(39,[(6,0)],0),(40,[(2,0)],0),(41,[(39,2)],2),(42,[(40,3)],6),(43,[(38,1),(41,4)],15),(0,[(4,0),(42,5)],31),(6,[],63)],8521215115296)|_,_=>([],0)
 call:=Qg [(241,z94.pack),(236,z89.pack),(237,z31.pack),(235,z53.pack),(142,z46.pack),(75,z23.pack),(242,z95.pack),(33,z27.pack),(68,z52.pack),(233,z88.pack),(32,z25.pack)]
theorem z96.link (a0:J0) (a1:Bool) (a2:J0) (a3:Int):z96.C.evTop 173 (ifun Tryz.f173) [(.agg [(.ints false .u64 a0),(.bool a1),(.ints false .u64 a2)]),(.int .i64 a3)] z78.dec=z96.F a0 a1 a2 a3:=by kernel_rfl
def z97.C:Ctx where
 T:=tab
 draws:=λf i=>match f,i with|105,6=>([(31,[(5,0)],0),(32,[(30,1)],1),(33,[(12,0)],0),(34,[(3,0)],0),(35,[(31,2),(32,3),(33,4)],15),(30,[(34,5)],31),(36,[(29,6)],63),(37,[(29,6)],63),(15,[],0),(0,[(14,9),(35,7)],383),(14,[(36,8)],1023)],136902107136)|_,_=>([],0)
 call:=Qg [(170,z87.pack),(16,z24.pack),(172,z29.pack),(171,z93.pack),(173,z96.pack)]
theorem z97.link (a0:J0) (a1:Bool) (a2:J1) (a3 a4 a5:Int):z97.C.evTop 105 (ifun Tryz.f105) [(.agg [(.ints false .u64 a0),(.bool a1)]),(.str a2),(.int .i64 a3),(.int .i64 a4),(.int .i64 a5)] z78.dec=z97.F a0 a1 a2 a3 a4 a5:=by kernel_rfl
def z98.C:Ctx where
 T:=tab
 draws:=λf i=>match f,i with|106,5=>([(25,[(3,0)],0),(26,[(1,0)],0),(27,[(25,2)],2),(28,[(24,1),(26,3)],7),(24,[(27,4)],15),(29,[(23,5)],31),(30,[(23,5)],31),(9,[],0),(0,[(8,8),(28,6)],191),(10,[(29,7)],511)],1065353984)|_,_=>([],0)
 call:=Qg [(16,z24.pack),(37,z28.pack),(174,z49.pack),(173,z96.pack)]
theorem z98.link (a0:J0) (a1:Bool) (a2 a3:Int):z98.C.evTop 106 (ifun Tryz.f106) [(.agg [(.ints false .u64 a0),(.bool a1)]),(.int .i64 a2),(.int .i64 a3)] z78.dec=z98.F a0 a1 a2 a3:=by kernel_rfl
def z110.C:Ctx where
 T:=tab
theorem z110.link (a0:Int):z110.C.evTop 182 (ifun Tryz.f182) [(.int .i64 a0)] z16.dec=z110.F a0:=by kernel_rfl
def z111.l0sh:Env×Store:=(.undef::(.ptr 0 0)::(.int .i64 0)::(.int .i64 0) :: .undef::(.int .i64 0)::(.int .i64 0)::un 24 [],[(.cells 41 [(.int .i64 0),(.int .i64 0),(.int .i64 0)])])
def z111.l0at (a b c d e:Int) (x:(Int×Int)):Env×Store:=Qf z111.l0sh [.i a,.i b,.i x.1,.i x.2,.i c,.i d,.i e]
def z111.l0out0 (a b c d e:Int) (o:Int×Int):X×Env×Store:=((.exit 0),Qf z111.l0sh [.i a,.i b,.i o.1,.i o.2,.i c,.i d,.i e])
def z111.l0pack:List Leaf->Option LPack
 |[.i a,.i b,.i c,.i d,.i e,.i g,.i h]=>some (.one _ (z111.l0 e g (c,d)) (z111.l0out0 a b e g h))
 |_=>none
def z111.C:Ctx where
 T:=tab
 call:=Qg [(181,z22.pack),(182,z110.pack),(183,z21.pack)]
 keep:=λf i=>match f,i with|114,0=>([1,2,3,5,6],[0],[])|_,_=>([],[],[])
 keepR:=λf i=>match f,i with|114,0=>([2,3],[0],[2,3])|_,_=>([],[],[])
 L:=Qv [⟨114,0,0,z111.l0sh,z111.l0pack⟩]
theorem z111.l0_link (a b c d e:Int):Qr z111.C 6 114 0 0 1 (ifun Tryz.f114) (z111.l0at a b c d e) (z111.l0P c d) (z111.l0out0 a b c d e):=λ_ _ _ _=>by kernel_rfl
theorem z111.link (a0 a1 a2:Int):z111.C.evTop 114 (ifun Tryz.f114) [(.agg [(.int .i64 a0),(.int .i64 a1),(.int .i64 a2)])] z112.dec=z111.F a0 a1 a2:=by kernel_rfl
def z114.C:Ctx where
 T:=tab
 call:=Qg [(249,z20.pack)]
theorem z114.link (a0:Int):z114.C.evTop 322 (ifun Tryz.f322) [(.int .i64 a0)] z16.dec=z114.F a0:=by kernel_rfl
def z119.l0sh:Env×Store:=((.int .i64 0)::un 4 ((.ptr 0 0)::(.ptr 1 0)::(.ptr 2 0)::un 8 ((.recs false 8 [])::(.int .i64 0)::(.int .i64 0)::un 41 [])),[(.cells 41 [(.int .i64 0),(.int .i64 0),(.int .i64 0)]),(.cells 281 [(.ints false .u64 []),(.bool false),(.ints false .u64 [])]),(.cells 281 [(.ints false .u64 []),(.bool false),(.ints false .u64 [])])])
def z119.l0at (a:Int) (c:J2) (d e g h:Int) (j:J0) (k:Bool) (m:J0) (x:(Int×J0×Bool×J0)):Env×Store:=Qf z119.l0sh [.i a,.lr c,.i d,.i x.1,.i e,.i g,.i h,.li j,.b k,.li m,.li x.2.1,.b x.2.2.1,.li x.2.2.2]
def z119.l0out0 (a:Int) (c:J2) (d e g h:Int) (j:J0) (k:Bool) (m:J0) (o:Int×J0×Bool×J0):X×Env×Store:=((.exit 0),Qf z119.l0sh [.i a,.lr c,.i d,.i o.1,.i e,.i g,.i h,.li j,.b k,.li m,.li o.2.1,.b o.2.2.1,.li o.2.2.2])
def z119.l0pack:List Leaf->Option LPack
 |[.i a,.lr c,.i d,.i e,.i g,.i h,.i j,.li k,.b m,.li n,.li o,.b p,.li q]=>some (.one _ (z119.l0 a c d g h j (e,o,p,q)) (z119.l0out0 a c d g h j k m n))
 |_=>none
def z119.C:Ctx where
 T:=tab
 draws:=λf i=>match f,i with|327,8=>([(41,[(0,0)],0),(42,[(9,0)],0),(43,[(41,2)],2),(44,[(9,0)],0),(45,[(43,4)],8),(46,[(5,0)],0),(47,[(44,5),(45,6)],56),(48,[(40,1),(42,3),(46,7)],127),(40,[(47,8)],255),(49,[(39,9)],511),(50,[(39,9)],511),(15,[],0),(0,[(14,12),(48,10)],3071),(16,[(49,11)],8191)],1125350151077888)|327,9=>([(51,[(7,0)],0),(52,[(10,0)],0),(53,[(51,2)],2),(54,[(12,0)],0),(55,[(52,3),(53,4)],14),(56,[(14,0)],0),(57,[(54,5),(55,6)],62),(58,[(50,1),(56,7)],127),(0,[(7,0),(57,8)],255)],287104476244869120)|_,_=>([],0)
 call:=Qg [(148,z18.pack),(89,z78.pack),(184,z75.pack),(336,z118.pack),(199,z117.pack),(172,z29.pack),(200,z86.pack),(323,z115.pack)]
 keep:=λf i=>match f,i with|327,0=>([0,5,6,7,16,17,18],[0,1,2],[])|_,_=>([],[],[])
 keepR:=λf i=>match f,i with|327,0=>([6],[0,1,2],[6])|_,_=>([],[],[])
 L:=Qv [⟨327,0,0,z119.l0sh,z119.l0pack⟩]
theorem z119.l0_link (a:Int) (b:J2) (c d e g:Int) (h:J0) (j:Bool) (k:J0):Qr z119.C 6 327 0 0 3 (ifun Tryz.f327) (z119.l0at a b c d e g h j k) (z119.l0P a b c d e g) (z119.l0out0 a b c d e g h j k):=λ_ _ _ _=>by kernel_rfl
theorem z119.link (a0:Int) (a1:J2) (a2 a3 a4:Int):z119.C.evTop 327 (ifun Tryz.f327) [(.int .i64 a0),(.recs false 8 a1),(.agg [(.int .i64 a2),(.int .i64 a3),(.int .i64 a4)])] z74.dec=z119.F a0 a1 a2 a3 a4:=by kernel_rfl
def z120.C:Ctx where
 T:=tab
 call:=Qg [(45,z103.pack),(181,z22.pack),(326,z107.pack),(327,z119.pack)]
theorem z120.link (a0:Int) (a1:J2) (a2 a3 a4:Int):z120.C.evTop 294 (ifun Tryz.f294) [(.int .i64 a0),(.recs false 8 a1),(.agg [(.int .i64 a2),(.int .i64 a3),(.int .i64 a4)])] z55.dec=z120.F a0 a1 a2 a3 a4:=by kernel_rfl
def z121.C:Ctx where
 T:=tab
 call:=Qg [(294,z120.pack),(173,z96.pack)]
theorem z121.link (a0 a1:Int) (a2:J2) (a3 a4 a5:Int):z121.C.evTop 214 (ifun Tryz.f214) [(.int .i64 a0),(.int .i64 a1),(.recs false 8 a2),(.agg [(.int .i64 a3),(.int .i64 a4),(.int .i64 a5)])] z78.dec=z121.F a0 a1 a2 a3 a4 a5:=by kernel_rfl
def z123.C:Ctx where
 T:=tab
theorem z123.link:z123.C.evTop 333 (ifun Tryz.f333) [] z105.dec=z123.F:=by kernel_rfl
def z130.l0sh:Env×Store:=(.undef::(.int .i64 0)::(.int .i64 0)::(.ptr 0 0) :: .undef :: .undef::(.sref 1 0)::(.int .i64 0) :: .undef::(.sref 2 0)::(.int .i64 0)::un 39 [],[(.cells 41 [(.int .i64 0),(.int .i64 0),(.int .i64 0)]),(.arr 0 true 41 (.recs false 3 [])),(.arr 0 true 41 (.recs false 3 []))])
def z130.l0so1:Env×Store:=(un 6 ((.recs false 3 [])::(.int .i64 0)::un 42 []),[(.cells 41 [(.int .i64 0),(.int .i64 0),(.int .i64 0)]),(.arr 0 true 41 (.recs false 3 [])),(.arr 0 true 41 (.recs false 3 []))])
def z130.l0at (a b c d e g:Int) (h:J2) (x:(Int×J2)):Env×Store:=Qf z130.l0sh [.i a,.i b,.i c,.i x.1,.i d,.i e,.i g,.lr h,.lr x.2]
def z130.l0out0 (a b c d e g:Int) (h:J2) (o:Int×J2):X×Env×Store:=((.exit 0),Qf z130.l0sh [.i a,.i b,.i c,.i o.1,.i d,.i e,.i g,.lr h,.lr o.2])
def z130.l0out1 (a b c:Int) (d:J2) (o:J2×Int×J2):X×Env×Store:=(.ret,Qf z130.l0so1 [.lr o.1,.i o.2.1,.i a,.i b,.i c,.lr d,.lr o.2.2])
def z130.l0pack:List Leaf->Option LPack
 |[.i a,.i b,.i c,.i d,.i e,.i g,.i h,.lr j,.lr k]=>some (.two _ _ (z130.l0 a b e g h (d,k)) (z130.l0out0 a b c e g h j) (z130.l0out1 e g h j))
 |_=>none
def z130.C:Ctx where
 T:=tab
 call:=Qg [(181,z22.pack),(277,z128.pack)]
 keep:=λf i=>match f,i with|211,0=>([1,2,3,6,7,9,10],[0,1,2],[])|_,_=>([],[],[])
 keepR:=λf i=>match f,i with|211,0=>([6,7],[0,1,2],[6,7])|_,_=>([],[],[])
 L:=Qv [⟨211,0,0,z130.l0sh,z130.l0pack⟩]
theorem z130.l0_link (a b c d e g:Int) (h:J2):Yo z130.C 6 211 0 0 3 (ifun Tryz.f211) (z130.l0at a b c d e g h) (z130.l0P a b d e g) (z130.l0out0 a b c d e g h) (z130.l0out1 d e g h):=λ_ _ _ _=>by kernel_rfl
theorem z130.link (a0 a1 a2 a3 a4:Int):z130.C.evTop 211 (ifun Tryz.f211) [(.agg [(.int .i64 a0),(.int .i64 a1),(.int .i64 a2)]),(.int .i64 a3),(.int .i64 a4)] z131.dec=z130.F a0 a1 a2 a3 a4:=by kernel_rfl
def z135.C:Ctx where
 T:=tab
theorem z135.link:z135.C.evTop 91 (ifun Tryz.f91) [] z142.dec=z135.F:=by kernel_rfl
def z136.C:Ctx where
 T:=tab
 call:=Qg [(91,z135.pack),(25,z134.pack),(37,z28.pack),(31,z99.pack),(13,z85.pack)]
theorem z136.link:z136.C.evTop 26 (ifun Tryz.f26) [] z23.dec=z136.F:=by kernel_rfl
def z145.l0sh:Env×Store:=(.undef :: .undef::(.bool false)::(.ptr 1 0)::(.recs false 5 [])::(.recs false 8 []) :: .undef :: .undef::(.ptr 2 0)::un 30 ((.recs false 8 [])::(.int .i64 0)::(.int .i64 0)::un 76 []),[.dead,(.cells 73 [(.str ([]:J1)),(.str ([]:J1)),(.int .i64 0),(.int .i64 0),(.int .i64 0),(.int .i64 0),(.int .i64 0),(.int .i64 0),(.int .i64 0),(.int .i64 0)]),(.cells 39 [(.ints false .u64 []),(.bool false)])])
def z145.l0so1:Env×Store:=(.undef :: .undef::(.bool false)::un 115 [],[.dead,(.cells 73 [(.str ([]:J1)),(.str ([]:J1)),(.int .i64 0),(.int .i64 0),(.int .i64 0),(.int .i64 0),(.int .i64 0),(.int .i64 0),(.int .i64 0),(.int .i64 0)]),(.cells 39 [(.ints false .u64 []),(.bool false)])])
def z145.l0at (a:Bool) (c d e:J2) (g:Int) (h j:J1) (k m n o p q r t:Int) (x:(Int×J0×Bool)):Env×Store:=Qf z145.l0sh [.b a,.lr c,.lr d,.lr e,.i g,.i x.1,.s h,.s j,.i k,.i m,.i n,.i o,.i p,.i q,.i r,.i t,.li x.2.1,.b x.2.2]
def z145.l0out0 (a:Bool) (c d e:J2) (g:Int) (h j:J1) (k m n p q r t u:Int) (o:Int×J0×Bool):X×Env×Store:=((.exit 0),Qf z145.l0sh [.b a,.lr c,.lr d,.lr e,.i g,.i o.1,.s h,.s j,.i k,.i m,.i n,.i p,.i q,.i r,.i t,.i u,.li o.2.1,.b o.2.2])
def z145.l0out1 (a c:J1) (d e g h j k m n:Int) (o:Bool×J0×Bool):X×Env×Store:=(.ret,Qf z145.l0so1 [.b o.1,.s a,.s c,.i d,.i e,.i g,.i h,.i j,.i k,.i m,.i n,.li o.2.1,.b o.2.2])
def z145.l0pack:List Leaf->Option LPack
 |[.b a,.lr c,.lr d,.lr e,.i g,.i h,.s j,.s k,.i m,.i n,.i o,.i p,.i q,.i r,.i t,.i u,.li v,.b w]=>some (.two _ _ (z145.l0 e g (h,v,w)) (z145.l0out0 a c d e g j k m n o p q r t u) (z145.l0out1 j k m n o p q r t u))
 |_=>none
def z145.l2sh:Env×Store:=(.undef :: .undef::(.bool false)::(.ptr 1 0) :: .undef::(.recs false 8 []) :: .undef :: .undef::(.ptr 2 0)::un 68 ((.recs false 5 [])::(.int .i64 0)::(.int .i64 0)::un 38 []),[.dead,(.cells 73 [(.str ([]:J1)),(.str ([]:J1)),(.int .i64 0),(.int .i64 0),(.int .i64 0),(.int .i64 0),(.int .i64 0),(.int .i64 0),(.int .i64 0),(.int .i64 0)]),(.cells 39 [(.ints false .u64 []),(.bool false)])])
def z145.l2at (a:Bool) (c d:J2) (e:Int) (g h:J1) (j k m n o p q r:Int) (x:(Int×J0×Bool)):Env×Store:=Qf z145.l2sh [.b a,.lr c,.lr d,.i e,.i x.1,.s g,.s h,.i j,.i k,.i m,.i n,.i o,.i p,.i q,.i r,.li x.2.1,.b x.2.2]
def z145.l2out0 (a:Bool) (c d:J2) (e:Int) (g h:J1) (j k m n p q r t:Int) (o:Int×J0×Bool):X×Env×Store:=((.exit 2),Qf z145.l2sh [.b a,.lr c,.lr d,.i e,.i o.1,.s g,.s h,.i j,.i k,.i m,.i n,.i p,.i q,.i r,.i t,.li o.2.1,.b o.2.2])
def z145.l2pack:List Leaf->Option LPack
 |[.b a,.lr c,.lr d,.i e,.i g,.s h,.s j,.i k,.i m,.i n,.i o,.i p,.i q,.i r,.i t,.li u,.b v]=>some (.one _ (z145.l2 d e (g,u,v)) (z145.l2out0 a c d e h j k m n o p q r t))
 |_=>none
def z145.C:Ctx where
 T:=tab
 draws:=λf i=>match f,i with|5,23=>([(97,[(5,0)],0),(98,[(96,1)],1),(99,[(3,0)],0),(100,[(98,3)],4),(101,[(97,2),(99,4)],15),(102,[(100,5)],31),(103,[(8,0),(101,6)],63),(104,[(102,7),(101,6)],127),(105,[(3,0),(101,6)],63),(106,[(104,9),(101,6)],319),(107,[(103,8),(105,10),(101,6)],1023),(108,[(101,6),(106,11)],2047),(109,[(107,12)],4095),(110,[(5,0),(108,13)],8191),(111,[(5,0),(108,13)],8191),(112,[(110,15),(108,13)],24575),(113,[(111,16),(108,13)],57343),(114,[(109,14),(112,17),(108,13)],131071),(115,[(113,18),(108,13)],262143),(116,[(114,19),(108,13)],524287),(117,[(115,20),(108,13)],1048575),(118,[(108,13),(116,21)],2097151),(3,[(117,22)],4194303)],332306919718066453961614171526135812)|_,_=>([],0)
 call:=Qg [(24,z144.pack),(25,z134.pack),(26,z136.pack),(27,z76.pack),(16,z24.pack),(12,z65.pack),(13,z85.pack)]
 keep:=λf i=>match f,i with|5,0=>([2,3,4,5,8,39,40,41,102,103,104,105,106,109,110,111,112,113,114,115,116],[1,2],[])|5,2=>([2,3,5,8,77,78,79,102,103,104,105,106,109,110,111,112,113,114,115,116],[1,2],[])|_,_=>([],[],[])
 keepR:=λf i=>match f,i with|5,0=>([2],[1,2],[2])|5,2=>([2],[1,2],[2])|_,_=>([],[],[])
 L:=Qv [⟨5,0,0,z145.l0sh,z145.l0pack⟩,⟨5,2,0,z145.l2sh,z145.l2pack⟩]
theorem z145.l0_link (a:Bool) (b c d:J2) (e:Int) (g h:J1) (j k m n o p q r:Int):Yo z145.C 6 5 0 0 3 (ifun Tryz.f5) (z145.l0at a b c d e g h j k m n o p q r) (z145.l0P d e) (z145.l0out0 a b c d e g h j k m n o p q r) (z145.l0out1 g h j k m n o p q r):=λ_ _ _ _=>by kernel_rfl
theorem z145.l2_link (a:Bool) (b c:J2) (d:Int) (e g:J1) (h j k m n o p q:Int):Qr z145.C 6 5 2 0 3 (ifun Tryz.f5) (z145.l2at a b c d e g h j k m n o p q) (z145.l2P c d) (z145.l2out0 a b c d e g h j k m n o p q):=λ_ _ _ _=>by kernel_rfl
theorem z145.link (a0 a1 a2 a3 a4 a5 a6 a7 a8 a9 a10 a11 a12 a13 a14:Int) (a15 a16 a17:J0) (a18:Bool):z145.C.evTop 5 (ifun Tryz.f5) [(.agg [(.int .u64 a0),(.int .u16 a1),(.int .u32 a2),(.int .u8 a3),(.int .u8 a4),(.int .u8 a5),(.int .u8 a6),(.int .u8 a7),(.int .u8 a8),(.int .i64 a9),(.int .i64 a10),(.int .i64 a11),(.int .i64 a12),(.int .i64 a13),(.int .i64 a14),(.ints false .u8 a15),(.ints false .u8 a16),(.ints false .u32 a17),(.bool a18)])] z23.dec=z145.F a0 a1 a2 a3 a4 a5 a6 a7 a8 a9 a10 a11 a12 a13 a14 a15 a16 a17 a18:=by kernel_rfl
end
noncomputable section
abbrev Sn (k:List V->Option Pack) (n:FuncId):Prop:=∀vs p,k vs=some p->SoundC Tryz.prog n vs p
theorem Qd:tab.check Tryz.prog=true:=by kernel_rfl
def tabC:Ctx where
 T:=tab
theorem Qe:Tryz.prog.follows .mixedOrders=true:=by kernel_rfl
theorem z5.l2_sound (hI:IK Tryz.prog z5.C 6):Qm z5.C 6 71 2 0 (Ql 2 (ifun Tryz.f71).body) z5.l2sh z5.l2pack:=by
 refine Qn λls p h=>?_
 unfold z5.l2pack at h;split at h<;>cases h
 rename_i a b c d e g
 exact Qs hI z5.l2sh z5.l2sh [2,4,5] [2,4,5] (c,e,g) (z5.l2_link a b d)
theorem z5.l0_sound (hI:IK Tryz.prog z5.C 6):Qm z5.C 6 71 0 0 (Ql 0 (ifun Tryz.f71).body) z5.l0sh z5.l0pack:=by
 refine Qn λls p h=>?_
 unfold z5.l0pack at h;split at h<;>cases h
 rename_i a b c d
 exact Qs hI z5.l0sh z5.l0sh [2,3] [2,3] (c,d) (z5.l0_link a b)
theorem z5.l4_sound (hI:IK Tryz.prog z5.C 6):Qm z5.C 6 71 4 0 (Ql 4 (ifun Tryz.f71).body) z5.l4sh z5.l4pack:=by
 refine Qn λls p h=>?_
 unfold z5.l4pack at h;split at h<;>cases h
 rename_i a b c
 exact Qs hI z5.l4sh z5.l4sh [2] [2] c (z5.l4_link a b)
theorem Qua:Qq (ifun Tryz.f71).body=true:=by kernel_rfl
theorem z5.hdec:Wb z83.dec z5.enc:=by
 intro v r h
 unfold z83.dec at h;split at h<;>cases h
 exact ⟨rfl,rfl⟩
theorem z5.sound:Sn z5.pack 71:=by
 intro vs p h;unfold z5.pack at h;split at h<;>cases h
 exact Q7 (C:=z5.C) Qd Qe rfl rfl rfl Qx ⟨Tryz.func71,rfl,by kernel_rfl⟩ (λhI=>Qu rfl Qua (lpY (z5.l2_sound hI) (lpY (z5.l0_sound hI) (lpY (z5.l4_sound hI) lpE))) 0) rfl (z5.link _) z5.hdec
theorem z6.sound:Sn z6.pack 14:=by
 intro vs p h;unfold z6.pack at h;split at h<;>cases h
 exact Qi Qd Qe rfl rfl rfl rfl (Qa z5.sound Qh) ⟨Tryz.func14,rfl,by kernel_rfl⟩ rfl (z6.link _ _) z5.hdec
theorem z7.hdec:Wb z23.dec z7.enc:=by
 intro v r h
 unfold z23.dec at h;split at h<;>cases h
 exact ⟨rfl,rfl⟩
theorem z7.sound:Sn z7.pack 202:=by
 intro vs p h;unfold z7.pack at h;split at h<;>cases h
 exact Qi Qd Qe rfl rfl rfl rfl Qx ⟨Tryz.func202,rfl,by kernel_rfl⟩ rfl (z7.link _) z7.hdec
theorem z8.hdec:Wb z16.dec z8.enc:=by
 intro v r h
 unfold z16.dec at h;split at h<;>cases h
 exact ⟨rfl,rfl⟩
theorem z8.sound:Sn z8.pack 133:=by
 intro vs p h;unfold z8.pack at h;split at h<;>cases h
 exact Qi Qd Qe rfl rfl rfl rfl (Qa z7.sound Qh) ⟨Tryz.func133,rfl,by kernel_rfl⟩ rfl (z8.link _ _) z8.hdec
theorem z9.sound:Sn z9.pack 63:=by
 intro vs p h;unfold z9.pack at h;split at h<;>cases h
 exact Qi Qd Qe rfl rfl rfl rfl (Qa z8.sound Qh) ⟨Tryz.func63,rfl,by kernel_rfl⟩ rfl (z9.link _ _ _) (by intro v r h;unfold z9.dec at h;split at h<;>cases h;exact ⟨rfl,rfl⟩)
theorem z10.hdec:Wb z12.dec z10.enc:=by
 intro v r h
 unfold z12.dec at h;split at h<;>cases h
 exact ⟨rfl,rfl⟩
theorem z10.sound:Sn z10.pack 35:=by
 intro vs p h;unfold z10.pack at h;split at h<;>cases h
 exact Qi Qd Qe rfl rfl rfl rfl Qx ⟨Tryz.func35,rfl,by kernel_rfl⟩ rfl (z10.link _ _) z10.hdec
theorem z11.l0_sound (hI:IK Tryz.prog z11.C 6):Qm z11.C 6 111 0 0 (Ql 0 (ifun Tryz.f111).body) z11.l0sh z11.l0pack:=by
 refine Qn λls p h=>?_
 unfold z11.l0pack at h;split at h<;>cases h
 rename_i a b c
 exact Qs hI z11.l0sh z11.l0sh [0,2] [0,2] (a,c) (z11.l0_link b)
theorem Qyr:Qq (ifun Tryz.f111).body=true:=by kernel_rfl
theorem z11.hdec:Wb z138.dec z11.enc:=by
 intro v r h
 unfold z138.dec at h;split at h<;>cases h
 exact ⟨rfl,rfl⟩
theorem z11.sound:Sn z11.pack 111:=by
 intro vs p h;unfold z11.pack at h;split at h<;>cases h
 exact Q7 (C:=z11.C) Qd Qe rfl rfl rfl Qx ⟨Tryz.func111,rfl,by kernel_rfl⟩ (λhI=>Qu rfl Qyr (lpY (z11.l0_sound hI) lpE) 0) rfl (z11.link _) z11.hdec
theorem z12.sound:Sn z12.pack 64:=by
 intro vs p h;unfold z12.pack at h;split at h<;>cases h
 exact Qi Qd Qe rfl rfl rfl rfl (Qa z11.sound (Qa z10.sound Qh)) ⟨Tryz.func64,rfl,by kernel_rfl⟩ rfl (z12.link _) z10.hdec
theorem z13.l2_sound (hI:IK Tryz.prog z13.C 6):Qm z13.C 6 46 2 0 (Ql 2 (ifun Tryz.f46).body) z13.l2sh z13.l2pack:=by
 refine Qn λls p h=>?_
 unfold z13.l2pack at h;split at h<;>cases h
 rename_i a b c d e g j k m n o q r s t
 exact Qs hI z13.l2sh z13.l2sh [1,12,13,14] [1,12,13,14] (b,r,s,t) (z13.l2_link a c d e g j k m n o q)
theorem z13.l0_sound (hI:IK Tryz.prog z13.C 6):Qm z13.C 6 46 0 0 (Ql 0 (ifun Tryz.f46).body) z13.l0sh z13.l0pack:=by
 refine Qn λls p h=>?_
 unfold z13.l0pack at h;split at h<;>cases h
 rename_i a b c d e g j k m n o q
 exact Qs hI z13.l0sh z13.l0sh [0,8,9,10,11] [0,8,9,10,11] (a,m,n,o,q) (z13.l0_link b c d e g j k)
theorem Qt9:FunOK Tryz.prog 46 Tryz.f46 (ifun Tryz.f46).body:=⟨Tryz.func46,rfl,by kernel_rfl⟩
theorem Qxe:Qq (ifun Tryz.f46).body=true:=by kernel_rfl
theorem z13.inlF:InlF Tryz.prog z13.C:=W2 Qay inlN
theorem z13.soundN:SoundP Tryz.prog 46 (newP 85 z13.pack):=
 Qza Qd Qe rfl (Qa z9.sound (Qa z12.sound (Qa z6.sound Qh))) z13.inlF Qt9 (λhI=>Qu rfl Qxe (lpY (z13.l2_sound hI) (lpY (z13.l0_sound hI) lpE)) 0) λvs p h=>by
  unfold z13.pack at h;split at h<;>cases h
  exact ⟨_,z13.decN,rfl,z13.linkN _ _ _ _ _ _ _ _ _,λv r h=>by unfold z13.decN at h;split at h<;>cases h;rfl⟩
theorem z14.hdec:Wb z14.dec z14.enc:=by
 intro v r h
 unfold z14.dec at h;split at h<;>cases h
 exact ⟨rfl,rfl⟩
theorem z14.sound:Sn z14.pack 62:=by
 intro vs p h;unfold z14.pack at h;split at h<;>cases h
 exact Qi Qd Qe rfl rfl rfl rfl (Qa z8.sound Qh) ⟨Tryz.func62,rfl,by kernel_rfl⟩ rfl (z14.link _ _ _ _) z14.hdec
theorem z15.sound:Sn z15.pack 283:=by
 intro vs p h;unfold z15.pack at h;split at h<;>cases h
 exact Qi Qd Qe rfl rfl rfl rfl Qx ⟨Tryz.func283,rfl,by kernel_rfl⟩ rfl (z15.link _) z7.hdec
theorem z16.sound:Sn z16.pack 206:=by
 intro vs p h;unfold z16.pack at h;split at h<;>cases h
 exact Qi Qd Qe rfl rfl rfl rfl (Qa z15.sound Qh) ⟨Tryz.func206,rfl,by kernel_rfl⟩ rfl (z16.link _ _) z8.hdec
theorem z17.l0_sound (hI:IK Tryz.prog z17.C 6):Qm z17.C 6 210 0 0 (Ql 0 (ifun Tryz.f210).body) z17.l0sh z17.l0pack:=by
 refine Qn λls p h=>?_
 unfold z17.l0pack at h;split at h<;>cases h
 rename_i a b c d e
 exact Yt hI z17.l0sh z17.l0sh z17.l0so1 (.exit 0) [4] [4] [0] e (z17.l0_link a b c d)
theorem Qtf:Qq (ifun Tryz.f210).body=true:=by kernel_rfl
theorem z17.sound:Sn z17.pack 210:=by
 intro vs p h;unfold z17.pack at h;split at h<;>cases h
 exact Q7 (C:=z17.C) Qd Qe rfl rfl rfl Qx ⟨Tryz.func210,rfl,by kernel_rfl⟩ (λhI=>Qu rfl Qtf (lpY (z17.l0_sound hI) lpE) 0) rfl (z17.link _) z8.hdec
theorem z18.sound:Sn z18.pack 148:=by
 intro vs p h;unfold z18.pack at h;split at h<;>cases h
 exact Qi Qd Qe rfl rfl rfl rfl (Qa z16.sound (Qa z17.sound Qh)) ⟨Tryz.func148,rfl,by kernel_rfl⟩ rfl (z18.link _ _ _ _ _ _) z8.hdec
theorem z19.sound:Sn z19.pack 248:=by
 intro vs p h;unfold z19.pack at h;split at h<;>cases h
 exact Qi Qd Qe rfl rfl rfl rfl Qx ⟨Tryz.func248,rfl,by kernel_rfl⟩ rfl (z19.link _) z7.hdec
theorem z20.sound:Sn z20.pack 249:=by
 intro vs p h;unfold z20.pack at h;split at h<;>cases h
 exact Qi Qd Qe rfl rfl rfl rfl (Qa z19.sound Qh) ⟨Tryz.func249,rfl,by kernel_rfl⟩ rfl (z20.link _) z7.hdec
theorem z21.sound:Sn z21.pack 183:=by
 intro vs p h;unfold z21.pack at h;split at h<;>cases h
 exact Qi Qd Qe rfl rfl rfl rfl (Qa z19.sound (Qa z20.sound Qh)) ⟨Tryz.func183,rfl,by kernel_rfl⟩ rfl (z21.link _ _) z8.hdec
theorem z22.sound:Sn z22.pack 181:=by
 intro vs p h;unfold z22.pack at h;split at h<;>cases h
 exact Qi Qd Qe rfl rfl rfl rfl (Qa z21.sound Qh) ⟨Tryz.func181,rfl,by kernel_rfl⟩ rfl (z22.link _ _ _) z8.hdec
theorem z23.sound:Sn z23.pack 75:=by
 intro vs p h;unfold z23.pack at h;split at h<;>cases h
 exact Qi Qd Qe rfl rfl rfl rfl Qx ⟨Tryz.func75,rfl,by kernel_rfl⟩ rfl (z23.link _) z7.hdec
theorem z24.sound:Sn z24.pack 16:=by
 intro vs p h;unfold z24.pack at h;split at h<;>cases h
 exact Qi Qd Qe rfl rfl rfl rfl (Qa z23.sound Qh) ⟨Tryz.func16,rfl,by kernel_rfl⟩ rfl (z24.link _ _) z8.hdec
theorem z25.hdec:Wb z30.dec z25.enc:=by
 intro v r h
 unfold z30.dec at h;split at h<;>cases h
 exact ⟨rfl,rfl⟩
theorem z25.sound:Sn z25.pack 32:=by
 intro vs p h;unfold z25.pack at h;split at h<;>cases h
 exact Qi Qd Qe rfl rfl rfl rfl (Qa z23.sound Qh) ⟨Tryz.func32,rfl,by kernel_rfl⟩ rfl (z25.link _ _) z25.hdec
theorem z26.l0_sound (hI:IK Tryz.prog z26.C 6):Qm z26.C 6 107 0 0 (Ql 0 (ifun Tryz.f107).body) z26.l0sh z26.l0pack:=by
 refine Qn λls p h=>?_
 unfold z26.l0pack at h;split at h<;>cases h
 rename_i a b c
 exact Qs hI z26.l0sh z26.l0sh [1] [1] b (z26.l0_link a c)
theorem Qw6:Qq (ifun Tryz.f107).body=true:=by kernel_rfl
theorem z26.hdec:Wb z50.dec z26.enc:=by
 intro v r h
 unfold z50.dec at h;split at h<;>cases h
 exact ⟨rfl,rfl⟩
theorem z26.sound:Sn z26.pack 107:=by
 intro vs p h;unfold z26.pack at h;split at h<;>cases h
 exact Q7 (C:=z26.C) Qd Qe rfl rfl rfl Qx ⟨Tryz.func107,rfl,by kernel_rfl⟩ (λhI=>Qu rfl Qw6 (lpY (z26.l0_sound hI) lpE) 0) rfl (z26.link _) z26.hdec
theorem Qjw:SoundP Tryz.prog 108 (Jx (.ints true .u64 []) 63 8):=Qnq (C:=tabC) Qd (f:=Tryz.f108) (t:=35) ⟨Tryz.func108,rfl,by kernel_rfl⟩ rfl (by decide) (by kernel_rfl) (by kernel_rfl) (by kernel_rfl) (by decide) (by kernel_rfl) rfl rfl (by kernel_rfl)
theorem z27.inlF:InlF Tryz.prog z27.C:=W2 (Jn Qjw Qac) inlN
theorem z27.sound:Sn z27.pack 33:=by
 intro vs p h;unfold z27.pack at h;split at h<;>cases h
 exact Y4 (C:=z27.C) Qd Qe rfl (Qa z26.sound Qh) z27.inlF ⟨Tryz.func33,rfl,by kernel_rfl⟩ (λhI=>J9 rfl _ _ _ _) rfl (z27.link _) z26.hdec
theorem z28.sound:Sn z28.pack 37:=by
 intro vs p h;unfold z28.pack at h;split at h<;>cases h
 exact Qi Qd Qe rfl rfl rfl rfl (Qa z27.sound (Qa z25.sound Qh)) ⟨Tryz.func37,rfl,by kernel_rfl⟩ rfl (z28.link _) z25.hdec
theorem z29.hdec:Wb z74.dec z29.enc:=by
 intro v r h
 unfold z74.dec at h;split at h<;>cases h
 exact ⟨rfl,rfl⟩
theorem z29.sound:Sn z29.pack 172:=by
 intro vs p h;unfold z29.pack at h;split at h<;>cases h
 exact Qi Qd Qe rfl rfl rfl rfl Qx ⟨Tryz.func172,rfl,by kernel_rfl⟩ rfl (z29.link _ _) z29.hdec
theorem z30.sound:Sn z30.pack 81:=by
 intro vs p h;unfold z30.pack at h;split at h<;>cases h
 exact Qi Qd Qe rfl rfl rfl rfl (Qa z25.sound Qh) ⟨Tryz.func81,rfl,by kernel_rfl⟩ rfl (z30.link _ _) z25.hdec
theorem z31.sound:Sn z31.pack 237:=by
 intro vs p h;unfold z31.pack at h;split at h<;>cases h
 exact Qi Qd Qe rfl rfl rfl rfl Qx ⟨Tryz.func237,rfl,by kernel_rfl⟩ rfl (z31.link _ _) z26.hdec
theorem z32.sound:Sn z32.pack 139:=by
 intro vs p h;unfold z32.pack at h;split at h<;>cases h
 exact Qi Qd Qe rfl rfl rfl rfl Qx ⟨Tryz.func139,rfl,by kernel_rfl⟩ rfl (z32.link _ _) (by intro v r h;unfold z32.dec at h;split at h<;>cases h;exact ⟨rfl,rfl⟩)
theorem z33.sound:Sn z33.pack 284:=by
 intro vs p h;unfold z33.pack at h;split at h<;>cases h
 exact Qi Qd Qe rfl rfl rfl rfl Qx ⟨Tryz.func284,rfl,by kernel_rfl⟩ rfl (z33.link _) z7.hdec
theorem z34.sound:Sn z34.pack 207:=by
 intro vs p h;unfold z34.pack at h;split at h<;>cases h
 exact Qi Qd Qe rfl rfl rfl rfl (Qa z33.sound Qh) ⟨Tryz.func207,rfl,by kernel_rfl⟩ rfl (z34.link _ _) z8.hdec
theorem z35.l0_sound (hI:IK Tryz.prog z35.C 6):Qm z35.C 6 140 0 0 (Ql 0 (ifun Tryz.f140).body) z35.l0sh z35.l0pack:=by
 refine Qn λls p h=>?_
 unfold z35.l0pack at h;split at h<;>cases h
 rename_i a b c d
 exact Yt hI z35.l0sh z35.l0sh z35.l0so1 (.exit 0) [1] [1] [0] b (z35.l0_link a c d)
theorem Qx6:Qq (ifun Tryz.f140).body=true:=by kernel_rfl
theorem z35.sound:Sn z35.pack 140:=by
 intro vs p h;unfold z35.pack at h;split at h<;>cases h
 exact Q7 (C:=z35.C) Qd Qe rfl rfl rfl (Qa z16.sound (Qa z34.sound Qh)) ⟨Tryz.func140,rfl,by kernel_rfl⟩ (λhI=>Qu rfl Qx6 (lpY (z35.l0_sound hI) lpE) 0) rfl (z35.link _ _) z8.hdec
theorem z36.l0_sound (hI:IK Tryz.prog z36.C 6):Qm z36.C 6 69 0 0 (Ql 0 (ifun Tryz.f69).body) z36.l0sh z36.l0pack:=by
 refine Qn λls p h=>?_
 unfold z36.l0pack at h;split at h<;>cases h
 rename_i a b c d e g j k
 exact Qs hI z36.l0sh z36.l0sh [1,3,7] [1,3,7] (b,d,k) (z36.l0_link a c e g j)
theorem Qrr:Qq (ifun Tryz.f69).body=true:=by kernel_rfl
theorem z36.sound:Sn z36.pack 69:=by
 intro vs p h;unfold z36.pack at h;split at h<;>cases h
 exact Q7 (C:=z36.C) Qd Qe rfl rfl rfl (Qa z35.sound (Qa z32.sound (Qa z1.sound (Qa z26.sound Qh)))) ⟨Tryz.func69,rfl,by kernel_rfl⟩ (λhI=>Qu rfl Qrr (lpY (z36.l0_sound hI) lpE) 0) rfl (z36.link _ _) (by intro v r h;unfold z36.dec at h;split at h<;>cases h;exact ⟨rfl,rfl⟩)
theorem Qk6:FunOK Tryz.prog 143 Tryz.f143 (ifun Tryz.f143).body:=⟨Tryz.func143,rfl,by kernel_rfl⟩
theorem z37.inlF:InlF Tryz.prog z37.C:=W2 (Jn Qjw Qac) inlN
theorem z37.sound:Sn z37.pack 143:=by
 intro vs p h;unfold z37.pack at h;split at h<;>cases h
 exact Y4 (C:=z37.C) Qd Qe rfl Qx z37.inlF Qk6 (λhI=>J9 rfl _ _ _ _) rfl (z37.link _) (by intro v r h;unfold z37.dec at h;split at h<;>cases h;exact ⟨rfl,rfl⟩)
theorem z38.sound:Sn z38.pack 324:=by
 intro vs p h;unfold z38.pack at h;split at h<;>cases h
 exact Qi Qd Qe rfl rfl rfl rfl Qx ⟨Tryz.func324,rfl,by kernel_rfl⟩ rfl (z38.link _) z8.hdec
theorem z39.sound:Sn z39.pack 286:=by
 intro vs p h;unfold z39.pack at h;split at h<;>cases h
 exact Qi Qd Qe rfl rfl rfl rfl (Qa z38.sound Qh) ⟨Tryz.func286,rfl,by kernel_rfl⟩ rfl (z39.link _) z8.hdec
theorem z40.l0_sound (hI:IK Tryz.prog z40.C 6):Qm z40.C 6 285 0 0 (Ql 0 (ifun Tryz.f285).body) z40.l0sh z40.l0pack:=by
 refine Qn λls p h=>?_
 unfold z40.l0pack at h;split at h<;>cases h
 rename_i a b c d e g j k m n o
 exact Qs hI z40.l0sh z40.l0sh [9,10] [9,10] (n,o) (z40.l0_link a b c d e g j k m)
theorem z40.l2_sound (hI:IK Tryz.prog z40.C 6):Qm z40.C 6 285 2 0 (Ql 2 (ifun Tryz.f285).body) z40.l2sh z40.l2pack:=by
 refine Qn λls p h=>?_
 unfold z40.l2pack at h;split at h<;>cases h
 rename_i a b c d e g j k m n o
 exact Qs hI z40.l2sh z40.l2sh [8,10] [8,10] (m,o) (z40.l2_link a b c d e g j k n)
theorem Qs5:Qq (ifun Tryz.f285).body=true:=by kernel_rfl
theorem z40.hdec:Wb z40.dec z40.enc:=by
 intro v r h
 unfold z40.dec at h;split at h<;>cases h
 exact ⟨rfl,rfl⟩
theorem z40.sound:Sn z40.pack 285:=by
 intro vs p h;unfold z40.pack at h;split at h<;>cases h
 exact Q7 (C:=z40.C) Qd Qe rfl rfl rfl (Qa z39.sound Qh) ⟨Tryz.func285,rfl,by kernel_rfl⟩ (λhI=>Qu rfl Qs5 (lpY (z40.l0_sound hI) (lpY (z40.l2_sound hI) lpE)) 0) rfl (z40.link _ _ _) z40.hdec
theorem z41.l0_sound (hI:IK Tryz.prog z41.C 6):Qm z41.C 6 208 0 0 (Ql 0 (ifun Tryz.f208).body) z41.l0sh z41.l0pack:=by
 refine Qn λls p h=>?_
 unfold z41.l0pack at h;split at h<;>cases h
 rename_i a b c d e g j
 exact Qs hI z41.l0sh z41.l0sh [3,4,6] [3,4,6] (d,e,j) (z41.l0_link a b c g)
theorem Qsk:Qq (ifun Tryz.f208).body=true:=by kernel_rfl
theorem z41.sound:Sn z41.pack 208:=by
 intro vs p h;unfold z41.pack at h;split at h<;>cases h
 exact Q7 (C:=z41.C) Qd Qe rfl rfl rfl (Qa z40.sound Qh) ⟨Tryz.func208,rfl,by kernel_rfl⟩ (λhI=>Qu rfl Qsk (lpY (z41.l0_sound hI) lpE) 0) rfl (z41.link _ _) (by intro v r h;unfold z41.dec at h;split at h<;>cases h;exact ⟨rfl,rfl⟩)
theorem z42.sound:Sn z42.pack 325:=by
 intro vs p h;unfold z42.pack at h;split at h<;>cases h
 exact Qi Qd Qe rfl rfl rfl rfl Qx ⟨Tryz.func325,rfl,by kernel_rfl⟩ rfl (z42.link _) z7.hdec
theorem z43.l0_sound (hI:IK Tryz.prog z43.C 6):Qm z43.C 6 291 0 0 (Ql 0 (ifun Tryz.f291).body) z43.l0sh z43.l0pack:=by
 refine Qn λls p h=>?_
 unfold z43.l0pack at h;split at h<;>cases h
 rename_i a b c d e g j k
 exact Qs hI z43.l0sh z43.l0sh [5,7] [5,7] (g,k) (z43.l0_link a b c d e j)
theorem Qum:Qq (ifun Tryz.f291).body=true:=by kernel_rfl
theorem z43.inlF:InlF Tryz.prog z43.C:=W2 (Jn Qjw Qac) (inlC Qk6 (λhI base=>Qc0 rfl rfl _ _ _) inlE)
theorem z43.hdec:Wb z91.dec z43.enc:=by
 intro v r h
 unfold z91.dec at h;split at h<;>cases h
 exact ⟨rfl,rfl⟩
theorem z43.sound:Sn z43.pack 291:=by
 intro vs p h;unfold z43.pack at h;split at h<;>cases h
 exact Y4 (C:=z43.C) Qd Qe rfl (Qa z42.sound (Qa z27.sound Qh)) z43.inlF ⟨Tryz.func291,rfl,by kernel_rfl⟩ (λhI=>Qu rfl Qum (lpY (z43.l0_sound hI) lpE) 0) rfl (z43.link _ _) z43.hdec
theorem z44.sound:Sn z44.pack 297:=by
 intro vs p h;unfold z44.pack at h;split at h<;>cases h
 exact Qi Qd Qe rfl rfl rfl rfl Qx ⟨Tryz.func297,rfl,by kernel_rfl⟩ rfl (z44.link _ _) z40.hdec
theorem z45.l0_sound (hI:IK Tryz.prog z45.C 0):Qm z45.C 0 287 0 2 (Ql 0 (ifun Tryz.f287).body) z45.l0sh z45.l0pack:=by
 refine Qn λls p h=>?_
 unfold z45.l0pack at h;split at h<;>cases h
 rename_i a b c d e g j k
 exact Qs hI z45.l0sh z45.l0sh [3,7] [3,7] (d,k) (z45.l0_link a b c e g j)
theorem z45.l0a_sound (hI:IK Tryz.prog z45.C 0):Qm z45.C 0 287 0 4 (Ql 0 (ifun Tryz.f287).body) z45.l0ash z45.l0apack:=by
 refine Qn λls p h=>?_
 unfold z45.l0apack at h;split at h<;>cases h
 rename_i a b c d e g j k m n
 exact Qs hI z45.l0ash z45.l0ash [3,9] [3,9] (d,n) (z45.l0a_link a b c e g j k m)
theorem z45.l0b3_sound (hI:IK Tryz.prog z45.C 0):Qm z45.C 0 289 0 7 (Ql 0 (ifun Tryz.f289).body) z45.l0b3sh z45.l0b3pack:=by
 refine Qn λls p h=>?_
 unfold z45.l0b3pack at h;split at h<;>cases h
 rename_i a b c d e g j k m n o q r s t u v
 exact Qs hI z45.l0b3sh z45.l0b3sh [6,7,11,14] [6,7,11,14] (j,k,q,t) (z45.l0b3_link a b c d e g m n o r s u v)
theorem z45.l0b4_sound (hI:IK Tryz.prog z45.C 0):Qm z45.C 0 290 0 7 (Ql 0 (ifun Tryz.f290).body) z45.l0b4sh z45.l0b4pack:=by
 refine Qn λls p h=>?_
 unfold z45.l0b4pack at h;split at h<;>cases h
 rename_i a b c d e g j k m n o q r s
 exact Qs hI z45.l0b4sh z45.l0b4sh [4,8,11] [4,8,11] (e,m,q) (z45.l0b4_link a b c d g j k n o r s)
theorem z45.l2_sound (hI:IK Tryz.prog z45.C 6):Qm z45.C 6 209 2 0 (Ql 2 (ifun Tryz.f209).body) z45.l2sh z45.l2pack:=by
 refine Qn λls p h=>?_
 unfold z45.l2pack at h;split at h<;>cases h
 rename_i a b c d e g j k m n o q r
 exact Qs hI z45.l2sh z45.l2sh [6,7,10] [6,7,10] (j,k,o) (z45.l2_link a b c d e g m n q r)
theorem z45.l0aa_sound (hI:IK Tryz.prog z45.C 6):Qm z45.C 6 209 0 0 (Ql 0 (ifun Tryz.f209).body) z45.l0aash z45.l0aapack:=by
 refine Qn λls p h=>?_
 unfold z45.l0aapack at h;split at h<;>cases h
 rename_i a b c d e g j k m
 exact Qs hI z45.l0aash z45.l0aash [3,6,8] [3,6,8] (d,j,m) (z45.l0aa_link a b c e g k)
theorem Qzn:Qq (ifun Tryz.f209).body=true:=by kernel_rfl
theorem Qtr:Qq (ifun Tryz.f287).body=true:=by kernel_rfl
theorem Qyi:Qq (ifun Tryz.f289).body=true:=by kernel_rfl
theorem Qy3:Qq (ifun Tryz.f290).body=true:=by kernel_rfl
theorem z45.inlF:InlF Tryz.prog z45.C:=W2 Qay (inlC ⟨Tryz.func287,rfl,by kernel_rfl⟩ (λhI base=>Qu rfl Qtr (lpY (z45.l0_sound hI) (lpY (z45.l0a_sound hI) (lpN (lpN (lpN (lpN lpE)))))) base) (inlC ⟨Tryz.func288,rfl,by kernel_rfl⟩ (λhI base=>Qc0 rfl rfl _ _ _) (inlC ⟨Tryz.func289,rfl,by kernel_rfl⟩ (λhI base=>Qu rfl Qyi (lpN (lpN (lpY (z45.l0b3_sound hI) (lpN (lpN (lpN lpE)))))) base) (inlC ⟨Tryz.func290,rfl,by kernel_rfl⟩ (λhI base=>Qu rfl Qy3 (lpN (lpN (lpN (lpY (z45.l0b4_sound hI) (lpN (lpN lpE)))))) base) inlE))))
theorem z45.sound:Sn z45.pack 209:=by
 intro vs p h;unfold z45.pack at h;split at h<;>cases h
 exact Y4 (C:=z45.C) Qd Qe rfl (Qa z39.sound (Qa z44.sound (Qa z0.sound (Qa z1.sound (Qa z40.sound (Qa z27.sound (Qa z43.sound (Qa z37.sound Qh)))))))) z45.inlF ⟨Tryz.func209,rfl,by kernel_rfl⟩ (λhI=>Qu rfl Qzn (lpN (lpN (lpN (lpN (lpY (z45.l2_sound hI) (lpY (z45.l0aa_sound hI) lpE)))))) 0) rfl (z45.link _ _) (by intro v r h;unfold z45.dec at h;split at h<;>cases h;exact ⟨rfl,rfl⟩)
theorem z46.sound:Sn z46.pack 142:=by
 intro vs p h;unfold z46.pack at h;split at h<;>cases h
 exact Qi Qd Qe rfl rfl rfl rfl (Qa z23.sound (Qa z35.sound (Qa z37.sound (Qa z41.sound (Qa z27.sound (Qa z45.sound Qh)))))) ⟨Tryz.func142,rfl,by kernel_rfl⟩ rfl (z46.link _ _) (by intro v r h;unfold z46.dec at h;split at h<;>cases h;exact ⟨rfl,rfl⟩)
theorem z47.l0_sound (hI:IK Tryz.prog z47.C 6):Qm z47.C 6 306 0 0 (Ql 0 (ifun Tryz.f306).body) z47.l0sh z47.l0pack:=by
 refine Qn λls p h=>?_
 unfold z47.l0pack at h;split at h<;>cases h
 rename_i a b c
 exact Qs hI z47.l0sh z47.l0sh [0,1] [0,1] (a,b) (z47.l0_link c)
theorem Qs8:Qq (ifun Tryz.f306).body=true:=by kernel_rfl
theorem z47.sound:Sn z47.pack 306:=by
 intro vs p h;unfold z47.pack at h;split at h<;>cases h
 exact Q7 (C:=z47.C) Qd Qe rfl rfl rfl (Qa z23.sound (Qa z46.sound Qh)) ⟨Tryz.func306,rfl,by kernel_rfl⟩ (λhI=>Qu rfl Qs8 (lpY (z47.l0_sound hI) lpE) 0) rfl (z47.link _ _) z26.hdec
theorem z48.sound:Sn z48.pack 243:=by
 intro vs p h;unfold z48.pack at h;split at h<;>cases h
 exact Qi Qd Qe rfl rfl rfl rfl (Qa z31.sound (Qa z47.sound (Qa z46.sound (Qa z27.sound (Qa z36.sound (Qa z24.sound (Qa z25.sound Qh))))))) ⟨Tryz.func243,rfl,by kernel_rfl⟩ rfl (z48.link _ _ _) z29.hdec
theorem z49.hdec:Wb z55.dec z49.enc:=by
 intro v r h
 unfold z55.dec at h;split at h<;>cases h
 exact ⟨rfl,rfl⟩
theorem z49.sound:Sn z49.pack 174:=by
 intro vs p h;unfold z49.pack at h;split at h<;>cases h
 exact Qi Qd Qe rfl rfl rfl rfl (Qa z24.sound (Qa z30.sound (Qa z31.sound (Qa z48.sound Qh)))) ⟨Tryz.func174,rfl,by kernel_rfl⟩ rfl (z49.link _ _ _ _) z49.hdec
theorem z50.l0a_sound (hI:IK Tryz.prog z50.C 0):Qm z50.C 0 223 0 4 (Ql 0 (ifun Tryz.f223).body) z50.l0ash z50.l0apack:=by
 refine Qn λls p h=>?_
 unfold z50.l0apack at h;split at h<;>cases h
 rename_i a b c d e g j k m n o
 exact Qs hI z50.l0ash z50.l0ash [3,6,9] [3,6,9] (d,j,n) (z50.l0a_link a b c e g k m o)
theorem z50.l0_sound (hI:IK Tryz.prog z50.C 6):Qm z50.C 6 161 0 0 (Ql 0 (ifun Tryz.f161).body) z50.l0sh z50.l0pack:=by
 refine Qn λls p h=>?_
 unfold z50.l0pack at h;split at h<;>cases h
 rename_i a b c d e g
 exact Qs hI z50.l0sh z50.l0sh [2,5] [2,5] (c,g) (z50.l0_link a b d e)
theorem Qti:Qq (ifun Tryz.f161).body=true:=by kernel_rfl
theorem Qwe:Qq (ifun Tryz.f223).body=true:=by kernel_rfl
theorem z50.inlF:InlF Tryz.prog z50.C:=W2 Qay (inlC ⟨Tryz.func223,rfl,by kernel_rfl⟩ (λhI base=>Qu rfl Qwe (lpY (z50.l0a_sound hI) (lpN lpE)) base) inlE)
theorem z50.sound:Sn z50.pack 161:=by
 intro vs p h;unfold z50.pack at h;split at h<;>cases h
 exact Y4 (C:=z50.C) Qd Qe rfl (Qa z44.sound (Qa z0.sound (Qa z26.sound Qh))) z50.inlF ⟨Tryz.func161,rfl,by kernel_rfl⟩ (λhI=>Qu rfl Qti (lpN (lpY (z50.l0_sound hI) lpE)) 0) rfl (z50.link _ _) z26.hdec
theorem z51.sound:Sn z51.pack 239:=by
 intro vs p h;unfold z51.pack at h;split at h<;>cases h
 exact Qi Qd Qe rfl rfl rfl rfl (Qa z50.sound (Qa z25.sound Qh)) ⟨Tryz.func239,rfl,by kernel_rfl⟩ rfl (z51.link _ _ _ _) z25.hdec
theorem z52.l0_sound (hI:IK Tryz.prog z52.C 6):Qm z52.C 6 68 0 0 (Ql 0 (ifun Tryz.f68).body) z52.l0sh z52.l0pack:=by
 refine Qn λls p h=>?_
 unfold z52.l0pack at h;split at h<;>cases h
 rename_i a b c d e g j
 exact Qs hI z52.l0sh z52.l0sh [0,2,6] [0,2,6] (a,c,j) (z52.l0_link b d e g)
theorem Qs1:Qq (ifun Tryz.f68).body=true:=by kernel_rfl
theorem z52.sound:Sn z52.pack 68:=by
 intro vs p h;unfold z52.pack at h;split at h<;>cases h
 exact Q7 (C:=z52.C) Qd Qe rfl rfl rfl (Qa z32.sound (Qa z0.sound (Qa z26.sound Qh))) ⟨Tryz.func68,rfl,by kernel_rfl⟩ (λhI=>Qu rfl Qs1 (lpY (z52.l0_sound hI) lpE) 0) rfl (z52.link _ _) z26.hdec
theorem z53.sound:Sn z53.pack 235:=by
 intro vs p h;unfold z53.pack at h;split at h<;>cases h
 exact Qi Qd Qe rfl rfl rfl rfl (Qa z27.sound (Qa z52.sound Qh)) ⟨Tryz.func235,rfl,by kernel_rfl⟩ rfl (z53.link _ _ _) z26.hdec
theorem z54.sound:Sn z54.pack 304:=by
 intro vs p h;unfold z54.pack at h;split at h<;>cases h
 exact Qi Qd Qe rfl rfl rfl rfl (Qa z53.sound (Qa z25.sound Qh)) ⟨Tryz.func304,rfl,by kernel_rfl⟩ rfl (z54.link _ _ _) z25.hdec
theorem z55.sound:Sn z55.pack 234:=by
 intro vs p h;unfold z55.pack at h;split at h<;>cases h
 exact Qi Qd Qe rfl rfl rfl rfl (Qa z54.sound (Qa z51.sound (Qa z49.sound Qh))) ⟨Tryz.func234,rfl,by kernel_rfl⟩ rfl (z55.link _ _ _ _ _ _) z49.hdec
theorem z56.sound:Sn z56.pack 124:=by
 intro vs p h;unfold z56.pack at h;split at h<;>cases h
 exact Qi Qd Qe rfl rfl rfl rfl Qx ⟨Tryz.func124,rfl,by kernel_rfl⟩ rfl (z56.link _ _) z7.hdec
theorem z57.hdec:Wb z58.dec z57.enc:=by
 intro v r h
 unfold z58.dec at h;split at h<;>cases h
 exact ⟨rfl,rfl⟩
theorem z57.sound:Sn z57.pack 159:=by
 intro vs p h;unfold z57.pack at h;split at h<;>cases h
 exact Qi Qd Qe rfl rfl rfl rfl (Qa z56.sound Qh) ⟨Tryz.func159,rfl,by kernel_rfl⟩ rfl (z57.link _ _) z57.hdec
theorem z58.sound:Sn z58.pack 92:=by
 intro vs p h;unfold z58.pack at h;split at h<;>cases h
 exact Qi Qd Qe rfl rfl rfl rfl (Qa z57.sound Qh) ⟨Tryz.func92,rfl,by kernel_rfl⟩ rfl (z58.link _ _) z57.hdec
theorem z59.l2_sound (hI:IK Tryz.prog z59.C 6):Qm z59.C 6 93 2 0 (Ql 2 (ifun Tryz.f93).body) z59.l2sh z59.l2pack:=by
 refine Qn λls p h=>?_
 unfold z59.l2pack at h;split at h<;>cases h
 rename_i a b c d e g j k
 exact Qs hI z59.l2sh z59.l2sh [3,7] [3,7] (d,k) (z59.l2_link a b c e g j)
theorem z59.l2a_sound (hI:IK Tryz.prog z59.C 6):Qm z59.C 6 93 2 0 (Ql 2 (ifun Tryz.f93).body) z59.l2ash z59.l2apack:=by
 refine Qn λls p h=>?_
 unfold z59.l2apack at h;split at h<;>cases h
 rename_i a b c d e g j k m n
 exact Qs hI z59.l2ash z59.l2ash [3,9] [3,9] (d,n) (z59.l2a_link a b c e g j k m)
theorem z59.l0_sound (hI:IK Tryz.prog z59.C 6):Qm z59.C 6 93 0 0 (Ql 0 (ifun Tryz.f93).body) z59.l0sh z59.l0pack:=by
 refine Qn λls p h=>?_
 unfold z59.l0pack at h;split at h<;>cases h
 rename_i a b c d e
 exact Qs hI z59.l0sh z59.l0sh [0,2,4] [0,2,4] (a,c,e) (z59.l0_link b d)
theorem Qra:Qq (ifun Tryz.f93).body=true:=by kernel_rfl
theorem z59.sound:Sn z59.pack 93:=by
 intro vs p h;unfold z59.pack at h;split at h<;>cases h
 exact Q7 (C:=z59.C) Qd Qe rfl rfl rfl (Qa z3.sound (Qa z27.sound (Qa z50.sound (Qa z52.sound Qh)))) ⟨Tryz.func93,rfl,by kernel_rfl⟩ (λhI=>Qu rfl Qra (lpY (z59.l2_sound hI) (lpY (z59.l2a_sound hI) (lpY (z59.l0_sound hI) lpE))) 0) rfl (z59.link _) z43.hdec
theorem z60.sound:Sn z60.pack 310:=by
 intro vs p h;unfold z60.pack at h;split at h<;>cases h
 exact Qi Qd Qe rfl rfl rfl rfl (Qa z3.sound Qh) ⟨Tryz.func310,rfl,by kernel_rfl⟩ rfl (z60.link _) z7.hdec
theorem Qrf:FunOK Tryz.prog 197 Tryz.f197 (ifun Tryz.f197).body:=⟨Tryz.func197,rfl,by kernel_rfl⟩
theorem Qvo:FunOK Tryz.prog 272 Tryz.f272 (ifun Tryz.f272).body:=⟨Tryz.func272,rfl,by kernel_rfl⟩
theorem z61.inlF:InlF Tryz.prog z61.C:=W2 Qay (inlC ⟨Tryz.func309,rfl,by kernel_rfl⟩ (λhI base=>J9 rfl _ _ _ _) (inlC ⟨Tryz.func329,rfl,by kernel_rfl⟩ (λhI base=>J9 rfl _ _ _ _) (inlC Qrf (λhI base=>J9 rfl _ _ _ _) (inlC Qvo (λhI base=>J9 rfl _ _ _ _) inlE))))
theorem z61.hdec:Wb z61.dec z61.enc:=by
 intro v r h
 unfold z61.dec at h;split at h<;>cases h
 exact ⟨rfl,rfl⟩
theorem z61.sound:Sn z61.pack 250:=by
 intro vs p h;unfold z61.pack at h;split at h<;>cases h
 exact Y4 (C:=z61.C) Qd Qe rfl (Qa z58.sound (Qa z60.sound (Qa z3.sound (Qa z4.sound (Qa z59.sound (Qa z25.sound (Qa z2.sound Qh))))))) z61.inlF ⟨Tryz.func250,rfl,by kernel_rfl⟩ (λhI=>J9 rfl _ _ _ _) rfl (z61.link _) z61.hdec
theorem z62.sound:Sn z62.pack 311:=by
 intro vs p h;unfold z62.pack at h;split at h<;>cases h
 exact Qi Qd Qe rfl rfl rfl rfl Qx ⟨Tryz.func311,rfl,by kernel_rfl⟩ rfl (z62.link _) z7.hdec
theorem z63.sound:Sn z63.pack 251:=by
 intro vs p h;unfold z63.pack at h;split at h<;>cases h
 exact Qi Qd Qe rfl rfl rfl rfl (Qa z62.sound Qh) ⟨Tryz.func251,rfl,by kernel_rfl⟩ rfl (z63.link _ _ _) z61.hdec
theorem z64.sound:Sn z64.pack 252:=by
 intro vs p h;unfold z64.pack at h;split at h<;>cases h
 exact Qi Qd Qe rfl rfl rfl rfl Qx ⟨Tryz.func252,rfl,by kernel_rfl⟩ rfl (z64.link _ _ _) z25.hdec
theorem z65.sound:Sn z65.pack 12:=by
 intro vs p h;unfold z65.pack at h;split at h<;>cases h
 exact Qi Qd Qe rfl rfl rfl rfl (Qa z52.sound (Qa z25.sound (Qa z36.sound Qh))) ⟨Tryz.func12,rfl,by kernel_rfl⟩ rfl (z65.link _ _ _ _) z25.hdec
theorem z66.sound:Sn z66.pack 132:=by
 intro vs p h;unfold z66.pack at h;split at h<;>cases h
 exact Qi Qd Qe rfl rfl rfl rfl (Qa z30.sound (Qa z65.sound Qh)) ⟨Tryz.func132,rfl,by kernel_rfl⟩ rfl (z66.link _ _ _ _) z25.hdec
theorem z67.sound:Sn z67.pack 155:=by
 intro vs p h;unfold z67.pack at h;split at h<;>cases h
 exact Qi Qd Qe rfl rfl rfl rfl (Qa z66.sound (Qa z24.sound Qh)) ⟨Tryz.func155,rfl,by kernel_rfl⟩ rfl (z67.link _ _ _ _) z8.hdec
theorem z68.l0_sound (hI:IK Tryz.prog z68.C 6):Qm z68.C 6 293 0 0 (Ql 0 (ifun Tryz.f293).body) z68.l0sh z68.l0pack:=by
 refine Qn λls p h=>?_
 unfold z68.l0pack at h;split at h<;>cases h
 rename_i a b c d
 exact Qs hI z68.l0sh z68.l0sh [0,1,3] [0,1,3] (a,b,d) (z68.l0_link c)
theorem Qwi:Qq (ifun Tryz.f293).body=true:=by kernel_rfl
theorem z68.sound:Sn z68.pack 293:=by
 intro vs p h;unfold z68.pack at h;split at h<;>cases h
 exact Q7 (C:=z68.C) Qd Qe rfl rfl rfl (Qa z27.sound (Qa z50.sound Qh)) ⟨Tryz.func293,rfl,by kernel_rfl⟩ (λhI=>Qu rfl Qwi (lpY (z68.l0_sound hI) lpE) 0) rfl (z68.link _ _) z26.hdec
theorem z69.sound:Sn z69.pack 213:=by
 intro vs p h;unfold z69.pack at h;split at h<;>cases h
 exact Qi Qd Qe rfl rfl rfl rfl (Qa z27.sound (Qa z68.sound Qh)) ⟨Tryz.func213,rfl,by kernel_rfl⟩ rfl (z69.link _) z43.hdec
theorem z70.sound:Sn z70.pack 313:=by
 intro vs p h;unfold z70.pack at h;split at h<;>cases h
 exact Qi Qd Qe rfl rfl rfl rfl (Qa z69.sound (Qa z25.sound Qh)) ⟨Tryz.func313,rfl,by kernel_rfl⟩ rfl (z70.link _) z25.hdec
theorem z71.sound:Sn z71.pack 312:=by
 intro vs p h;unfold z71.pack at h;split at h<;>cases h
 exact Qi Qd Qe rfl rfl rfl rfl (Qa z70.sound (Qa z51.sound Qh)) ⟨Tryz.func312,rfl,by kernel_rfl⟩ rfl (z71.link _ _ _ _) z25.hdec
theorem z72.sound:Sn z72.pack 253:=by
 intro vs p h;unfold z72.pack at h;split at h<;>cases h
 exact Qi Qd Qe rfl rfl rfl rfl (Qa z71.sound (Qa z67.sound Qh)) ⟨Tryz.func253,rfl,by kernel_rfl⟩ rfl (z72.link _ _ _ _ _ _) z8.hdec
theorem z73.sound:Sn z73.pack 254:=by
 intro vs p h;unfold z73.pack at h;split at h<;>cases h
 exact Qi Qd Qe rfl rfl rfl rfl Qx ⟨Tryz.func254,rfl,by kernel_rfl⟩ rfl (z73.link _ _ _) z8.hdec
theorem z74.sound:Sn z74.pack 255:=by
 intro vs p h;unfold z74.pack at h;split at h<;>cases h
 exact Qi Qd Qe rfl rfl rfl rfl (Qa z70.sound (Qa z49.sound Qh)) ⟨Tryz.func255,rfl,by kernel_rfl⟩ rfl (z74.link _ _ _) z29.hdec
theorem z75.sound:Sn z75.pack 184:=by
 intro vs p h;unfold z75.pack at h;split at h<;>cases h
 exact Qi Qd Qe rfl rfl rfl rfl (Qa z61.sound (Qa z28.sound (Qa z63.sound (Qa z64.sound (Qa z24.sound (Qa z72.sound (Qa z73.sound (Qa z74.sound (Qa z29.sound (Qa z55.sound Qh)))))))))) ⟨Tryz.func184,rfl,by kernel_rfl⟩ rfl (z75.link _) z49.hdec
theorem z76.hdec:Wb z78.dec z76.enc:=by
 intro v r h
 unfold z78.dec at h;split at h<;>cases h
 exact ⟨rfl,rfl⟩
theorem z76.sound:Sn z76.pack 27:=by
 intro vs p h;unfold z76.pack at h;split at h<;>cases h
 exact Qi Qd Qe rfl rfl rfl rfl (Qa z58.sound (Qa z59.sound (Qa z23.sound (Qa z25.sound Qh)))) ⟨Tryz.func27,rfl,by kernel_rfl⟩ rfl (z76.link _) z76.hdec
theorem z77.sound:Sn z77.pack 156:=by
 intro vs p h;unfold z77.pack at h;split at h<;>cases h
 exact Qi Qd Qe rfl rfl rfl rfl (Qa z69.sound (Qa z25.sound Qh)) ⟨Tryz.func156,rfl,by kernel_rfl⟩ rfl z77.link z25.hdec
theorem z78.sound:Sn z78.pack 89:=by
 intro vs p h;unfold z78.pack at h;split at h<;>cases h
 exact Qi Qd Qe rfl rfl rfl rfl (Qa z76.sound (Qa z24.sound (Qa z77.sound (Qa z67.sound Qh)))) ⟨Tryz.func89,rfl,by kernel_rfl⟩ rfl (z78.link _) z76.hdec
theorem z79.sound:Sn z79.pack 292:=by
 intro vs p h;unfold z79.pack at h;split at h<;>cases h
 exact Qi Qd Qe rfl rfl rfl rfl (Qa z78.sound (Qa z24.sound Qh)) ⟨Tryz.func292,rfl,by kernel_rfl⟩ rfl (z79.link _) z8.hdec
theorem z80.sound:Sn z80.pack 212:=by
 intro vs p h;unfold z80.pack at h;split at h<;>cases h
 exact Qi Qd Qe rfl rfl rfl rfl (Qa z79.sound (Qa z75.sound Qh)) ⟨Tryz.func212,rfl,by kernel_rfl⟩ rfl (z80.link _ _ _ _ _) z8.hdec
theorem z81.sound:Sn z81.pack 154:=by
 intro vs p h;unfold z81.pack at h;split at h<;>cases h
 exact Qi Qd Qe rfl rfl rfl rfl (Qa z22.sound (Qa z18.sound (Qa z80.sound Qh))) ⟨Tryz.func154,rfl,by kernel_rfl⟩ rfl (z81.link _ _ _ _ _ _ _ _) z8.hdec
theorem z82.l0_sound (hI:IK Tryz.prog z82.C 6):Qm z82.C 6 87 0 0 (Ql 0 (ifun Tryz.f87).body) z82.l0sh z82.l0pack:=by
 refine Qn λls p h=>?_
 unfold z82.l0pack at h;split at h<;>cases h
 rename_i a b c d e g j k
 exact Yt hI z82.l0sh z82.l0sh z82.l0so1 (.exit 0) [4,5,6,7] [4,5,6,7] [0,1,2,3,4] (e,g,j,k) (z82.l0_link a b c d)
theorem Qt8:Qq (ifun Tryz.f87).body=true:=by kernel_rfl
theorem z82.hdec:Wb z112.dec z82.enc:=by
 intro v r h
 unfold z112.dec at h;split at h<;>cases h
 exact ⟨rfl,rfl⟩
theorem z82.sound:Sn z82.pack 87:=by
 intro vs p h;unfold z82.pack at h;split at h<;>cases h
 exact Q7 (C:=z82.C) Qd Qe rfl rfl rfl (Qa z81.sound Qh) ⟨Tryz.func87,rfl,by kernel_rfl⟩ (λhI=>Qu rfl Qt8 (lpY (z82.l0_sound hI) lpE) 0) rfl (z82.link _) z82.hdec
theorem z83.l0_sound (hI:IK Tryz.prog z83.C 6):Qm z83.C 6 144 0 0 (Ql 0 (ifun Tryz.f144).body) z83.l0sh z83.l0pack:=by
 refine Qn λls p h=>?_
 unfold z83.l0pack at h;split at h<;>cases h
 rename_i a b c d e
 exact Qs hI z83.l0sh z83.l0sh [0,3,4] [0,3,4] (a,d,e) (z83.l0_link b c)
theorem Qrb:Qq (ifun Tryz.f144).body=true:=by kernel_rfl
theorem z83.sound:Sn z83.pack 144:=by
 intro vs p h;unfold z83.pack at h;split at h<;>cases h
 exact Q7 (C:=z83.C) Qd Qe rfl rfl rfl Qx ⟨Tryz.func144,rfl,by kernel_rfl⟩ (λhI=>Qu rfl Qrb (lpY (z83.l0_sound hI) lpE) 0) rfl (z83.link _ _) z5.hdec
theorem z84.l2_sound (hI:IK Tryz.prog z84.C 6):Qm z84.C 6 70 2 0 (Ql 2 (ifun Tryz.f70).body) z84.l2sh z84.l2pack:=by
 refine Qn λls p h=>?_
 unfold z84.l2pack at h;split at h<;>cases h
 rename_i a b c d e g j k
 exact Qs hI z84.l2sh z84.l2sh [1,4] [1,4] (b,e) (z84.l2_link a c d g j k)
theorem z84.l0_sound (hI:IK Tryz.prog z84.C 6):Qm z84.C 6 70 0 0 (Ql 0 (ifun Tryz.f70).body) z84.l0sh z84.l0pack:=by
 refine Qn λls p h=>?_
 unfold z84.l0pack at h;split at h<;>cases h
 rename_i a b c
 exact Qs hI z84.l0sh z84.l0sh [1,2] [1,2] (b,c) (z84.l0_link a)
theorem z84.l4_sound (hI:IK Tryz.prog z84.C 6):Qm z84.C 6 70 4 0 (Ql 4 (ifun Tryz.f70).body) z84.l4sh z84.l4pack:=by
 refine Qn λls p h=>?_
 unfold z84.l4pack at h;split at h<;>cases h
 rename_i a b c d
 exact Qs hI z84.l4sh z84.l4sh [1,3] [1,3] (b,d) (z84.l4_link a c)
theorem Qxc:Qq (ifun Tryz.f70).body=true:=by kernel_rfl
theorem Qui:FunOK Tryz.prog 119 Tryz.f119 (ifun Tryz.f119).body:=⟨Tryz.func119,rfl,by kernel_rfl⟩
theorem Qrx:FunOK Tryz.prog 117 Tryz.f117 (ifun Tryz.f117).body:=⟨Tryz.func117,rfl,by kernel_rfl⟩
theorem Qq2:SoundP Tryz.prog 185 (Qbr 215):=Qrg
theorem z84.inlF:InlF Tryz.prog z84.C:=W2 (Jn Qq2 Qac) (inlC Qui (λhI base=>Qc0 rfl rfl _ _ _) (inlC Qrx (λhI base=>Qc0 rfl rfl _ _ _) inlE))
theorem z84.sound:Sn z84.pack 70:=by
 intro vs p h;unfold z84.pack at h;split at h<;>cases h
 exact Y4 (C:=z84.C) Qd Qe rfl (Qa z23.sound (Qa z27.sound (Qa z46.sound (Qa z37.sound (Qa z83.sound Qh))))) z84.inlF ⟨Tryz.func70,rfl,by kernel_rfl⟩ (λhI=>Qu rfl Qxc (lpY (z84.l2_sound hI) (lpY (z84.l0_sound hI) (lpY (z84.l4_sound hI) lpE))) 0) rfl (z84.link _) z5.hdec
theorem z85.sound:Sn z85.pack 13:=by
 intro vs p h;unfold z85.pack at h;split at h<;>cases h
 exact Qi Qd Qe rfl rfl rfl rfl (Qa z84.sound Qh) ⟨Tryz.func13,rfl,by kernel_rfl⟩ rfl (z85.link _ _) z5.hdec
theorem z86.sound:Sn z86.pack 200:=by
 intro vs p h;unfold z86.pack at h;split at h<;>cases h
 exact Qi Qd Qe rfl rfl rfl rfl (Qa z51.sound (Qa z53.sound (Qa z50.sound (Qa z48.sound Qh)))) ⟨Tryz.func200,rfl,by kernel_rfl⟩ rfl (z86.link _ _ _ _ _ _) z29.hdec
theorem z87.sound:Sn z87.pack 170:=by
 intro vs p h;unfold z87.pack at h;split at h<;>cases h
 exact Qi Qd Qe rfl rfl rfl rfl (Qa z75.sound (Qa z28.sound (Qa z49.sound (Qa z86.sound Qh)))) ⟨Tryz.func170,rfl,by kernel_rfl⟩ rfl (z87.link _ _) z49.hdec
theorem z88.sound:Sn z88.pack 233:=by
 intro vs p h;unfold z88.pack at h;split at h<;>cases h
 exact Qi Qd Qe rfl rfl rfl rfl (Qa z24.sound Qh) ⟨Tryz.func233,rfl,by kernel_rfl⟩ rfl (z88.link _ _ _) z8.hdec
theorem z89.sound:Sn z89.pack 236:=by
 intro vs p h;unfold z89.pack at h;split at h<;>cases h
 exact Qi Qd Qe rfl rfl rfl rfl Qx ⟨Tryz.func236,rfl,by kernel_rfl⟩ rfl (z89.link _ _ _) z25.hdec
theorem z90.sound:Sn z90.pack 305:=by
 intro vs p h;unfold z90.pack at h;split at h<;>cases h
 exact Qi Qd Qe rfl rfl rfl rfl (Qa z23.sound (Qa z38.sound Qh)) ⟨Tryz.func305,rfl,by kernel_rfl⟩ rfl (z90.link _) z8.hdec
theorem z91.sound:Sn z91.pack 238:=by
 intro vs p h;unfold z91.pack at h;split at h<;>cases h
 exact Qi Qd Qe rfl rfl rfl rfl (Qa z90.sound (Qa z68.sound Qh)) ⟨Tryz.func238,rfl,by kernel_rfl⟩ rfl (z91.link _ _) z43.hdec
theorem z92.sound:Sn z92.pack 240:=by
 intro vs p h;unfold z92.pack at h;split at h<;>cases h
 exact Qi Qd Qe rfl rfl rfl rfl (Qa z25.sound Qh) ⟨Tryz.func240,rfl,by kernel_rfl⟩ rfl (z92.link _) z25.hdec
theorem z93.sound:Sn z93.pack 171:=by
 intro vs p h;unfold z93.pack at h;split at h<;>cases h
 exact Qi Qd Qe rfl rfl rfl rfl (Qa z88.sound (Qa z28.sound (Qa z29.sound (Qa z55.sound (Qa z53.sound (Qa z89.sound (Qa z31.sound (Qa z52.sound (Qa z91.sound (Qa z36.sound (Qa z51.sound (Qa z92.sound (Qa z50.sound (Qa z49.sound Qh)))))))))))))) ⟨Tryz.func171,rfl,by kernel_rfl⟩ rfl (z93.link _ _ _ _ _ _ _) z49.hdec
theorem z94.sound:Sn z94.pack 241:=by
 intro vs p h;unfold z94.pack at h;split at h<;>cases h
 exact Qi Qd Qe rfl rfl rfl rfl Qx ⟨Tryz.func241,rfl,by kernel_rfl⟩ rfl (z94.link _) z7.hdec
theorem z95.sound:Sn z95.pack 242:=by
 intro vs p h;unfold z95.pack at h;split at h<;>cases h
 exact Qi Qd Qe rfl rfl rfl rfl (Qa z52.sound (Qa z35.sound (Qa z37.sound Qh))) ⟨Tryz.func242,rfl,by kernel_rfl⟩ rfl (z95.link _ _ _ _) z7.hdec
theorem z96.sound:Sn z96.pack 173:=by
 intro vs p h;unfold z96.pack at h;split at h<;>cases h
 exact Qi Qd Qe rfl rfl rfl rfl (Qa z94.sound (Qa z89.sound (Qa z31.sound (Qa z53.sound (Qa z46.sound (Qa z23.sound (Qa z95.sound (Qa z27.sound (Qa z52.sound (Qa z88.sound (Qa z25.sound Qh))))))))))) ⟨Tryz.func173,rfl,by kernel_rfl⟩ rfl (z96.link _ _ _ _) z76.hdec
theorem z97.sound:Sn z97.pack 105:=by
 intro vs p h;unfold z97.pack at h;split at h<;>cases h
 exact Qi Qd Qe rfl rfl rfl rfl (Qa z87.sound (Qa z24.sound (Qa z29.sound (Qa z93.sound (Qa z96.sound Qh))))) ⟨Tryz.func105,rfl,by kernel_rfl⟩ rfl (z97.link _ _ _ _ _ _) z76.hdec
theorem z98.sound:Sn z98.pack 106:=by
 intro vs p h;unfold z98.pack at h;split at h<;>cases h
 exact Qi Qd Qe rfl rfl rfl rfl (Qa z24.sound (Qa z28.sound (Qa z49.sound (Qa z96.sound Qh)))) ⟨Tryz.func106,rfl,by kernel_rfl⟩ rfl (z98.link _ _ _ _) z76.hdec
theorem z99.sound:Sn z99.pack 31:=by
 intro vs p h;unfold z99.pack at h;split at h<;>cases h
 exact Qi Qd Qe rfl rfl rfl rfl (Qa z97.sound (Qa z98.sound Qh)) ⟨Tryz.func31,rfl,by kernel_rfl⟩ rfl (z99.link _ _ _ _ _ _ _ _ _ _ _ _ _ _) z76.hdec
theorem Qsb:SoundP Tryz.prog 41 (Jx (.recs true 8 []) 107 80):=Qnq (C:=tabC) Qd (f:=Tryz.f41) (t:=104) ⟨Tryz.func41,rfl,by kernel_rfl⟩ rfl (by decide) (by kernel_rfl) (by kernel_rfl) (by kernel_rfl) (by decide) (by kernel_rfl) rfl rfl (by kernel_rfl)
theorem z100.inlF:InlF Tryz.prog z100.C:=W2 (Jn Qsb Qac) inlN
theorem z100.sound:Sn z100.pack 42:=by
 intro vs p h;unfold z100.pack at h;split at h<;>cases h
 exact Y4 (C:=z100.C) Qd Qe rfl Qx z100.inlF ⟨Tryz.func42,rfl,by kernel_rfl⟩ (λhI=>J9 rfl _ _ _ _) rfl (z100.link _ _ _ _ _ _) (by intro v r h;unfold z100.dec at h;split at h<;>cases h;exact ⟨rfl,rfl⟩)
theorem z101.inlF:InlF Tryz.prog z101.C:=W2 Qay inlN
theorem z101.sound:SoundP Tryz.prog 157 (subP 178 81 0 z101.pk):=by
 refine Qho Qd Qe rfl (Qa z78.sound (Qa z67.sound (Qa z66.sound (Qa z99.sound (Qa z85.sound (Qa z100.sound Qh)))))) z101.inlF ⟨Tryz.func157,rfl,by kernel_rfl⟩ rfl λcs ct rest p h=>?_
 unfold z101.pk at h;split at h<;>cases h
 exact ⟨_,_,_,z101.dec,rfl,rfl,rfl,z101.link _ _ _ _ _ _ _ _ _ _ _ _ _ _ _ _ _ _ _ _ _ _ _,λv cs' ct' r h=>by unfold z101.dec at h;split at h<;>cases h;exact ⟨rfl,rfl,rfl,rfl⟩⟩
theorem z102.inlF:InlF Tryz.prog z102.C:=W2 Qay inlN
theorem z102.sound:SoundP Tryz.prog 215 (subP 178 81 0 z102.pk):=by
 refine Qho Qd Qe rfl (Qa z66.sound (Qa z67.sound (Qa z24.sound Qh))) z102.inlF ⟨Tryz.func215,rfl,by kernel_rfl⟩ rfl λcs ct rest p h=>?_
 unfold z102.pk at h;split at h<;>cases h
 exact ⟨_,_,_,z102.dec,rfl,rfl,rfl,z102.link _ _ _ _ _ _ _ _ _ _ _ _ _ _ _ _ _ _ _,λv cs' ct' r h=>by unfold z102.dec at h;split at h<;>cases h;exact ⟨rfl,rfl,rfl,rfl⟩⟩
theorem z103.l0_sound (hI:IK Tryz.prog z103.C 6):Qm z103.C 6 45 0 0 (Ql 0 (ifun Tryz.f45).body) z103.l0sh z103.l0pack:=by
 refine Qn λls p h=>?_
 unfold z103.l0pack at h;split at h<;>cases h
 rename_i a b c d e g j k m n o q r
 exact Yt hI z103.l0sh z103.l0sh z103.l0so1 (.exit 0) [2,3,4,5,6,7,8,9,12] [2,3,4,5,6,7,8,9,12] [0] (c,d,e,g,j,k,m,n,r) (z103.l0_link a b o q)
theorem z103.l0a_sound (hI:IK Tryz.prog z103.C 6):Qm z103.C 6 45 0 0 (Ql 0 (ifun Tryz.f45).body) z103.l0ash z103.l0apack:=by
 refine Qn λls p h=>?_
 unfold z103.l0apack at h;split at h<;>cases h
 rename_i a b c d e g j k m n o q r
 exact Yt hI z103.l0ash z103.l0ash z103.l0aso1 (.exit 0) [2,3,4,5,6,7,8,9,12] [2,3,4,5,6,7,8,9,12] [0] (c,d,e,g,j,k,m,n,r) (z103.l0a_link a b o q)
theorem Qux:Qq (ifun Tryz.f45).body=true:=by kernel_rfl
theorem z103.inlF:InlF Tryz.prog z103.C:=W2 Qay (inlC ⟨Tryz.func116,rfl,by kernel_rfl⟩ (λhI base=>Qc0 rfl rfl _ _ _) inlE)
theorem z103.sound:Sn z103.pack 45:=by
 intro vs p h;unfold z103.pack at h;split at h<;>cases h
 exact Y4 (C:=z103.C) Qd Qe rfl (Qa z22.sound (Qa z18.sound (Qa z78.sound (Qa z75.sound Qh)))) z103.inlF ⟨Tryz.func45,rfl,by kernel_rfl⟩ (λhI=>Qu rfl Qux (lpY (z103.l0_sound hI) (lpY (z103.l0a_sound hI) lpE)) 0) rfl (z103.link _) z8.hdec
theorem z104.sound:Sn z104.pack 278:=by
 intro vs p h;unfold z104.pack at h;split at h<;>cases h
 exact Qi Qd Qe rfl rfl rfl rfl Qx ⟨Tryz.func278,rfl,by kernel_rfl⟩ rfl (z104.link _) z7.hdec
theorem z105.hdec:Wb z105.dec z105.enc:=by
 intro v r h
 unfold z105.dec at h;split at h<;>cases h
 exact ⟨rfl,rfl⟩
theorem z105.sound:Sn z105.pack 334:=by
 intro vs p h;unfold z105.pack at h;split at h<;>cases h
 exact Qi Qd Qe rfl rfl rfl rfl Qx ⟨Tryz.func334,rfl,by kernel_rfl⟩ rfl z105.link z105.hdec
theorem z106.sound:Sn z106.pack 320:=by
 intro vs p h;unfold z106.pack at h;split at h<;>cases h
 exact Qi Qd Qe rfl rfl rfl rfl (Qa z104.sound (Qa z105.sound Qh)) ⟨Tryz.func320,rfl,by kernel_rfl⟩ rfl (z106.link _) z5.hdec
theorem z107.sound:Sn z107.pack 326:=by
 intro vs p h;unfold z107.pack at h;split at h<;>cases h
 exact Qi Qd Qe rfl rfl rfl rfl (Qa z106.sound Qh) ⟨Tryz.func326,rfl,by kernel_rfl⟩ rfl (z107.link _) z7.hdec
theorem z108.sound:Sn z108.pack 280:=by
 intro vs p h;unfold z108.pack at h;split at h<;>cases h
 exact Qi Qd Qe rfl rfl rfl rfl (Qa z28.sound (Qa z49.sound Qh)) ⟨Tryz.func280,rfl,by kernel_rfl⟩ rfl (z108.link _ _) z29.hdec
theorem z109.sound:Sn z109.pack 279:=by
 intro vs p h;unfold z109.pack at h;split at h<;>cases h
 exact Qi Qd Qe rfl rfl rfl rfl (Qa z108.sound Qh) ⟨Tryz.func279,rfl,by kernel_rfl⟩ rfl (z109.link _ _ _ _ _ _) z29.hdec
theorem z110.sound:Sn z110.pack 182:=by
 intro vs p h;unfold z110.pack at h;split at h<;>cases h
 exact Qi Qd Qe rfl rfl rfl rfl Qx ⟨Tryz.func182,rfl,by kernel_rfl⟩ rfl (z110.link _) z8.hdec
theorem z111.l0_sound (hI:IK Tryz.prog z111.C 6):Qm z111.C 6 114 0 0 (Ql 0 (ifun Tryz.f114).body) z111.l0sh z111.l0pack:=by
 refine Qn λls p h=>?_
 unfold z111.l0pack at h;split at h<;>cases h
 rename_i a b c d e g j
 exact Qs hI z111.l0sh z111.l0sh [2,3] [2,3] (c,d) (z111.l0_link a b e g j)
theorem Qq4:Qq (ifun Tryz.f114).body=true:=by kernel_rfl
theorem z111.sound:Sn z111.pack 114:=by
 intro vs p h;unfold z111.pack at h;split at h<;>cases h
 exact Q7 (C:=z111.C) Qd Qe rfl rfl rfl (Qa z22.sound (Qa z110.sound (Qa z21.sound Qh))) ⟨Tryz.func114,rfl,by kernel_rfl⟩ (λhI=>Qu rfl Qq4 (lpY (z111.l0_sound hI) lpE) 0) rfl (z111.link _ _ _) z82.hdec
theorem z112.sound:Sn z112.pack 39:=by
 intro vs p h;unfold z112.pack at h;split at h<;>cases h
 exact Qi Qd Qe rfl rfl rfl rfl (Qa z111.sound Qh) ⟨Tryz.func39,rfl,by kernel_rfl⟩ rfl (z112.link _ _ _ _ _ _) z82.hdec
theorem z113.sound:Sn z113.pack 281:=by
 intro vs p h;unfold z113.pack at h;split at h<;>cases h
 exact Qi Qd Qe rfl rfl rfl rfl (Qa z112.sound Qh) ⟨Tryz.func281,rfl,by kernel_rfl⟩ rfl (z113.link _ _ _ _ _ _) z8.hdec
theorem z114.sound:Sn z114.pack 322:=by
 intro vs p h;unfold z114.pack at h;split at h<;>cases h
 exact Qi Qd Qe rfl rfl rfl rfl (Qa z20.sound Qh) ⟨Tryz.func322,rfl,by kernel_rfl⟩ rfl (z114.link _) z8.hdec
theorem z115.sound:Sn z115.pack 323:=by
 intro vs p h;unfold z115.pack at h;split at h<;>cases h
 exact Qi Qd Qe rfl rfl rfl rfl (Qa z54.sound (Qa z51.sound (Qa z65.sound (Qa z53.sound (Qa z50.sound (Qa z48.sound Qh)))))) ⟨Tryz.func323,rfl,by kernel_rfl⟩ rfl (z115.link _ _ _ _ _ _) z29.hdec
theorem z116.sound:Sn z116.pack 282:=by
 intro vs p h;unfold z116.pack at h;split at h<;>cases h
 exact Qi Qd Qe rfl rfl rfl rfl (Qa z113.sound (Qa z114.sound (Qa z108.sound (Qa z115.sound Qh)))) ⟨Tryz.func282,rfl,by kernel_rfl⟩ rfl (z116.link _ _ _ _ _ _) z29.hdec
theorem z117.sound:Sn z117.pack 199:=by
 intro vs p h;unfold z117.pack at h;split at h<;>cases h
 exact Qi Qd Qe rfl rfl rfl rfl (Qa z104.sound (Qa z22.sound (Qa z18.sound (Qa z109.sound (Qa z113.sound (Qa z108.sound (Qa z116.sound Qh))))))) ⟨Tryz.func199,rfl,by kernel_rfl⟩ rfl (z117.link _ _ _ _ _ _ _) z49.hdec
theorem z118.sound:Sn z118.pack 336:=by
 intro vs p h;unfold z118.pack at h;split at h<;>cases h
 exact Qi Qd Qe rfl rfl rfl rfl (Qa z18.sound Qh) ⟨Tryz.func336,rfl,by kernel_rfl⟩ rfl (z118.link _ _ _ _ _ _) z14.hdec
theorem z119.l0_sound (hI:IK Tryz.prog z119.C 6):Qm z119.C 6 327 0 0 (Ql 0 (ifun Tryz.f327).body) z119.l0sh z119.l0pack:=by
 refine Qn λls p h=>?_
 unfold z119.l0pack at h;split at h<;>cases h
 rename_i a b c d e g j k m n o q r
 exact Qs hI z119.l0sh z119.l0sh [3,10,11,12] [3,10,11,12] (d,o,q,r) (z119.l0_link a b c e g j k m n)
theorem Qzr:Qq (ifun Tryz.f327).body=true:=by kernel_rfl
theorem z119.sound:Sn z119.pack 327:=by
 intro vs p h;unfold z119.pack at h;split at h<;>cases h
 exact Q7 (C:=z119.C) Qd Qe rfl rfl rfl (Qa z18.sound (Qa z78.sound (Qa z75.sound (Qa z118.sound (Qa z117.sound (Qa z29.sound (Qa z86.sound (Qa z115.sound Qh)))))))) ⟨Tryz.func327,rfl,by kernel_rfl⟩ (λhI=>Qu rfl Qzr (lpY (z119.l0_sound hI) lpE) 0) rfl (z119.link _ _ _ _ _) z29.hdec
theorem z120.sound:Sn z120.pack 294:=by
 intro vs p h;unfold z120.pack at h;split at h<;>cases h
 exact Qi Qd Qe rfl rfl rfl rfl (Qa z103.sound (Qa z22.sound (Qa z107.sound (Qa z119.sound Qh)))) ⟨Tryz.func294,rfl,by kernel_rfl⟩ rfl (z120.link _ _ _ _ _) z49.hdec
theorem z121.sound:Sn z121.pack 214:=by
 intro vs p h;unfold z121.pack at h;split at h<;>cases h
 exact Qi Qd Qe rfl rfl rfl rfl (Qa z120.sound (Qa z96.sound Qh)) ⟨Tryz.func214,rfl,by kernel_rfl⟩ rfl (z121.link _ _ _ _ _ _) z76.hdec
theorem z122.inlF:InlF Tryz.prog z122.C:=W2 (Jn z102.sound Qac) inlN
theorem z122.sound:SoundP Tryz.prog 158 (subP 178 81 1 z122.pk):=by
 refine Qho Qd Qe rfl (Qa z121.sound (Qa z66.sound (Qa z85.sound (Qa z65.sound Qh)))) z122.inlF ⟨Tryz.func158,rfl,by kernel_rfl⟩ rfl λcs ct rest p h=>?_
 unfold z122.pk at h;split at h<;>cases h
 exact ⟨_,_,_,z122.dec,rfl,rfl,rfl,z122.link _ _ _ _ _ _ _ _ _ _ _ _ _ _ _ _ _ _ _ _ _ _ _ _,λv cs' ct' r h=>by unfold z122.dec at h;split at h<;>cases h;exact ⟨rfl,rfl,rfl,rfl⟩⟩
theorem z123.sound:Sn z123.pack 333:=by
 intro vs p h;unfold z123.pack at h;split at h<;>cases h
 exact Qi Qd Qe rfl rfl rfl rfl Qx ⟨Tryz.func333,rfl,by kernel_rfl⟩ rfl z123.link z105.hdec
theorem z124.sound:Sn z124.pack 319:=by
 intro vs p h;unfold z124.pack at h;split at h<;>cases h
 exact Qi Qd Qe rfl rfl rfl rfl (Qa z123.sound Qh) ⟨Tryz.func319,rfl,by kernel_rfl⟩ rfl (z124.link _) z5.hdec
theorem z125.sound:Sn z125.pack 335:=by
 intro vs p h;unfold z125.pack at h;split at h<;>cases h
 exact Qi Qd Qe rfl rfl rfl rfl Qx ⟨Tryz.func335,rfl,by kernel_rfl⟩ rfl z125.link z105.hdec
theorem z126.sound:Sn z126.pack 321:=by
 intro vs p h;unfold z126.pack at h;split at h<;>cases h
 exact Qi Qd Qe rfl rfl rfl rfl (Qa z94.sound (Qa z125.sound Qh)) ⟨Tryz.func321,rfl,by kernel_rfl⟩ rfl (z126.link _) z5.hdec
theorem z127.sound:Sn z127.pack 276:=by
 intro vs p h;unfold z127.pack at h;split at h<;>cases h
 exact Qi Qd Qe rfl rfl rfl rfl (Qa z124.sound (Qa z106.sound (Qa z126.sound Qh))) ⟨Tryz.func276,rfl,by kernel_rfl⟩ rfl (z127.link _ _ _ _ _ _ _ _ _ _) z7.hdec
theorem z128.sound:Sn z128.pack 277:=by
 intro vs p h;unfold z128.pack at h;split at h<;>cases h
 exact Qi Qd Qe rfl rfl rfl rfl (Qa z22.sound (Qa z21.sound Qh)) ⟨Tryz.func277,rfl,by kernel_rfl⟩ rfl (z128.link _ _ _ _) (by intro v r h;unfold z128.dec at h;split at h<;>cases h;exact ⟨rfl,rfl⟩)
theorem z129.sound:Sn z129.pack 198:=by
 intro vs p h;unfold z129.pack at h;split at h<;>cases h
 exact Qi Qd Qe rfl rfl rfl rfl (Qa z78.sound (Qa z24.sound (Qa z75.sound (Qa z127.sound (Qa z128.sound Qh))))) ⟨Tryz.func198,rfl,by kernel_rfl⟩ rfl (z129.link _ _ _ _ _ _ _ _ _ _) z8.hdec
theorem z130.l0_sound (hI:IK Tryz.prog z130.C 6):Qm z130.C 6 211 0 0 (Ql 0 (ifun Tryz.f211).body) z130.l0sh z130.l0pack:=by
 refine Qn λls p h=>?_
 unfold z130.l0pack at h;split at h<;>cases h
 rename_i a b c d e g j k m
 exact Yt hI z130.l0sh z130.l0sh z130.l0so1 (.exit 0) [3,8] [3,8] [0,1,6] (d,m) (z130.l0_link a b c e g j k)
theorem Qwn:Qq (ifun Tryz.f211).body=true:=by kernel_rfl
theorem z130.hdec:Wb z131.dec z130.enc:=by
 intro v r h
 unfold z131.dec at h;split at h<;>cases h
 exact ⟨rfl,rfl⟩
theorem z130.sound:Sn z130.pack 211:=by
 intro vs p h;unfold z130.pack at h;split at h<;>cases h
 exact Q7 (C:=z130.C) Qd Qe rfl rfl rfl (Qa z22.sound (Qa z128.sound Qh)) ⟨Tryz.func211,rfl,by kernel_rfl⟩ (λhI=>Qu rfl Qwn (lpY (z130.l0_sound hI) lpE) 0) rfl (z130.link _ _ _ _ _) z130.hdec
theorem z131.sound:Sn z131.pack 153:=by
 intro vs p h;unfold z131.pack at h;split at h<;>cases h
 exact Qi Qd Qe rfl rfl rfl rfl (Qa z129.sound (Qa z130.sound Qh)) ⟨Tryz.func153,rfl,by kernel_rfl⟩ rfl (z131.link _ _ _ _ _ _ _ _ _ _) z130.hdec
theorem z132.l0_sound (hI:IK Tryz.prog z132.C 6):Qm z132.C 6 86 0 0 (Ql 0 (ifun Tryz.f86).body) z132.l0sh z132.l0pack:=by
 refine Qn λls p h=>?_
 unfold z132.l0pack at h;split at h<;>cases h
 rename_i a b c d e g j k m
 exact Qs hI z132.l0sh z132.l0sh [3,5,6,7,8] [3,5,6,7,8] (d,g,j,k,m) (z132.l0_link a b c e)
theorem Qx8:Qq (ifun Tryz.f86).body=true:=by kernel_rfl
theorem z132.sound:Sn z132.pack 86:=by
 intro vs p h;unfold z132.pack at h;split at h<;>cases h
 exact Q7 (C:=z132.C) Qd Qe rfl rfl rfl (Qa z131.sound Qh) ⟨Tryz.func86,rfl,by kernel_rfl⟩ (λhI=>Qu rfl Qx8 (lpY (z132.l0_sound hI) lpE) 0) rfl (z132.link _ _ _ _ _ _ _ _ _ _) (by intro v r h;unfold z132.dec at h;split at h<;>cases h;exact ⟨rfl,rfl⟩)
theorem z133.l0_sound (hI:IK Tryz.prog z133.C 6):Qm z133.C 6 88 0 0 (Ql 0 (ifun Tryz.f88).body) z133.l0sh z133.l0pack:=by
 refine Qn λls p h=>?_
 unfold z133.l0pack at h;split at h<;>cases h
 rename_i a b c d e g j k m n o q r s t u v w
 exact Yt hI z133.l0sh z133.l0sh z133.l0so1 (.exit 0) [4] [4] [0,1] e (z133.l0_link a b c d g j k m n o q r s t u v w)
theorem Qx2:Qq (ifun Tryz.f88).body=true:=by kernel_rfl
theorem z133.sound:Sn z133.pack 88:=by
 intro vs p h;unfold z133.pack at h;split at h<;>cases h
 exact Q7 (C:=z133.C) Qd Qe rfl rfl rfl (Qa z18.sound Qh) ⟨Tryz.func88,rfl,by kernel_rfl⟩ (λhI=>Qu rfl Qx2 (lpY (z133.l0_sound hI) lpE) 0) rfl (z133.link _ _ _ _ _ _ _ _ _ _ _ _ _ _) z82.hdec
set_option maxHeartbeats 2000000 in
theorem z134.l0a_sound (hI:IK Tryz.prog z134.C 1):Qm z134.C 1 90 0 6 (Ql 0 (ifun Tryz.f90).body) z134.l0ash z134.l0apack:=by
 refine Qn λls p h=>?_
 unfold z134.l0apack at h;split at h<;>cases h
 rename_i a b c d e g j k m n o q r s t u v w x y z A B D E G H I J K L M N O P Q S
 exact Yt hI z134.l0ash z134.l0ash z134.l0aso1 (.exit 0) [3,4,7,9,10,11,12,13,14,15,16,17,18,19,20,21,22,23,24] [3,4,7,9,10,11,12,13,14,15,16,17,18,19,20,21,22,23,24] [0,1,3,4,5,6,7,8,9,10,11,12,13,14,15,16,17,18] (d,e,k,n,o,q,r,s,t,u,v,w,x,y,z,A,B,D,E) (z134.l0a_link a b c g j m G H I J K L M N O P Q S)
theorem z134.l0_sound (hI:IK Tryz.prog z134.C 6):Qm z134.C 6 25 0 0 (Ql 0 (ifun Tryz.f25).body) z134.l0sh z134.l0pack:=by
 refine Qn λls p h=>?_
 unfold z134.l0pack at h;split at h<;>cases h
 rename_i a b c d e g j k m n o q r s t u v w x y z A B D E
 exact Yt hI z134.l0sh z134.l0sh z134.l0so1 (.exit 0) [4,7,9,10,11,12,13,14,15,16,17,18,19,20,21,22,23,24] [4,7,9,10,11,12,13,14,15,16,17,18,19,20,21,22,23,24] [0,1,2,4,5,6,7,8,9,10,11,12,13,14,15,16,17,18,19] (e,k,n,o,q,r,s,t,u,v,w,x,y,z,A,B,D,E) (z134.l0_link a b c d g j m)
theorem Qu8:Qq (ifun Tryz.f25).body=true:=by kernel_rfl
theorem Qsv:Qq (ifun Tryz.f90).body=true:=by kernel_rfl
theorem z134.inlF:InlF Tryz.prog z134.C:=W2 (Jn z101.sound (Jn z122.sound Qac)) (inlC ⟨Tryz.func90,rfl,by kernel_rfl⟩ (λhI base=>Qu rfl Qsv (lpY (z134.l0a_sound hI) (lpN lpE)) base) inlE)
theorem z134.sound:Sn z134.pack 25:=by
 intro vs p h;unfold z134.pack at h;split at h<;>cases h
 exact Y4 (C:=z134.C) Qd Qe rfl (Qa z132.sound (Qa z82.sound (Qa z133.sound (Qa z78.sound (Qa z99.sound (Qa z85.sound (Qa z18.sound Qh))))))) z134.inlF ⟨Tryz.func25,rfl,by kernel_rfl⟩ (λhI=>Qu rfl Qu8 (lpN (lpY (z134.l0_sound hI) lpE)) 0) rfl (z134.link _ _ _ _ _ _ _ _ _ _ _) (by intro v r h;unfold z134.dec at h;split at h<;>cases h;exact ⟨rfl,rfl⟩)
theorem z135.hdec:Wb z142.dec z135.enc:=by
 intro v r h
 unfold z142.dec at h;split at h<;>cases h
 exact ⟨rfl,rfl⟩
theorem z135.sound:Sn z135.pack 91:=by
 intro vs p h;unfold z135.pack at h;split at h<;>cases h
 exact Qi Qd Qe rfl rfl rfl rfl Qx ⟨Tryz.func91,rfl,by kernel_rfl⟩ rfl z135.link z135.hdec
theorem z136.sound:Sn z136.pack 26:=by
 intro vs p h;unfold z136.pack at h;split at h<;>cases h
 exact Qi Qd Qe rfl rfl rfl rfl (Qa z135.sound (Qa z134.sound (Qa z28.sound (Qa z99.sound (Qa z85.sound Qh))))) ⟨Tryz.func26,rfl,by kernel_rfl⟩ rfl z136.link z7.hdec
theorem z137.sound:Sn z137.pack 179:=by
 intro vs p h;unfold z137.pack at h;split at h<;>cases h
 exact Qi Qd Qe rfl rfl rfl rfl Qx ⟨Tryz.func179,rfl,by kernel_rfl⟩ rfl (z137.link _ _) z8.hdec
theorem z138.l0_sound (hI:IK Tryz.prog z138.C 6):Qm z138.C 6 180 0 0 (Ql 0 (ifun Tryz.f180).body) z138.l0sh z138.l0pack:=by
 refine Qn λls p h=>?_
 unfold z138.l0pack at h;split at h<;>cases h
 rename_i a b c
 exact Qs hI z138.l0sh z138.l0sh [1] [1] b (z138.l0_link a c)
theorem Qs0:Qq (ifun Tryz.f180).body=true:=by kernel_rfl
theorem z138.sound:Sn z138.pack 180:=by
 intro vs p h;unfold z138.pack at h;split at h<;>cases h
 exact Q7 (C:=z138.C) Qd Qe rfl rfl rfl Qx ⟨Tryz.func180,rfl,by kernel_rfl⟩ (λhI=>Qu rfl Qs0 (lpY (z138.l0_sound hI) lpE) 0) rfl (z138.link _) z11.hdec
theorem z139.l2_sound (hI:IK Tryz.prog z139.C 6):Qm z139.C 6 112 2 0 (Ql 2 (ifun Tryz.f112).body) z139.l2sh z139.l2pack:=by
 refine Qn λls p h=>?_
 unfold z139.l2pack at h;split at h<;>cases h
 rename_i a b c d e g j
 exact Qs hI z139.l2sh z139.l2sh [3,4,6] [3,4,6] (d,e,j) (z139.l2_link a b c g)
theorem z139.l0_sound (hI:IK Tryz.prog z139.C 6):Qm z139.C 6 112 0 0 (Ql 0 (ifun Tryz.f112).body) z139.l0sh z139.l0pack:=by
 refine Qn λls p h=>?_
 unfold z139.l0pack at h;split at h<;>cases h
 rename_i a b c d e
 exact Qs hI z139.l0sh z139.l0sh [2,4] [2,4] (c,e) (z139.l0_link a b d)
theorem Qy4:Qq (ifun Tryz.f112).body=true:=by kernel_rfl
theorem z139.sound:Sn z139.pack 112:=by
 intro vs p h;unfold z139.pack at h;split at h<;>cases h
 exact Q7 (C:=z139.C) Qd Qe rfl rfl rfl (Qa z137.sound (Qa z138.sound Qh)) ⟨Tryz.func112,rfl,by kernel_rfl⟩ (λhI=>Qu rfl Qy4 (lpY (z139.l2_sound hI) (lpY (z139.l0_sound hI) lpE)) 0) rfl (z139.link _ _) z11.hdec
theorem z140.sound:Sn z140.pack 103:=by
 intro vs p h;unfold z140.pack at h;split at h<;>cases h
 exact Qi Qd Qe rfl rfl rfl rfl (Qa z139.sound (Qa z10.sound Qh)) ⟨Tryz.func103,rfl,by kernel_rfl⟩ rfl (z140.link _ _ _ _) z10.hdec
theorem z141.l0_sound (hI:IK Tryz.prog z141.C 6):Qm z141.C 6 104 0 0 (Ql 0 (ifun Tryz.f104).body) z141.l0sh z141.l0pack:=by
 refine Qn λls p h=>?_
 unfold z141.l0pack at h;split at h<;>cases h
 rename_i a b c d e
 exact Qs hI z141.l0sh z141.l0sh [1] [1] b (z141.l0_link a c d e)
theorem Qxx:Qq (ifun Tryz.f104).body=true:=by kernel_rfl
theorem z141.sound:Sn z141.pack 104:=by
 intro vs p h;unfold z141.pack at h;split at h<;>cases h
 exact Q7 (C:=z141.C) Qd Qe rfl rfl rfl (Qa z5.sound Qh) ⟨Tryz.func104,rfl,by kernel_rfl⟩ (λhI=>Qu rfl Qxx (lpY (z141.l0_sound hI) lpE) 0) rfl (z141.link _ _ _) z5.hdec
theorem z142.sound:Sn z142.pack 30:=by
 intro vs p h;unfold z142.pack at h;split at h<;>cases h
 exact Qi Qd Qe rfl rfl rfl rfl (Qa z14.sound (Qa z12.sound (Qa z140.sound (Qa z6.sound (Qa z141.sound Qh))))) ⟨Tryz.func30,rfl,by kernel_rfl⟩ rfl (z142.link _ _ _ _ _ _ _ _ _ _ _ _ _) z135.hdec
theorem z143.sound:Sn z143.pack 85:=by
 intro vs p h;unfold z143.pack at h;split at h<;>cases h
 exact Qi Qd Qe rfl rfl rfl rfl Qx ⟨Tryz.func85,rfl,by kernel_rfl⟩ rfl (z143.link _ _ _ _ _) z7.hdec
set_option maxHeartbeats 2000000 in
theorem z144.l0_sound (hI:IK Tryz.prog z144.C 0):Qm z144.C 0 152 0 6 (Ql 0 (ifun Tryz.f152).body) z144.l0sh z144.l0pack:=by
 refine Qn λls p h=>?_
 unfold z144.l0pack at h;split at h<;>cases h
 rename_i a b c d e g j k m n o q r s t u v w x y z A B D E G H I J K L M N O P Q S U W Y Z a0 a1 a2 a3
 exact Yt hI z144.l0sh z144.l0sh z144.l0so1 (.exit 0) [2] [2] [0] c (z144.l0_link a b d e g j k m n o q r s t u v w x y z A B D E G H I J K L M N O P Q S U W Y Z a0 a1 a2 a3)
set_option maxHeartbeats 2000000 in
theorem z144.l0a_sound (hI:IK Tryz.prog z144.C 1):Qm z144.C 1 84 0 5 (Ql 0 (ifun Tryz.f84).body) z144.l0ash z144.l0apack:=by
 refine Qn λls p h=>?_
 unfold z144.l0apack at h;split at h<;>cases h
 rename_i a b c d e g j k m n o q r s t u v w x y z A B D E G H I J K L M N O P Q S U W Y Z a0 a1 a2
 exact Qs hI z144.l0ash z144.l0ash [0,1,42] [0,1,42] (a,b,a1) (z144.l0a_link c d e g j k m n o q r s t u v w x y z A B D E G H I J K L M N O P Q S U W Y Z a0 a2)
theorem Qyx:Qq (ifun Tryz.f84).body=true:=by kernel_rfl
theorem Qus:Qq (ifun Tryz.f152).body=true:=by kernel_rfl
theorem z144.inlF:InlF Tryz.prog z144.C:=W2 (Jn z13.soundN Qac) (inlC ⟨Tryz.func84,rfl,by kernel_rfl⟩ (λhI base=>Qu rfl Qyx (lpN (lpY (z144.l0a_sound hI) lpE)) base) (inlC ⟨Tryz.func152,rfl,by kernel_rfl⟩ (λhI base=>Qu rfl Qus (lpY (z144.l0_sound hI) (lpN lpE)) base) inlE))
theorem z144.sound:Sn z144.pack 24:=by
 intro vs p h;unfold z144.pack at h;split at h<;>cases h
 exact Y4 (C:=z144.C) Qd Qe rfl (Qa z142.sound (Qa z143.sound Qh)) z144.inlF ⟨Tryz.func24,rfl,by kernel_rfl⟩ (λhI=>Qc0 rfl rfl _ _ _) rfl (z144.link _ _ _ _ _ _ _ _ _ _ _ _ _ _ _ _ _ _ _) (by intro v r h;unfold z144.dec at h;split at h<;>cases h;exact ⟨rfl,rfl⟩)
theorem z145.l0_sound (hI:IK Tryz.prog z145.C 6):Qm z145.C 6 5 0 0 (Ql 0 (ifun Tryz.f5).body) z145.l0sh z145.l0pack:=by
 refine Qn λls p h=>?_
 unfold z145.l0pack at h;split at h<;>cases h
 rename_i a b c d e g j k m n o q r s t u v w
 exact Yt hI z145.l0sh z145.l0sh z145.l0so1 (.exit 0) [5,16,17] [5,16,17] [0,11,12] (g,v,w) (z145.l0_link a b c d e j k m n o q r s t u)
theorem z145.l2_sound (hI:IK Tryz.prog z145.C 6):Qm z145.C 6 5 2 0 (Ql 2 (ifun Tryz.f5).body) z145.l2sh z145.l2pack:=by
 refine Qn λls p h=>?_
 unfold z145.l2pack at h;split at h<;>cases h
 rename_i a b c d e g j k m n o q r s t u v
 exact Qs hI z145.l2sh z145.l2sh [4,15,16] [4,15,16] (e,u,v) (z145.l2_link a b c d g j k m n o q r s t)
theorem fun5:FunOK Tryz.prog 5 Tryz.f5 (ifun Tryz.f5).body:=⟨Tryz.func5,rfl,by kernel_rfl⟩
theorem Qt7:Qq (ifun Tryz.f5).body=true:=by kernel_rfl
theorem z145.sound:Sn z145.pack 5:=by
 intro vs p h;unfold z145.pack at h;split at h<;>cases h
 exact Q7 (C:=z145.C) Qd Qe rfl rfl rfl (Qa z144.sound (Qa z134.sound (Qa z136.sound (Qa z76.sound (Qa z24.sound (Qa z65.sound (Qa z85.sound Qh))))))) fun5 (λhI=>Qu rfl Qt7 (lpY (z145.l0_sound hI) (lpY (z145.l2_sound hI) lpE)) 0) rfl (z145.link _ _ _ _ _ _ _ _ _ _ _ _ _ _ _ _ _ _ _) z7.hdec
end
end Go.Proofs.YtihfdjkjpncjfaaGreatDoor.A
end
section
namespace Go.Proofs.YtihfdjkjpncjfaaGreatDoor.A
open Go Go.RowKit Go.ChangeShapes Go.WideShapes
noncomputable section
inductive SC where
 |b
 |i (k:IntKind)
 |s
inductive CT where
 |sc (c:SC)
 |sl (cs:List SC)
def scOf:CT->Option SC
 |.sc c=>some c
 |_=>none
def Jq:List CT->Option (List SC)
 |[]=>some []
 |c::l=>(scOf c).bind λx=>(Jq l).map (x :: ·)
def okS:SC->V->Prop
 |.b,v=>∃x,v=.bool x
 |.i k,v=>∃n,v=.int k n/\(Lit.int k n).wf=true
 |.s,v=>∃l,v=.str l/\l.length<=maxLen
def okSL:List SC->List V->Prop
 |[],vs=>vs=[]
 |c::cs,vs=>∃v l,vs=v::l/\okS c v/\okSL cs l
def okC:CT->V->Prop
 |.sc c,v=>okS c v
 |.sl [.i k],v=>∃l,v=.ints false k l/\(∀n∈l,(Lit.int k n).wf=true)/\l.length<=maxLen
 |.sl [.s],v=>∃l,v=.strs false l/\(∀s∈l,s.length<=maxLen)/\l.length<=maxLen
 |.sl cs,v=>∃l,v=.recs false cs.length l/\(∀r∈l,okSL cs r)/\l.length<=maxLen
def okCL:List CT->List V->Prop
 |[],vs=>vs=[]
 |c::cs,vs=>∃v l,vs=v::l/\okC c v/\okCL cs l
def ctsF (P:Program) (rec:TypeId->Option (List CT)):Nat->List Field->Option (List CT)
 |_,[]=>some []
 |off,f::fs=>if f.offset=off then (rec f.type).bind λl=>if P.cellsOf f.type=l.length then (ctsF P rec (off+l.length) fs).map (l ++ ·) else none else none
def ctsA (l:List CT):Nat->List CT
 |0=>[]
 |n+1=>l++ctsA l n
def cts (P:Program):Nat->TypeId->Option (List CT)
 |0,_=>none
 |
  n+1,t=>
  match P.underlying t with
  |some .bool=>some [.sc .b]
  |some (.int k)=>some [.sc (.i k)]
  |some .string=>some [.sc .s]
  |some (.struct fs)=>(ctsF P (cts P n) 0 fs.toList).bind λl=>if P.cellsOf t=l.length then some l else none
  |some (.array m e)=>(cts P n e).bind λl=>if P.cellsOf e=l.length/\P.cellsOf t=m*l.length then some (ctsA l m) else none
  |some (.slice e)=>(cts P n e).bind λl=>(Jq l).bind λcs=>if P.cellsOf e=cs.length/\0<cs.length then some [.sl cs] else none
  |_=>none
abbrev noO:Nat->Prop:=λ_=>False
def Qp2 (W:World) (c:CT) (cv:Value) (v:V):Prop:=okC c v/\Rep0 noO W cv v/\cv.oneCell'=true
def Jl (W:World) (l:List CT) (cs:List Value) (vs:List V):Prop:=
 cs.length=l.length/\vs.length=l.length/\∀(j:Nat) (c:CT) (cv:Value) (v:V),l[j]? = some c->cs[j]? = some cv->vs[j]? = some v->Qp2 W c cv v
theorem cellsR_nil (W:World):Jl W [] [] []:=⟨rfl,rfl,λ(j:Nat) c cv v h=>by simp at h⟩
theorem Qdw {W:World} {c:CT} {cv:Value} {v:V} (h:Qp2 W c cv v):Jl W [c] [cv] [v]:=by
 refine ⟨rfl,rfl,λj c' cv' v' h1 h2 h3=>?_⟩
 cases j with
 |zero=>simp at h1 h2 h3;subst h1 h2 h3;exact h
 |succ j=>simp at h1
theorem Qkr {W:World} {l l':List CT} {cs cs':List Value} {vs vs':List V} (h:Jl W l cs vs) (h':Jl W l' cs' vs'):Jl W (l++l') (cs++cs') (vs++vs'):=by
 obtain ⟨a1,a2,a3⟩:=h;obtain ⟨b1,b2,b3⟩:=h'
 refine ⟨by simp [a1,b1],by simp [a2,b2],λj c cv v h1 h2 h3=>?_⟩
 by_cases hj:j<l.length
 ·rw [Z47 hj] at h1
  rw [Z47 (by omega)] at h2 h3
  exact a3 j c cv v h1 h2 h3
 ·rw [Z63 (by omega)] at h1 h2 h3
  rw [a1] at h2;rw [a2] at h3
  exact b3 _ c cv v h1 h2 h3
theorem Qgz {W:World}:∀{l:List CT} {cs:List Value} {vs:List V},Jl W l cs vs->okCL l vs
 |[],cs,vs,h=>List.length_eq_zero_iff.1 h.2.1
 |
  c::l,cs,vs,h=>by
  obtain ⟨h1,h2,h3⟩:=h
  match cs,vs,h1,h2 with
  |
   cv::cs,v::vs,h1,h2=>
   exact ⟨v,vs,rfl,(h3 0 c cv v rfl rfl rfl).1,Qgz (cs:=cs) ⟨by simpa using h1,by simpa using h2,λj c' cv' v' a b d=>h3 (j+1) c' cv' v' (by simpa using a) (by simpa using b) (by simpa using d)⟩⟩
theorem Ql7:∀{l:List CT} {ss:List SC} {vs:List V},Jq l=some ss->okCL l vs->okSL ss vs
 |[],ss,vs,h,hv=>by simp [Jq] at h;subst h;exact hv
 |
  c::l,ss,vs,h,hv=>by
  simp only [Jq,Z5,Z22] at h
  obtain ⟨x,hx,y,hy,rfl⟩:=h
  obtain ⟨v,r,rfl,h1,h2⟩:=hv
  refine ⟨v,r,rfl,?_,Ql7 hy h2⟩
  cases c with
  |sc c=>simp [scOf] at hx;subst hx;exact h1
  |sl _=>simp [scOf] at hx
theorem Qql:∀{l:List CT} {ss:List SC},Jq l=some ss->ss.length=l.length
 |[],ss,h=>by simp [Jq] at h;subst h;rfl
 |
  c::l,ss,h=>by
  simp only [Jq,Z5,Z22] at h
  obtain ⟨x,hx,y,hy,rfl⟩:=h
  simp [Qql hy]
theorem Qit {α:Type} {Q:Nat->α->Prop}:∀{n:Nat},(∀i,i<n->∃x,Q i x)->∃l:List α,l.length=n/\∀(i:Nat) (x:α),l[i]? = some x->Q i x
 |0,_=>⟨[],rfl,λi x h=>by simp at h⟩
 |
  n+1,h=>by
  obtain ⟨l,h1,h2⟩:=Qit (n:=n) λi hi=>h i (by omega)
  obtain ⟨x,hx⟩:=h n (by omega)
  refine ⟨l++[x],by simp [h1],λi y hy=>?_⟩
  by_cases hi:i<l.length
  ·rw [Z47 hi] at hy;exact h2 i y hy
  ·rw [Z63 (by omega)] at hy
   have:i-l.length=0:=by
    rcases Z39 (i-l.length) 1 with h0|h0
    ·omega
    ·rw [Z17 (by simp;omega)] at hy;simp at hy
   rw [this] at hy;simp at hy;subst hy
   have:i=n:=by omega
   subst this;exact hx
theorem Qmg {α:Type} (z:Nat) (hz:0<z):∀(l:List (List α)) (j:Nat),(∀e∈l,e.length=z)->l.flatten[j]? = (l[j/z]?).bind (·[j%z]?)
 |[],j,_=>by simp
 |
  e::l,j,h=>by
  have he:=h e (by simp)
  rw [Z58]
  by_cases hj:j<z
  ·rw [Z47 (by omega),Nat.div_eq_of_lt hj,Z110 hj];rfl
  ·rw [Z63 (by omega),Qmg z hz l _ (λx hx=>h x (by simp [hx])),he]
   have h1:j/z=(j-z)/z+1:=by rw [<-Nat.add_div_right (j-z) hz,Nat.sub_add_cancel (by omega)]
   have h2:j%z=(j-z)%z:=by rw [<-Nat.add_mod_right (j-z) z,Nat.sub_add_cancel (by omega)]
   rw [h1,h2];rfl
theorem ones {α:Type} {c:SC} {f:α->V} {Q:α->Prop} (hc:∀v,okS c v->∃n,v=f n/\Q n):∀vss:J2,(∀r∈vss,okSL [c] r) ->
  ∃zs:List α,vss.flatten=zs.map f/\zs.length=vss.length/\∀n∈zs,Q n
 |[],_=>⟨[],rfl,rfl,by simp⟩
 |
  r::vss,h=>by
  obtain ⟨zs,e1,e2,e3⟩:=ones hc vss λx hx=>h x (by simp [hx])
  obtain ⟨v,l,rfl,hv,hl⟩:=h r (by simp)
  have hl:l=[]:=hl
  subst hl
  obtain ⟨n,rfl,hq⟩:=hc v hv
  exact ⟨n::zs,by simp [e1],by simp [e2],by simpa using ⟨hq,e3⟩⟩
theorem Qu5 {W:World} {t e n m:Nat} {ss:List SC} {l:List CT} {a:Addr} {len cap:Nat} (hs:Jq l=some ss) (hz:0<ss.length) (hl:len<=cap) (hm:cap<=maxLen)
  (h:∀i,i<len->∃cs vs,W.cells? 0 (a.add (i*ss.length)) ss.length=some cs/\Jl W l cs vs):∃v,okC (.sl ss) v/\Rep0 noO W (.slice (some a) len cap) v:=by
 obtain ⟨rows,h1,h2⟩:=Qit h
 have hsl:=Qql hs
 have hrow:∀(i:Nat) (r:List Value),rows[i]? = some r->∃vs:List V,r.length=ss.length/\okSL ss vs/\vs.length=ss.length/\∀(j:Nat) (cv:Value) (v:V),r[j]? = some cv->vs[j]? = some v->W.cell? (a.add (i*ss.length+j))=some cv/\Rep0 noO W cv v/\cv.oneCell'=true:=by
  intro i r hr
  obtain ⟨vs,hc,hv⟩:=h2 i r hr
  obtain ⟨_,hlen,hcell⟩:=World.cells?_some hc
  refine ⟨vs,hlen,Ql7 hs (Qgz hv),hv.2.1.trans hsl.symm,λj cv v hj hjv=>?_⟩
  have hjl:j<l.length:=by have:=(List.getElem?_eq_some_iff.1 hj).1;omega
  have:=hv.2.2 j l[j] cv v (by simp) hj hjv
  refine ⟨?_,this.2⟩
  rw [<-Go.Deep.add_add,hcell j (by omega),hj]
 have hall:∀i,i<rows.length->∃vs:List V,okSL ss vs/\vs.length=ss.length/\∀(j:Nat) (v:V),vs[j]? = some v->∃cv,W.cell? (a.add (i*ss.length+j))=some cv/\Rep0 noO W cv v/\cv.oneCell'=true:=by
  intro i hi
  obtain ⟨vs,q1,q2,q3,q4⟩:=hrow i rows[i] (by simp [hi])
  refine ⟨vs,q2,q3,λj v hv=>?_⟩
  have:j<ss.length:=by have:=(List.getElem?_eq_some_iff.1 hv).1;omega
  exact ⟨_,q4 j (rows[i][j]'(by omega)) v (by simp) hv⟩
 obtain ⟨vss,g1,g2⟩:=Qit hall
 have hvlen:∀e∈vss,e.length=ss.length:=λe he=>by obtain ⟨i,hi,rfl⟩:=Z90 he;exact (g2 i _ (by simp [hi])).2.1
 have gen:∀v:V,flatV v=some (len,vss.flatten)->isExact v=false->Rep0 noO W (.slice (some a) len cap) v:=by
  intro v hf hx
  have hcell:∀(j:Nat) (v:V),vss.flatten[j]? = some v->∃cv,W.cell? (a.add j)=some cv/\Rep0 noO W cv v/\cv.oneCell'=true:=by
   intro j v hv
   rw [Qmg ss.length hz vss j hvlen] at hv
   obtain ⟨r,hr,hv⟩:=Z5.1 hv
   obtain ⟨cv,k1,k2⟩:=(g2 _ r hr).2.2 _ v hv
   refine ⟨cv,?_,k2⟩
   rw [show j=j/ss.length*ss.length+j%ss.length by rw [Z24];exact (Z65 j ss.length).symm]
   exact k1
  refine .slice (some a) len cap v vss.flatten (λj=>(W.cell? (a.add j)).getD Go.undef) hf (by simp [hx]) hl (by simp) (λj hj=>?_) (λj hj=>?_) (λj hj=>?_)
  ·obtain ⟨cv,k1,k2,k3⟩:=hcell j _ (Z1 hj)
   exact ⟨a,rfl,λh=>h.elim,by rw [k1];rfl⟩
  ·obtain ⟨cv,k1,k2,k3⟩:=hcell j _ (Z1 hj)
   rw [k1];exact k3
  ·obtain ⟨cv,k1,k2,k3⟩:=hcell j _ (Z1 hj)
   rw [k1];exact k2
 have hlen':vss.length=len:=by omega
 have recs:∃v,(∃l,v=V.recs false ss.length l/\(∀r∈l,okSL ss r)/\l.length<=maxLen)/\Rep0 noO W (.slice (some a) len cap) v:=by
  refine ⟨.recs false ss.length vss,⟨vss,rfl,λr hr=>?_,by omega⟩,gen _ ?_ rfl⟩
  ·obtain ⟨i,hi,rfl⟩:=Z90 hr;exact (g2 i _ (by simp [hi])).1
  ·simp only [flatV];rw [if_pos ⟨hz,hvlen⟩,hlen']
 match ss,hs,hz,recs,g2,gen,hvlen with
 |[],_,hz,_,_,_,_=>simp at hz
 |[.b],_,_,recs,_,_,_=>exact recs
 |x::y::_,_,_,recs,_,_,_=>exact by cases x<;>exact recs
 |
  [.i k],_,_,recs,g2,gen,hvlen=>
  obtain ⟨zs,e1,e2,e3⟩:=ones (c:=.i k) (f:=V.int k) (λv h=>h) vss λr hr=>by
   obtain ⟨i,hi,rfl⟩:=Z90 hr;exact (g2 i _ (by simp [hi])).1
  refine ⟨.ints false k zs,⟨zs,rfl,e3,by omega⟩,gen _ ?_ rfl⟩
  simp only [flatV];rw [e1,e2,hlen']
 |
  [.s],_,_,recs,g2,gen,hvlen=>
  obtain ⟨zs,e1,e2,e3⟩:=ones (c:=.s) (f:=V.str) (λv h=>h) vss λr hr=>by
   obtain ⟨i,hi,rfl⟩:=Z90 hr;exact (g2 i _ (by simp [hi])).1
  refine ⟨.strs false zs,⟨zs,rfl,e3,by omega⟩,gen _ ?_ rfl⟩
  simp only [flatV];rw [e1,e2,hlen']
theorem Qvy {W:World} {ss:List SC} (hz:0<ss.length):∃v,okC (.sl ss) v/\Rep0 noO W (.slice none 0 0) v:=by
 have gen:∀v:V,flatV v=some (0,[])->isExact v=false->Rep0 noO W (.slice none 0 0) v:=λv hf hx=>
  .slice none 0 0 v [] (λ_=>Go.undef) hf (by simp [hx]) (Z4 _) (λ_=>rfl) (λj hj=>by simp at hj) (λj hj=>by simp at hj) (λj hj=>by simp at hj)
 match ss,hz with
 |[.i k],_=>exact ⟨.ints false k [],⟨[],rfl,by simp,by simp⟩,gen _ rfl rfl⟩
 |[.s],_=>exact ⟨.strs false [],⟨[],rfl,by simp,by simp⟩,gen _ rfl rfl⟩
 |[.b],_=>exact ⟨.recs false 1 [],⟨[],rfl,by simp,by simp⟩,gen _ (by simp [flatV]) rfl⟩
 |a::a'::ss,_=>exact ⟨.recs false (a::a'::ss).length [],by cases a<;>exact ⟨[],rfl,by simp,by simp⟩,gen _ (by simp [flatV]) rfl⟩
section
variable {H:Type} {enc:TypeId×Value->H} {P:Program} {W:World}
theorem Qff:∀(n:Nat) (t:TypeId) (l:List CT),cts P n t=some l->∀(fuel:Nat) (cs:List Value) (x:DataW H×List MemPlace),DataW.trod enc P W 0 (λ_=>true) true fuel t cs=some x ->
  ∃vs,Jl W l cs vs
 |0,t,l,h,_,_,_,_=>by simp [cts] at h
 |
  n+1,t,l,h,fuel,cs,x,hx=>by
  unfold cts at h
  split at h
  ·rename_i ht
   simp at h;subst h
   obtain ⟨bb,rfl,_⟩:=DataW.trod_bool ht hx
   exact ⟨[.bool bb],Qdw ⟨⟨bb,rfl⟩,.bool bb,rfl⟩⟩
  ·rename_i k ht
   simp at h;subst h
   obtain ⟨b,rfl,_,hw⟩:=DataW.trod_int ht hx
   exact ⟨[.int k b],Qdw ⟨⟨b,rfl,hw⟩,.int k b,rfl⟩⟩
  ·rename_i ht
   simp at h;subst h
   obtain ⟨b,rfl,_,hw⟩:=DataW.trod_string ht hx
   exact ⟨[.str b.data.toList],Qdw ⟨⟨_,rfl,by simpa using hw⟩,.str _ _ rfl,rfl⟩⟩
  ·rename_i fs ht
   obtain ⟨l',h1,h2⟩:=Z5.1 h
   split at h2
   case isFalse=>simp at h2
   rename_i hsz
   simp at h2;subst h2
   obtain ⟨xs,m,_,_,hlen,hxl,hf⟩:=DataW.trod_struct ht hx
   have key:∀(gs:List Field) (off:Nat) (l':List CT),ctsF P (cts P n) off gs=some l'->(∀f∈gs,∃y,DataW.trod enc P W 0 (λ_=>true) true m f.type ((cs.drop f.offset).take (P.cellsOf f.type))=some y) ->
     ∃vs,Jl W l' ((cs.drop off).take l'.length) vs:=by
    intro gs
    induction gs with
    |nil=>intro off l' h _;simp [ctsF] at h;subst h;exact ⟨[],by simpa using cellsR_nil W⟩
    |
     cons f gs ih=>
     intro off l' h hg
     unfold ctsF at h
     split at h
     case isFalse=>simp at h
     rename_i hoff
     obtain ⟨lf,h1,h2⟩:=Z5.1 h
     split at h2
     case isFalse=>simp at h2
     rename_i hsz
     obtain ⟨l2,h3,rfl⟩:=Z22.1 h2
     obtain ⟨y,hy⟩:=hg f (by simp)
     obtain ⟨vs1,c1⟩:=Qff n f.type lf h1 m _ y hy
     obtain ⟨vs2,c2⟩:=ih _ _ h3 λf' hf'=>hg f' (by simp [hf'])
     refine ⟨vs1++vs2,?_⟩
     have hc:=Qkr c1 c2
     rw [hoff,hsz] at hc
     have hl1:lf.length<=(cs.drop off).length:=by
      have:=c1.1;rw [hoff,hsz,Z8] at this;omega
     rw [Z10,List.take_add,Z104]
     exact hc
   have hall:∀f∈fs.toList,∃y,DataW.trod enc P W 0 (λ_=>true) true m f.type ((cs.drop f.offset).take (P.cellsOf f.type))=some y:=by
    intro f hf'
    obtain ⟨i,hi,rfl⟩:=Z90 hf'
    have hi':i<fs.size:=by simpa using hi
    have:=hf i (fs.toList[i]) (by simp [hi'])
    rw [Z1 (by omega)] at this
    exact ⟨_,this⟩
   obtain ⟨vs,hv⟩:=key fs.toList 0 _ h1 hall
   refine ⟨vs,?_⟩
   rwa [Z34,Z28 (by omega)] at hv
  ·rename_i m e ht
   obtain ⟨l',h1,h2⟩:=Z5.1 h
   split at h2
   case isFalse=>simp at h2
   rename_i hsz
   simp at h2;subst h2
   obtain ⟨xs,q,_,_,hlen,hxl,hf⟩:=DataW.trod_array ht hx
   have key:∀(k:Nat),k<=m->∃vs,Jl W (ctsA l' k) ((cs.drop ((m-k)*l'.length)).take (k*l'.length)) vs:=by
    intro k
    induction k with
    |zero=>intro _;exact ⟨[],by simpa [ctsA] using cellsR_nil W⟩
    |
     succ k ih=>
     intro hk
     obtain ⟨vs2,c2⟩:=ih (by omega)
     have h3:=hf (m-(k+1)) (by omega)
     rw [Z1 (by omega)] at h3
     obtain ⟨vs1,c1⟩:=Qff n e l' h1 q _ _ h3
     refine ⟨vs1++vs2,?_⟩
     have hc:=Qkr c1 c2
     rw [hsz.1] at hc
     have e1:(m-k)*l'.length=(m-(k+1))*l'.length+l'.length:=by
      rw [<-Nat.succ_mul];congr 1;omega
     have e2:(k+1)*l'.length=l'.length+k*l'.length:=by rw [Nat.succ_mul,Nat.add_comm]
     rw [e1,<-Z104] at hc
     rw [e2,List.take_add]
     exact hc
   obtain ⟨vs,hv⟩:=key m (Z4 _)
   refine ⟨vs,?_⟩
   rwa [Nat.sub_self,Nat.zero_mul,Z34,Z28 (by omega)] at hv
  ·rename_i e ht
   obtain ⟨l',h1,h2⟩:=Z5.1 h
   obtain ⟨ss,h3,h4⟩:=Z5.1 h2
   split at h4
   case isFalse=>simp at h4
   rename_i hsz
   simp at h4;subst h4
   rcases Go.Deep.open_slice ht hx with ⟨rfl,_⟩|⟨a,len,cap,m,q,D,Pl,rfl,_,hl,hm,hmm,_,hi⟩
   ·obtain ⟨v,k1,k2⟩:=Qvy (W:=W) hsz.2
    exact ⟨[v],Qdw ⟨k1,k2,rfl⟩⟩
   ·simp only [if_true] at hmm
    subst hmm
    rw [hsz.1] at hi
    obtain ⟨v,k1,k2⟩:=Qu5 (t:=0) (e:=0) (n:=0) (m:=0) h3 hsz.2 hl hm λi hi'=>by
     obtain ⟨cs',c1,c2⟩:=hi i (by omega)
     obtain ⟨vs,c3⟩:=Qff n e l' h1 q _ _ c2
     exact ⟨cs',vs,c1,c3⟩
    exact ⟨[v],Qdw ⟨k1,k2,rfl⟩⟩
  ·simp at h
inductive AT where
 |one (c:CT)
 |agg (l:List CT)
def okA:AT->V->Prop
 |.one c,v=>okC c v
 |.agg l,v=>∃vs,v=.agg vs/\okCL l vs
def okAL:List AT->List V->Prop
 |[],vs=>vs=[]
 |c::cs,vs=>∃v l,vs=v::l/\okA c v/\okAL cs l
def atOf (P:Program) (n:Nat) (t:TypeId):Option AT:=
 (cts P n t).bind λl=>match P.underlying t with
  |some (.struct _)|some (.array _ _)=>some (.agg l)
  |
   _=>match l with
   |[c]=>some (.one c)
   |_=>none
def Qb0 (P:Program) (n:Nat):List TypeId->Option (List AT)
 |[]=>some []
 |t::ts=>(atOf P n t).bind λx=>(Qb0 P n ts).map (x :: ·)
theorem Qsl {n:Nat} {t:TypeId} {q:AT} (hq:atOf P n t=some q) {base:Nat} {v:Value} {d:DataW H} {ps:List MemPlace} (hval:Value.okWide P W .any base t v) (h:DataW.Trod enc P W 0 (λ_=>true) true t v d ps) :
  ∃x,okA q x/\Rep0 noO W v x:=by
 obtain ⟨l,h1,h2⟩:=Z5.1 hq
 obtain ⟨fuel,hf⟩:=h
 obtain ⟨vs,hv⟩:=Qff n t l h1 fuel _ _ hf
 have aggCase:(∃cs,v=.agg cs)->∃x,okA (.agg l) x/\Rep0 noO W v x:=by
  rintro ⟨cs,rfl⟩
  have hc:(Value.agg cs).cells.toList=cs.toList:=rfl
  rw [hc] at hv
  refine ⟨.agg vs,⟨vs,rfl,Qgz hv⟩,.agg cs vs (by have:=hv.1;have:=hv.2.1;simp at *;omega) (λj hj=>?_) (λj hj=>?_)⟩ <;>
  ·have hj1:j<cs.size:=by have:=hv.1;have:=hv.2.1;simp at *;omega
   have:=hv.2.2 j (l[j]'(by have:=hv.2.1;omega)) cs[j] vs[j] (by simp) (by simp [hj1]) (by simp)
   have e:cs.getD j Go.undef=cs[j]:=by simp [Array.getD,hj1]
   rw [e]
   first|exact this.2.2|exact this.2.1
 split at h2
 ·rename_i fs ht
  simp at h2;subst h2
  obtain ⟨cs,rfl,_⟩:=okWide_struct ht hval
  exact aggCase ⟨cs,rfl⟩
 ·rename_i m e ht
  simp at h2;subst h2
  unfold Value.okWide at hval
  rw [ht] at hval
  obtain ⟨cs,rfl,_⟩:=hval
  exact aggCase ⟨cs,rfl⟩
 ·rename_i hns hna
  split at h2
  case h_2=>simp at h2
  rename_i c
  simp at h2;subst h2
  obtain ⟨a1,a2,a3⟩:=hv
  match vs,a2 with
  |
   [x],_=>
   have hcells:v.cells = #[v]:=by
    cases v with
    |
     agg cs=>
     exfalso
     unfold Value.okWide at hval
     cases n with
     |zero=>simp [cts] at h1
     |
      succ n=>
      unfold cts at h1
      split at h1<;>rename_i ht
      ·rw [ht] at hval;simp [Cell.okWide,Cell.ok,ht] at hval
      ·rw [ht] at hval;simp [Cell.okWide,Cell.ok,ht] at hval
      ·rw [ht] at hval;simp [Cell.okWide,Cell.ok,ht] at hval
      ·exact hns _ ht
      ·exact hna _ _ ht
      ·rw [ht] at hval;simp [Cell.okWide,Cell.ok,ht] at hval
      ·simp at h1
    |_=>rfl
   rw [hcells] at a3
   have:=a3 0 c v x rfl rfl rfl
   exact ⟨x,this.1,this.2.1⟩
theorem Qp9 {n:Nat}:∀{ts:List TypeId} {qs:List AT} {args:List Value} {ds:List (DataW H)} {ps:List MemPlace} {base:Nat},Qb0 P n ts=some qs->DataW.TrodAll enc P W 0 (λ_=>true) true ts args ds ps ->
  (∀(j:Nat) t v,ts[j]? = some t->args[j]? = some v->Value.okWide P W .any base t v) ->
  ∃vs,args.length=vs.length/\okAL qs vs/\∀j (h:j<vs.length),Rep0 noO W (args.getD j Go.undef) vs[j]
 |
  [],qs,args,ds,ps,base,hq,h,_=>by
  simp [Qb0] at hq;subst hq
  obtain ⟨rfl,rfl,rfl⟩:=trodAll_nil h
  exact ⟨[],rfl,rfl,λj h=>by simp at h⟩
 |
  t::ts,qs,args,ds,ps,base,hq,h,hval=>by
  simp only [Qb0,Z5,Z22] at hq
  obtain ⟨q,hq1,qs',hq2,rfl⟩:=hq
  obtain ⟨v,vs,d,ds',p,p',rfl,rfl,rfl,h1,h2⟩:=trodAll_cons h
  obtain ⟨x,k1,k2⟩:=Qsl hq1 (hval 0 t v rfl rfl) h1
  obtain ⟨xs,l1,l2,l3⟩:=Qp9 hq2 h2 λj t v a b=>hval (j+1) t v (by simpa using a) (by simpa using b)
  refine ⟨x::xs,by simp [l1],⟨x,xs,rfl,k1,l2⟩,λj hj=>?_⟩
  cases j with
  |zero=>exact k2
  |succ j=>simpa using l3 j (by simpa using hj)
theorem Qv8 {ts:List TypeId} (hl:laidOutB P=true) (hr:ts.all (λt=>P.readableRec t&&decide (t<P.types.size))=true) {W':World} (hb:Below W.heap.size W W') {sp:Nat->Bool} :
  ∀
   {vs:List Value} {ds:List (DataW H)} {ps:List MemPlace},DataW.TrodAll enc P W 0 (λ_=>true) true ts vs ds ps->(∀x∈ps,x.block<W.heap.size)->(∀x∈ps,sp x.block=true) ->
   DataW.TrodAll enc P W' 0 sp true ts vs ds ps:=by
 induction ts with
 |
  nil=>
  intro vs ds ps h _ _
  obtain ⟨rfl,rfl,rfl⟩:=trodAll_nil h
  exact trodAll_mk0
 |
  cons t ts ih=>
  intro vs ds ps h hlt hsp
  obtain ⟨v,vs',d,ds',p,p',rfl,rfl,rfl,h1,h2⟩:=trodAll_cons h
  simp only [List.all_cons,Z7,decide_eq_true_eq] at hr
  exact trodAll_cons_mk (WideElems.Trod_stays hl hr.1.1 hr.1.2 h1 (λx hx=>hb.same (hlt x (by simp [hx]))) (λx hx=>hsp x (by simp [hx])))
   (ih hr.2 h2 (λx hx=>hlt x (by simp [hx])) (λx hx=>hsp x (by simp [hx])))
theorem Qyl {f:Func} {s:ChangeSpec} {apart fresh handsOn again:Bool} {W W':World} {args:Array Value} {v:Value} {ds gs:List (DataW H)} {before pa pv:List MemPlace}
  (hW:DataW.Whole enc P f.params.toList s.vars apart W args.toList ds gs before)
  (hres:∀(b:Nat) (sp:Nat->Bool) (hd:Bool),DataW.TrodAll enc P W' b sp hd f.resultTypes.toList (v.resultList f.resultTypes.size) (s.fn H (ds++gs)).results [])
  (hargs:∀sp:Nat->Bool,(∀p∈before,sp p.block=true)->DataW.TrodAll enc P W' 0 sp true f.params.toList args.toList (s.fn H (ds++gs)).args pa)
  (hvars:∀sp:Nat->Bool,(∀p∈before,sp p.block=true)->DataW.TrodVars enc P W' sp s.vars (s.fn H (ds++gs)).vars pv)
  (hps:before=pa++pv) (hb:Below W.heap.size W W')
  (hok:∀(j:Nat) (t:TypeId) (r:Value),f.resultTypes[j]? = some t->(v.resultList f.resultTypes.size)[j]? = some r->Value.okWide P W' .any 0 t r) :
  s.post enc P f apart fresh handsOn again W args v W':=by
 have hlt:∀p∈before,p.block<W.heap.size:=λp hp=>hW.lt p hp
 have hold:∀p∈before,(λb=>decide (b<W.heap.size)) p.block=true:=λp hp=>by simpa using hlt p hp
 refine ⟨ds,gs,before,[],pa,pv,hW,hres _ _ _,hargs _ hold,hvars _ hold,World.keptBut_mono (λp hp=>⟨hp,?_⟩) (hb.frame (·∈before)),λ_=>?_⟩
 ·rw [hps,Z50] at hp
  exact Or.inr hp
 ·obtain ⟨_,_,_,_,_,hz,hn⟩:=hW
  refine ⟨hok,_,_,([]++pa)++pv,⟨[]++pa,pv,trodAll_append (hargs _ (λ_ _=>rfl)) (hres _ _ _),hvars _ (λ_ _=>rfl),rfl,?_,?_⟩,?_⟩
  ·intro b off hp
   have hin:MemPlace.cell b off∈before:=by rw [hps];simpa using hp
   rw [hb.frozen (hlt _ hin)]
   exact hz b off hin
  ·intro ha
   have:=hn ha
   rw [hps] at this
   simpa using this
  ·intro p hp _
   rw [hps]
   simpa using hp
theorem Qvm {g:Nat} {f:Func} {c:Code} (hf:FunOK P g f c) {s:ChangeSpec} {n:Nat} {qs:List AT} {tb:TypeId} (hl:laidOutB P=true) (hr:f.params.toList.all (λt=>P.readableRec t&&decide (t<P.types.size))=true)
  (hq:Qb0 P n f.params.toList=some qs) (hres:f.resultTypes = #[tb]) (htb:P.underlying tb=some .bool) (hv:s.vars=[])
  (hs:∀ds:List (DataW H),ds.length=f.params.toList.length->s.fn H ds={results:=[.lit (.bool true)],args:=ds})
  (plain:∀vs,okAL qs vs->∃p r,SoundC P g vs p/\p.m=some r/\p.enc r=.bool true)
  (W:World) (base:Nat) (args:Array Value) (ds gs:List (DataW H)) (before:List MemPlace)
  (hval:∀(j:Nat) t v,f.params[j]? = some t->args[j]? = some v->Value.okWide P W .any base t v)
  (hW:DataW.Whole enc P f.params.toList s.vars false W args.toList ds gs before) :
  Calls P g args W λe W'=>∃v,e=.returned v/\s.post enc P f false true false false W args v W':=by
 have hW':=hW
 have hlt:∀p∈before,p.block<W.heap.size:=λp hp=>hW.lt p hp
 obtain ⟨p,q,hA,hV,rfl,hfz,hnd⟩:=hW
 have hA:DataW.TrodAll enc P W 0 (λ_=>true) true f.params.toList args.toList ds p:=hA
 rw [hv] at hV
 obtain ⟨rfl,rfl⟩:=trodVars_none hV
 obtain ⟨vs,h1,h2,h3⟩:=Qp9 hq hA λj t v a b=>hval j t v (by simpa using a) (by simpa using b)
 obtain ⟨pk,r,hsound,hm,he⟩:=plain vs h2
 have hcall:=hsound noO W args r hm (by simpa using h1) (λj hj=>by
  have h4:=h3 j hj
  have:args.getD j Go.undef=args.toList.getD j Go.undef:=by
   have hj':j<args.size:=by rw [<-Z31,h1];exact hj
   simp [Array.getD,List.getD,hj']
  rwa [this]) (λb h=>h.elim)
 unfold CallR at hcall
 rw [hf.enters] at hcall
 have hlen:∀{ts:List TypeId} {vs:List Value} {ds:List (DataW H)} {ps:List MemPlace},DataW.TrodAll enc P W 0 (λ_=>true) true ts vs ds ps->ds.length=ts.length:=by
  intro ts
  induction ts with
  |nil=>intro vs ds ps h;obtain ⟨_,rfl,_⟩:=trodAll_nil h;rfl
  |cons t ts ih=>intro vs ds ps h;obtain ⟨_,_,_,_,_,_,_,rfl,_,_,h2⟩:=trodAll_cons h;simp [ih h2]
 refine hcall.mono λe W' h=>?_
 cases e with
 |
  returned cv=>
  obtain ⟨hg,hrep⟩:=h
  rw [he] at hrep
  obtain rfl:cv=.bool true:=by
   cases hrep
   ·rfl
   ·rename_i hf _;cases hf
  have hb:Below W.heap.size W W':=⟨hg.os,hg.tape,hg.output,hg.size,λk hk=>hg.block k hk (by simp)⟩
  have hfn:=hs ds (hlen hA)
  refine ⟨_,rfl,Qyl (pa:=p) (pv:=[]) hW' ?_ ?_ ?_ rfl hb ?_⟩
  ·intro b sp hd
   rw [Z45,hfn,hres]
   exact trodAll_cons_mk (shut_bool htb _) trodAll_mk0
  ·intro sp hsp
   rw [Z45,hfn]
   exact Qv8 hl hr hb hA (λx hx=>hlt x (by simp [hx])) (λx hx=>hsp x (by simp [hx]))
  ·intro sp hsp
   rw [Z45,hfn,hv]
   rfl
  ·exact ok_one hres rfl (okWide_bool_mk htb _)
 |_=>exact h.elim
end
end
end Go.Proofs.YtihfdjkjpncjfaaGreatDoor.A
end
section
namespace Go.Proofs.YtihfdjkjpncjfaaGreatDoor.A
open Go
theorem own:ownKnob Tryz.prog.godebug=none:=by kernel_rfl
theorem laidOut:laidOutB Tryz.prog=true:=by kernel_rfl
theorem rowed:mapsRowed Tryz.prog=true:=by kernel_rfl
theorem Qw2:(Tryz.prog.stops == [])=true:=by kernel_rfl
theorem Qxy:(Tryz.prog.stopKnobs == [])=true:=by kernel_rfl
theorem Qv5:Tryz.prog.stopsHeard=true:=by kernel_rfl
theorem Qt5:Tryz.prog.mayEnter=true:=by kernel_rfl
theorem Qv7:false=Tryz.prog.looks []:=by kernel_rfl
theorem main:Tryz.pinned.checked.prog.mainIs=some (true,("865417fab56b13a282402552e48e6d2f50d2bb4136acd6c04ea7e0746bf992cd":String).toList):=by kernel_rfl
noncomputable def relay (l:J0):Obj->Obj
 |.cells _ t fz=>.cells (l.map λn=>Value.int .u8 n).toArray t fz
 |o=>o
noncomputable def accept:J0:=[128,191,160,191,128,159,144,191,128,143,0,0,0,0,0,0,0,0,0,0,0,0,0,0,0,0,0,0,0,0,0,0]
noncomputable def Qhf (os:Os):World:=
 let w:=World.holding Tryz.prog os ⟨#[],#[],[]⟩
 {w with heap:=(w.heap.modify 3 (relay (Go.Pinned.utf8FirstZ.map Int.ofNat))).modify 4 (relay accept)}
def Runs {σ R:Type} (F:(σ->Option R)->σ->Option R) (x:σ) (r:R):Prop:=
 (∃n,We F n x=some r)/\∀n,We F n x=none\/We F n x=some r
theorem Runs.done {σ R:Type} {F:(σ->Option R)->σ->Option R} {x:σ} {r:R} (h:∀rec,F rec x=some r):Runs F x r:=by
 refine ⟨⟨1,h _⟩,λn=>?_⟩
 cases n with
 |zero=>exact .inl rfl
 |succ n=>exact .inr (h _)
theorem Runs.step {σ R:Type} {F:(σ->Option R)->σ->Option R} {x y:σ} {r:R} (h:∀rec,F rec x=rec y) (hy:Runs F y r):Runs F x r:=by
 obtain ⟨⟨m,hm⟩,ha⟩:=hy
 refine ⟨⟨m+1,by rw [<-hm];exact h _⟩,λn=>?_⟩
 cases n with
 |zero=>exact .inl rfl
 |succ n=>have:=ha n;rw [<-h (We F n)] at this;exact this
theorem Runs.lfp {σ R:Type} {F:(σ->Option R)->σ->Option R} {x:σ} {r:R} (h:Runs F x r):A.lfp F x=some r:=by
 obtain ⟨⟨m,hm⟩,ha⟩:=h
 unfold A.lfp
 have hex:∃n,(We F n x).isSome:=⟨m,by rw [hm];rfl⟩
 rw [dif_pos hex]
 rcases ha (Classical.choose hex) with h0|h0
 ·have:=Classical.choose_spec hex
  rw [h0] at this;simp at this
 ·exact h0
theorem Qc {n:Int} (h1:-9223372036854775808<=n) (h2:n<9223372036854775808):wr .i64 n=n:=by
 simp only [wr,IntKind.wrap,IntKind.signed,IntKind.bits]
 simp;omega
theorem Qo {n:Int} (h1:0<=n) (h2:n<18446744073709551616):wr .u64 n=n:=by
 simp only [wr,IntKind.wrap,IntKind.signed,IntKind.bits]
 simp;omega
theorem Wv (n:Int):wr .u64 n=n%18446744073709551616:=by
 simp [wr,IntKind.wrap,IntKind.signed,IntKind.bits]
theorem Qjz {n:Int} (h1:0<=n) (h2:n<256):wr .u8 n=n:=by
 simp only [wr,IntKind.wrap,IntKind.signed,IntKind.bits]
 simp;omega
theorem Qv3 {n:Int} (h:(Lit.int .u64 n).wf=true):0<=n/\n<18446744073709551616:=by
 simp [Lit.wf,IntKind.min,IntKind.max,IntKind.signed,IntKind.bits] at h;omega
theorem Qpc {n:Int} (h:(Lit.int .u32 n).wf=true):0<=n/\n<4294967296:=by
 simp [Lit.wf,IntKind.min,IntKind.max,IntKind.signed,IntKind.bits] at h;omega
theorem Qzu {n:Int} (h:(Lit.int .u16 n).wf=true):0<=n/\n<65536:=by
 simp [Lit.wf,IntKind.min,IntKind.max,IntKind.signed,IntKind.bits] at h;omega
theorem Qaw {n:Int} (h:(Lit.int .u8 n).wf=true):0<=n/\n<256:=by
 simp [Lit.wf,IntKind.min,IntKind.max,IntKind.signed,IntKind.bits] at h;omega
theorem Y1 {a b:Int} (h:0<=a):Int.tdiv a b=a/b:=Int.tdiv_eq_ediv_of_nonneg h
theorem Jf {a b:Int} (h:0<=a):Int.tmod a b=a%b:=Z76 h
def toB (B n:Nat):J0:=if h:2<=B/\0<n then ((n%B:Nat):Int)::toB B (n/B) else []
termination_by n
decreasing_by exact Z116 h.2 h.1
def valB (B:Nat):J0->Int
 |[]=>0
 |x::l=>x+B*valB B l
theorem toB_zero (B:Nat):toB B 0=[]:=by unfold toB;rw [dif_neg];omega
theorem W5 {B n:Nat} (hB:2<=B) (hn:0<n):toB B n=((n%B:Nat):Int)::toB B (n/B):=by
 rw [toB];rw [dif_pos ⟨hB,hn⟩]
def inB (B:Nat) (l:J0):Prop:=∀x∈l,0<=x/\x<B
theorem Wu {B:Nat} {x:Int} {l:J0}:inB B (x::l)↔(0<=x/\x<B)/\inB B l:=by simp [inB]
theorem inB_nil (B:Nat):inB B []:=by simp [inB]
theorem Qzl {B:Nat} {l l':J0}:inB B (l++l')↔inB B l/\inB B l':=by
 simp only [inB,Z50]
 exact ⟨λh=>⟨λx hx=>h x (.inl hx),λx hx=>h x (.inr hx)⟩,λh x hx=>hx.elim (h.1 x) (h.2 x)⟩
theorem Q3 {B:Nat} (hB:2<=B) (n:Nat):inB B (toB B n):=by
 induction n using Nat.strongRecOn with
 |
  _ n ih=>
  rcases Z12 n with rfl|hn
  ·rw [toB_zero];exact inB_nil B
  ·rw [W5 hB hn,Wu]
   refine ⟨⟨by omega,?_⟩,ih _ (Z116 hn hB)⟩
   exact_mod_cast Z79 n (by omega)
theorem Wj {B:Nat} (hB:2<=B) (n:Nat):valB B (toB B n)=n:=by
 induction n using Nat.strongRecOn with
 |
  _ n ih=>
  rcases Z12 n with rfl|hn
  ·rw [toB_zero];rfl
  ·rw [W5 hB hn,valB,ih _ (Z116 hn hB)]
   exact_mod_cast Nat.mod_add_div n B
theorem Wd {B:Nat}:∀{l:J0},inB B l->0<=valB B l
 |[],_=>Z99 0
 |
  x::l,h=>by
  rw [Wu] at h
  have:=Wd h.2
  have:=Z42 (Z55 B) this
  unfold valB;omega
theorem W8 {B:Nat} (hB:2<=B):∀{l:J0},inB B l->valB B l<(B^l.length:Nat)
 |[],_=>by simp [valB]
 |
  x::l,h=>by
  rw [Wu] at h
  have h1:=W8 hB h.2
  have h2:(B:Int)*(valB B l+1)<=B*(B^l.length:Nat):=Int.mul_le_mul_of_nonneg_left (by omega) (by omega)
  have h3:(B:Int)*(valB B l+1)=B*valB B l+B:=by rw [Int.mul_add,Int.mul_one]
  have h4:((B^(x::l).length:Nat):Int)=B*(B^l.length:Nat):=by
   rw [Z9,Z44,Z24];exact_mod_cast rfl
  rw [h4];unfold valB;omega
theorem Qfy (B:Nat):∀(l l':J0),valB B (l++l')=valB B l+(B^l.length:Nat)*valB B l'
 |[],l'=>by simp [valB]
 |
  x::l,l'=>by
  rw [Z111,valB,valB,Qfy B l l',Z9,Z44,Z24 (B^l.length) B,Z14,Int.mul_add,Int.mul_assoc,Int.add_assoc]
theorem Qgu {B:Nat} (hB:2<=B):∀{l:J0},inB B l->(∀h:l≠[],l.getLast h≠0)->l=toB B (valB B l).toNat
 |[],_,_=>by simp [valB,toB_zero]
 |
  x::l,h,hl=>by
  rw [Wu] at h
  have hn:=Wd h.2
  have ih:=Qgu hB h.2 λhne=>by have:=hl (by simp);rwa [List.getLast_cons hne] at this
  have hpos:0<(valB B (x::l)).toNat:=by
   have hm:=Z42 (Z55 B) hn
   unfold valB
   by_cases hx:x=0
   ·have hne:l≠[]:=λe=>by subst e;exact hl (by simp) (by simpa using hx)
    have:0<valB B l:=by
     rcases Int.lt_or_eq_of_le hn with h0|h0
     ·exact h0
     ·rw [<-h0] at ih;simp [toB_zero] at ih;exact absurd ih hne
    have:=Int.mul_pos (show (0:Int)<B by omega) this
    omega
   ·omega
  have e1:(valB B (x::l)).toNat=x.toNat+B*(valB B l).toNat:=by
   have hv:valB B (x::l)=x+B*valB B l:=rfl
   rw [hv]
   have hm:=Z42 (Z55 B) hn
   have:((B*(valB B l).toNat:Nat):Int)=B*valB B l:=by rw [Z14,Int.toNat_of_nonneg hn]
   omega
  have hx:x.toNat<B:=by omega
  rw [W5 hB hpos,e1,Z96,Z110 hx,Nat.add_mul_div_left _ _ (by omega),Nat.div_eq_of_lt hx,Z18,<-ih,Int.toNat_of_nonneg h.1.1]
theorem Qgn {B:Nat} (hB:2<=B) (n:Nat):∀h:toB B n≠[],(toB B n).getLast h≠0:=by
 induction n using Nat.strongRecOn with
 |
  _ n ih=>
  intro h
  rcases Z12 n with rfl|hn
  ·exact absurd (toB_zero B) h
  ·have e:=W5 hB hn
   simp only [e]
   by_cases hq:toB B (n/B)=[]
   ·simp only [hq,List.getLast_singleton]
    have h0:n/B=0:=by
     rcases Z12 (n/B) with h0|h0
     ·exact h0
     ·rw [W5 hB h0] at hq;simp at hq
    have:n<B:=by
     rcases Z39 n B with h1|h1
     ·exact h1
     ·have:=Nat.div_pos h1 (by omega);omega
    rw [Z110 this];omega
   ·rw [List.getLast_cons hq]
    exact ih _ (Z116 hn hB) hq
theorem toB_nil {B n:Nat} (hB:2<=B):toB B n=[]↔n=0:=by
 constructor
 ·intro h
  rcases Z12 n with h0|h0
  ·exact h0
  ·rw [W5 hB h0] at h;simp at h
 ·rintro rfl;exact toB_zero B
theorem Qr3 {B:Nat} (hB:2<=B) (i:Nat):∀n,(toB B n).getD i 0=((n/B^i%B:Nat):Int):=by
 induction i with
 |
  zero=>
  intro n
  rcases Z12 n with rfl|hn
  ·simp [toB_zero]
  ·rw [W5 hB hn];simp
 |
  succ i ih=>
  intro n
  rcases Z12 n with rfl|hn
  ·simp [toB_zero]
  ·rw [W5 hB hn,List.getD_cons_succ,ih,Nat.div_div_eq_div_mul,Z44,Z24 B]
theorem Qbm {B n:Nat} (hB:2<=B):n<B^(toB B n).length:=by
 have:=W8 hB (Q3 hB n)
 rw [Wj hB] at this
 exact_mod_cast this
theorem Yf {B:Nat} (hB:2<=B):∀{k n:Nat},n<B^k->(toB B n).length<=k
 |0,n,h=>by
         have:n=0:=by simpa using h
         subst this;simp [toB_zero]
 |
  k+1,n,h=>by
  rcases Z12 n with rfl|hn
  ·simp [toB_zero]
  ·rw [W5 hB hn,Z9]
   have:n/B<B^k:=Z57 (by rw [Z44,Z24] at h;exact h)
   have:=Yf hB this
   omega
theorem Qrj {B n:Nat} (hB:2<=B) (hn:0<n):B^((toB B n).length-1)<=n:=by
 rcases Z39 n (B^((toB B n).length-1)) with h|h
 ·have h1:=Yf hB h
  have h2:toB B n≠[]:=λe=>by rw [toB_nil hB] at e;omega
  have:=List.length_pos_iff.2 h2
  omega
 ·exact h
theorem bif_t {α:Type} {p:Prop} [Decidable p] {a b:α} (h:p):(bif decide p then a else b)=a:=by simp [h]
theorem Qb {α:Type} {p:Prop} [Decidable p] {a b:α} (h:¬p):(bif decide p then a else b)=b:=by simp [h]
abbrev Qam {α:Type} (l:List α):Prop:=l.length<=1000000000
abbrev dg (n:Nat):J0:=toB 10000 n
theorem b4:2<=10000:=by decide
theorem Jz {B:Nat} {l:J0} {n:Nat} (h:n<l.length):valB B (l.take (n+1))=valB B (l.take n)+(B^n:Nat)*l[n]:=by
 rw [List.take_succ_eq_append_getElem h,Qfy,Z8,Z53 (by omega)]
 simp [valB]
theorem W1 {l:J0} {n:Nat} (h:n<l.length):l.getD n 0=l[n]:=by simp [List.getD,h]
theorem Qku {B:Nat} (hB:2<=B) {l:J0} (hl:inB B l) (hs:Qam l):z138.F l=some (toB B (valB B l).toNat):=by
 have key:∀n:Nat,n<=l.length->∃m:Nat,m<=n/\Runs (λrec x=>z138.l0P l rec some x) (n:Int) (m:Int)/\valB B (l.take m)=valB B (l.take n)/\(m=0\/l.getD (m-1) 0≠0):=by
  intro n
  induction n with
  |zero=>exact λ_=>⟨0,Z4 0,.done λrec=>by simp [z138.l0P],rfl,.inl rfl⟩
  |
   succ n ih=>
   intro hn
   have hs':l.length<=1000000000:=hs
   have e:wr .i64 (((n+1:Nat):Int)-1)=(n:Int):=by rw [Qc]<;>omega
   have e0:((n+1:Nat):Int)>0:=by omega
   have e1:(0:Int)<=(n:Int)/\(n:Int)<(l.length:Int):=by omega
   by_cases hz:l.getD n 0=0
   ·obtain ⟨m,h1,h2,h3,h4⟩:=ih (by omega)
    refine ⟨m,by omega,.step (λrec=>?_) h2,?_,h4⟩
    ·unfold z138.l0P
     rw [bif_t e0,e,if_pos e1,Zi,bif_t hz]
    ·rw [h3,Jz (show n<l.length by omega),<-W1,hz];simp
   ·refine ⟨n+1,Z4 _,.done λrec=>?_,rfl,.inr (by simpa using hz)⟩
    unfold z138.l0P
    rw [bif_t e0,e,if_pos e1,Zi,Qb hz]
 obtain ⟨m,h1,h2,h3,h4⟩:=key l.length (Z4 _)
 unfold z138.F z138.l0
 rw [h2.lfp]
 simp only [Zb]
 rw [if_pos (by omega),Zi]
 rw [Z100] at h3
 rw [<-h3]
 congr 1
 apply Qgu hB (λx hx=>hl x (Z56 hx))
 intro hne
 rcases h4 with rfl|h4
 ·simp at hne
 ·rw [List.getLast_eq_getElem]
  have hm:0<m:=by
   rcases Z12 m with h0|h0
   ·subst h0;simp at hne
   ·exact h0
  rw [W1 (by omega)] at h4
  simp only [Z8,List.getElem_take]
  have:min m l.length-1=m-1:=by omega
  simp only [this]
  exact h4
theorem Qsw {l:J0} (hl:inB 10000 l) (hs:Qam l):z138.F l=some (dg (valB 10000 l).toNat):=Qku b4 hl hs
theorem Qy2 {l:J0} {i:Nat}:z137.F l (i:Int)=some (l.getD i 0):=by
 unfold z137.F
 by_cases h:(i:Int)>=(l.length:Int)
 ·rw [bif_t h]
  have:l.getD i 0=0:=by simp [List.getD,Z17 (show l.length<=i by omega)]
  rw [this]
 ·rw [Qb h,if_pos (by omega),Zi]
theorem Qlh {n:Nat} (hn:n<9223372036854775808):z11.F (n:Int)=some (dg n):=by
 have key:∀(n:Nat),n<9223372036854775808->∀s:J0,Qam s->(s.length+(dg n).length<=1000000000)->Runs (λrec x=>z11.l0P rec some x) ((n:Int),s) ((0:Int),s++dg n):=by
  intro n
  induction n using Nat.strongRecOn with
  |
   _ n ih=>
   intro hn s hs hl
   rcases Z12 n with rfl|h0
   ·refine .done λrec=>?_
    simp [z11.l0P,toB_zero]
   ·have e:dg n=((n%10000:Nat):Int)::dg (n/10000):=W5 b4 h0
    have hd:n/10000<n:=Z116 h0 (by decide)
    rw [e] at hl ⊢
    have h2:=ih (n/10000) hd (by omega) (s++[((n%10000:Nat):Int)]) (by simp at *;omega) (by simp at *;omega)
    rw [Z82,List.singleton_append] at h2
    refine .step (λrec=>?_) h2
    unfold z11.l0P
    simp only
    have e1:Int.tmod (n:Int) 10000=((n%10000:Nat):Int):=by rw [Jf (by omega)];rfl
    have e2:wr .i64 (Int.tdiv (n:Int) 10000)=((n/10000:Nat):Int):=by rw [Y1 (by omega),Qc (by omega) (by omega)];rfl
    rw [bif_t (by omega),if_pos (by simp at *;omega),e1,e2]
 unfold z11.F z11.l0
 have hl:(dg n).length<=5:=Yf b4 (by omega)
 rw [(key n hn [] (by simp) (by simp;omega)).lfp]
 simp
def ch (d:Int):UInt8:=UInt8.ofNat (48+d.toNat)
def txt (n:Nat):J1:=if n=0 then [48] else (toB 10 n).reverse.map ch
theorem b10:2<=10:=by decide
theorem Qfv {d:Int} (h0:0<=d) (h:d<10):(ch d).toNat=48+d.toNat:=by
 unfold ch;rw [UInt8.toNat_ofNat'];omega
def dig4 (d:Int):J0:=[d%10,d/10%10,d/100%10,d/1000%10]
theorem Que {d:Int} (h0:0<=d):inB 10 (dig4 d):=by
 intro x hx;simp [dig4] at hx;rcases hx with rfl|rfl|rfl|rfl<;>omega
theorem Qxr {d:Int} (h0:0<=d) (h:d<10000):valB 10 (dig4 d)=d:=by simp [dig4,valB];omega
theorem Qmk:∀{l:J0},inB 10000 l->inB 10 (l.flatMap dig4)
 |[],_=>inB_nil 10
 |x::l,h=>by rw [Wu] at h;rw [Z93,Qzl];exact ⟨Que h.1.1,Qmk h.2⟩
theorem Qqj:∀{l:J0},inB 10000 l->valB 10 (l.flatMap dig4)=valB 10000 l
 |[],_=>rfl
 |
  x::l,h=>by
  rw [Wu] at h
  rw [Z93,Qfy,Qxr h.1.1 h.1.2,Qqj h.2]
  simp [dig4,valB]
theorem Qhz:∀(l:J0),(l.flatMap dig4).length=4*l.length
 |[]=>rfl
 |x::l=>by rw [Z93,Z10,Qhz l];simp [dig4];omega
theorem Qtm (s:J1) (hs:Qam s) (d:Int) (h0:0<=d) (hd:d<10000):∃d',z5.l2 (s,d,(0:Int))=some (((dig4 d).reverse.map ch)++s,d',4):=by
 have hs':s.length<=1000000000:=hs
 have one:∀(s:J1) (d:Int) (k:Nat),s.length<=1000000004->0<=d->d<10000->k<4->∀rec,z5.l2P rec some (s,d,(k:Int))=rec (ch (d%10)::s,d/10,((k+1:Nat):Int)):=by
  intro s d k hs h0 hd hk rec
  unfold z5.l2P
  simp only
  rw [bif_t (by omega),if_pos (by simp;omega),Jf h0,Y1 h0,Qc (n:=48+d%10) (by omega) (by omega),Qjz (by omega) (by omega),Qc (n:=d/10) (by omega) (by omega),Qc (by omega) (by omega)]
  have:(48+d%10).toNat=48+(d%10).toNat:=by omega
  simp [ch,this]
 refine ⟨d/10/10/10/10,?_⟩
 unfold z5.l2
 refine Runs.lfp (.step (one s d 0 (by omega) h0 hd (by decide)) (.step (one _ (d/10) 1 (by simp;omega) (by omega) (by omega) (by decide)) (.step (one _ (d/10/10) 2 (by simp;omega) (by omega) (by omega) (by decide)) (.step (one _ (d/10/10/10) 3 (by simp;omega) (by omega) (by omega) (by decide)) (.done λrec=>?_)))))
 unfold z5.l2P
 simp only
 rw [Qb (by omega)]
 have e1:d/10/10=d/100:=by omega
 have e2:d/10/10/10=d/1000:=by omega
 simp [dig4,e1,show d/100/10=d/1000 by omega]
theorem Qxn {l:J0} (hl:inB 10000 l) (hs:4*l.length<=1000000000):z5.l0 l ([],(0:Int))=some ((l.flatMap dig4).reverse.map ch,(l.length:Int)):=by
 have key:∀(k:Nat),k<=l.length->Runs (λrec x=>z5.l0P l rec some x) (((l.take (l.length-k)).flatMap dig4).reverse.map ch,((l.length-k:Nat):Int)) ((l.flatMap dig4).reverse.map ch,(l.length:Int)):=by
  intro k
  induction k with
  |
   zero=>
   intro _
   refine .done λrec=>?_
   unfold z5.l0P
   simp
  |
   succ k ih=>
   intro hk
   have hi:l.length-(k+1)<l.length:=by omega
   have hm:=hl l[l.length-(k+1)] (Z15 hi)
   obtain ⟨d',h2⟩:=Qtm (((l.take (l.length-(k+1))).flatMap dig4).reverse.map ch) (by
    show List.length _<=_;rw [Z13,List.length_reverse,Qhz,Z8];omega) _ hm.1 hm.2
   refine .step (λrec=>?_) (ih (by omega))
   unfold z5.l0P
   simp only
   rw [bif_t (by omega),if_pos (by omega),Zi,W1 hi,h2]
   simp only [Zb]
   rw [Qc (by omega) (by omega)]
   have e:l.take (l.length-k)=l.take (l.length-(k+1))++[l[l.length-(k+1)]]:=by
    rw [<-List.take_succ_eq_append_getElem hi];congr 1;omega
   have e2:((l.length-(k+1):Nat):Int)+1=((l.length-k:Nat):Int):=by omega
   rw [e,e2,List.flatMap_append]
   simp only [Z93,List.flatMap_nil,Z45,List.reverse_append,Z71]
 have:=key l.length (Z4 _)
 simp only [Nat.sub_self,List.take_zero,List.flatMap_nil,List.reverse_nil,List.map_nil] at this
 exact this.lfp
theorem Qly {d:Int} (h0:0<=d) (h:d<10):((ch d).toNat:Int)=48↔d=0:=by rw [Qfv h0 h];omega
theorem Qk8 {n:Nat} (hs:4*(dg n).length<=1000000000):z5.F (dg n)=some (txt n):=by
 unfold z5.F txt
 by_cases hn:n=0
 ·subst hn;simp [dg,toB_zero]
 ·have hne:dg n≠[]:=λe=>hn ((toB_nil b4).1 e)
  have hlen:=List.length_pos_iff.2 hne
  rw [Qb (by omega),if_neg hn,Qxn (Q3 b4 n) hs]
  simp only [Zb]
  generalize hfl:(dg n).flatMap dig4=fl
  have hin:inB 10 fl:=by rw [<-hfl];exact Qmk (Q3 b4 n)
  have hv:valB 10 fl=n:=by rw [<-hfl,Qqj (Q3 b4 n),Wj b4]
  have hl:fl.length<=1000000000:=by rw [<-hfl,Qhz];exact hs
  have key:∀k:Nat,k<=fl.length->valB 10 (fl.take k)=n->∃m:Nat,m<=k/\Runs (λrec x=>z5.l4P (fl.reverse.map ch) rec some x) ((fl.length-k:Nat):Int) ((fl.length-m:Nat):Int)/\valB 10 (fl.take m)=n/\(m=0\/fl.getD (m-1) 0≠0):=by
   intro k
   induction k with
   |zero=>intro _ h;simp [valB] at h;omega
   |
    succ k ih=>
    intro hk h
    have hi:fl.length-(k+1)<(fl.reverse.map ch).length:=by simp;omega
    have hk':k<fl.length:=by omega
    have hm:=hin fl[k] (Z15 hk')
    have eg:(fl.reverse.map ch).getD (fl.length-(k+1)) 0=ch fl[k]:=by
     have e0:fl.length-1-(fl.length-(k+1))=k:=by omega
     simp only [List.getD,Z1 hi,Z52,Z20,List.getElem_reverse,e0]
    by_cases hz:fl[k]=0
    ·obtain ⟨m,h1,h2,h3,h4⟩:=ih (by omega) (by rw [Jz hk',hz] at h;simpa using h)
     refine ⟨m,by omega,.step (λrec=>?_) h2,h3,h4⟩
     unfold z5.l4P
     rw [if_pos (by simp;omega),Zi,eg,bif_t ((Qly hm.1 hm.2).2 hz),Qc (by omega) (by omega)]
     congr 1;omega
    ·refine ⟨k+1,Z4 _,.done λrec=>?_,h,.inr (by rw [Nat.add_sub_cancel,W1 hk'];exact hz)⟩
     unfold z5.l4P
     rw [if_pos (by simp;omega),Zi,eg,Qb (λe=>hz ((Qly hm.1 hm.2).1 e))]
  obtain ⟨m,h1,h2,h3,h4⟩:=key fl.length (Z4 _) (by rw [Z100];exact hv)
  rw [Nat.sub_self] at h2
  unfold z5.l4
  rw [show (0:Int)=((0:Nat):Int) from rfl,h2.lfp]
  simp only [Zb]
  rw [if_pos (by rw [Z13,List.length_reverse];omega),Zi]
  have hm:m≠0:=by rintro rfl;simp [valB] at h3;omega
  have e:fl.take m=toB 10 n:=by
   have:=Qgu b10 (l:=fl.take m) (λx hx=>hin x (Z56 hx)) λhne=>by
    rcases h4 with h4|h4
    ·exact absurd h4 hm
    ·rw [List.getLast_eq_getElem]
     rw [W1 (by omega)] at h4
     simp only [Z8,List.getElem_take]
     have:min m fl.length-1=m-1:=by omega
     simp only [this];exact h4
   rwa [h3,Zi] at this
  rw [<-e,<-List.map_drop,List.reverse_take]
theorem Yh {B:Nat}:∀{l:J0} {j:Nat} {x:Int},j<l.length->valB B (l.set j x)=valB B l+(x-l.getD j 0)*(B^j:Nat)
 |y::l,0,x,_=>by simp [valB];omega
 |
  y::l,j+1,x,h=>by
  have:=Yh (B:=B) (l:=l) (j:=j) (x:=x) (by simpa using h)
  rw [List.set_cons_succ,valB,valB,this,List.getD_cons_succ,Z44,Z24 (B^j) B,Z14,Int.mul_add,Int.add_assoc]
  congr 2
  rw [Int.mul_left_comm]
theorem Yc {B:Nat} {l:J0} {j:Nat} {x:Int} (h:inB B l) (hx:0<=x/\x<B):inB B (l.set j x):=λy hy=>by
 rcases List.mem_or_eq_of_mem_set hy with h1|rfl
 ·exact h y h1
 ·exact hx
theorem Wf {B:Nat}:∀(l:J0) (k:Nat),valB B (l.drop k)=l.getD k 0+B*valB B (l.drop (k+1))
 |[],k=>by simp [valB]
 |x::l,0=>by simp [valB]
 |x::l,k+1=>by rw [List.drop_succ_cons,List.drop_succ_cons,List.getD_cons_succ];exact Wf l k
theorem Q8 {B:Nat} (hB:0<B) {l:J0} (h:inB B l) (k:Nat):0<=l.getD k 0/\l.getD k 0<B:=by
 by_cases hk:k<l.length
 ·rw [W1 hk];exact h _ (Z15 hk)
 ·simp [List.getD,Z17 (show l.length<=k by omega)];omega
theorem Y3 {B:Nat} {l:J0} (h:inB B l) (k:Nat):inB B (l.drop k):=λx hx=>h x (Z67 hx)
theorem Wh {B:Nat} {l:J0} (h:inB B l) (k:Nat):inB B (l.take k):=λx hx=>h x (Z56 hx)
theorem Qvi {a b s:J0} {i k:Nat} {c:Int} (ha:inB 10000 a) (hb:inB 10000 b) (hs:inB 10000 s) (hi:i<a.length) (hk:i+k<s.length) (hsl:s.length<=4000000000) (hc:0<=c/\c<10000) (hgo:k<b.length\/0<c)
  (rec:Int×Int×J0->Option (Int×Int×J0)) :
  z139.l2P a b (i:Int) rec some (c,(k:Int),s) =
   rec ((s.getD (i+k) 0+a.getD i 0*b.getD k 0+c)/10000,((k+1:Nat):Int),s.set (i+k) ((s.getD (i+k) 0+a.getD i 0*b.getD k 0+c)%10000)):=by
 have h1:=Q8 (by decide) ha i
 have h2:=Q8 (by decide) hb k
 have h3:=Q8 (by decide) hs (i+k)
 have h4:0<=a.getD i 0*b.getD k 0:=Z42 h1.1 h2.1
 have h5:a.getD i 0*b.getD k 0<=9999*9999:=Z105 (by omega) (by omega) h2.1 (by decide)
 have e1:wr .i64 ((i:Int)+k)=((i+k:Nat):Int):=by rw [Qc (by omega) (by omega)];omega
 have e2:wr .i64 (a.getD i 0*b.getD k 0)=a.getD i 0*b.getD k 0:=Qc (by omega) (by omega)
 have e3:wr .i64 (s.getD (i+k) 0+a.getD i 0*b.getD k 0)=s.getD (i+k) 0+a.getD i 0*b.getD k 0:=Qc (by omega) (by omega)
 have e4:wr .i64 (s.getD (i+k) 0+a.getD i 0*b.getD k 0+c)=s.getD (i+k) 0+a.getD i 0*b.getD k 0+c:=Qc (by omega) (by omega)
 have e5:wr .i64 ((k:Int)+1)=((k+1:Nat):Int):=by rw [Qc (by omega) (by omega)];omega
 unfold z139.l2P
 simp only [Qy2,Zb,e1,Zi,e2,e3,e4,e5]
 rw [Y1 (by omega),Jf (by omega),Qc (n:=(_:Int)/10000) (by omega) (by omega)]
 have c1:(0:Int)<=((i+k:Nat):Int)/\((i+k:Nat):Int)<(s.length:Int):=by omega
 have c2:(0:Int)<=(i:Int)/\(i:Int)<(a.length:Int):=by omega
 simp only [if_pos c1,if_pos hk,if_pos c2]
 by_cases hkb:(k:Int)<(b.length:Int)
 ·rw [bif_t hkb]
 ·rw [Qb hkb,bif_t (show c>0 by omega)]
theorem Qoi {a b:J0} {i:Nat} {T:Int} (ha:inB 10000 a) (hb:inB 10000 b) (hi:i<a.length) (hT:T<(10000^(i+1+b.length):Nat)) :
  ∀
   (f k:Nat) (c:Int) (s:J0),inB 10000 s->i+1+b.length<s.length->s.length<=4000000000->0<=c/\c<10000->b.length+2<=k+f ->
   valB 10000 s+(c+a.getD i 0*valB 10000 (b.drop k))*(10000^(i+k):Nat)=T ->
   ∃k' s',Runs (λrec x=>z139.l2P a b (i:Int) rec some x) (c,(k:Int),s) ((0:Int),k',s')/\inB 10000 s'/\s'.length=s.length/\valB 10000 s'=T
 |
  f,k,c,s,hs,hl,hl',hc,hf,hv=>by
  have hbd:=Wd (Y3 hb k)
  have h1:=Q8 (B:=10000) (by decide) ha i
  have hsv:=Wd hs
  have hab:=Z42 h1.1 hbd
  by_cases hgo:k<b.length\/0<c
  ·have hk:k<=b.length:=by
    rcases hgo with h|h
    ·omega
    ·rcases Z39 b.length k with hlt|hge
     ·exfalso
      have h2:(10000^(i+1+b.length):Nat)<=10000^(i+k):=Z33 (by decide) (by omega)
      have h3:(1:Int)*(10000^(i+k):Nat)<=(c+a.getD i 0*valB 10000 (b.drop k))*(10000^(i+k):Nat):=Z62 (by omega) (Z55 _)
      have h4:((10000^(i+1+b.length):Nat):Int)<=(10000^(i+k):Nat):=by exact_mod_cast h2
      omega
     ·exact hge
   match f,hf with
   |0,hf=>omega
   |
    f+1,hf=>
    have h2:=Q8 (B:=10000) (by decide) hb k
    have h3:=Q8 (B:=10000) (by decide) hs (i+k)
    have h4:0<=a.getD i 0*b.getD k 0:=Z42 h1.1 h2.1
    have h5:a.getD i 0*b.getD k 0<=9999*9999:=Z105 (by omega) (by omega) h2.1 (by decide)
    obtain ⟨k',s',r1,r2,r3,r4⟩:=Qoi ha hb hi hT f (k+1) ((s.getD (i+k) 0+a.getD i 0*b.getD k 0+c)/10000) (s.set (i+k) ((s.getD (i+k) 0+a.getD i 0*b.getD k 0+c)%10000))
     (Yc hs (by omega)) (by rw [Z21];exact hl) (by rw [Z21];exact hl') (by omega) (by omega) (by
      rw [Yh (by omega),<-hv,Wf b k]
      generalize hx:s.getD (i+k) 0+a.getD i 0*b.getD k 0+c=x
      have e1:(10000^(i+(k+1)):Nat)=10000*10000^(i+k):=by rw [<-Z36,Z44,Z24]
      rw [e1,Z14]
      have e2:x=10000*(x/10000)+x%10000:=(Z83 x 10000).symm
      generalize x/10000=q at *
      generalize x%10000=m at *
      subst e2
      generalize ((10000^(i+k):Nat):Int)=p
      generalize valB 10000 (b.drop (k+1))=w
      generalize a.getD i 0=u at *
      generalize b.getD k 0=v at *
      generalize s.getD (i+k) 0=z at *
      have hc':c=10000*q+m-z-u*v:=by omega
      subst hc'
      grind)
    refine ⟨k',s',.step (λrec=>Qvi ha hb hs hi (by omega) hl' hc hgo rec) r1,r2,by rw [r3,Z21],r4⟩
  ·have hc0:c=0:=by omega
   have hkb:b.length<=k:=by omega
   subst hc0
   refine ⟨k,s,.done λrec=>?_,hs,rfl,?_⟩
   ·unfold z139.l2P
    simp only
    rw [Qb (by omega),Qb (by omega)]
   ·rw [Z26 hkb] at hv
    simpa [valB] using hv
theorem Qoq {a b:J0} (ha:inB 10000 a) (hb:inB 10000 b) (hal:a.length+b.length<=3000000000) :
  ∀
   (f i:Nat) (s:J0),i+f=a.length->inB 10000 s->s.length=a.length+b.length+1->valB 10000 s=valB 10000 (a.take i)*valB 10000 b ->
   ∃s',Runs (λrec x=>z139.l0P a b rec some x) ((i:Int),s) ((a.length:Int),s')/\inB 10000 s'/\s'.length=s.length/\valB 10000 s'=valB 10000 a*valB 10000 b
 |
  0,i,s,hf,hs,hl,hv=>by
  have:i=a.length:=by omega
  subst this
  refine ⟨s,.done λrec=>?_,hs,rfl,by rwa [Z100] at hv⟩
  unfold z139.l0P
  simp
 |
  f+1,i,s,hf,hs,hl,hv=>by
  have hi:i<a.length:=by omega
  have hT:valB 10000 (a.take (i+1))*valB 10000 b<(10000^(i+1+b.length):Nat):=by
   have h1:=W8 b4 (Wh ha (i+1))
   have h2:=W8 b4 hb
   have h3:=Wd (Wh ha (i+1))
   have h4:=Wd hb
   rw [Z8,Z53 (by omega)] at h1
   rw [Z101,Z14]
   rcases Int.lt_or_eq_of_le h4 with h0|h0
   ·exact Int.mul_lt_mul h1 (Int.le_of_lt h2) h0 (by omega)
   ·rw [<-h0,Int.mul_zero];exact Int.mul_pos (by omega) (by omega)
  obtain ⟨k',s',r1,r2,r3,r4⟩:=Qoi ha hb hi hT (b.length+2) 0 0 s hs (by omega) (by omega) (by omega) (by omega) (by
   rw [hv,Jz hi,Z34,Int.zero_add,Z77,W1 hi];grind)
  obtain ⟨s2,q1,q2,q3,q4⟩:=Qoq ha hb hal f (i+1) s' (by omega) r2 (by omega) r4
  refine ⟨s2,.step (λrec=>?_) q1,q2,by omega,q4⟩
  have e:z139.l2 a b (i:Int) ((0:Int),(0:Int),s)=some ((0:Int),k',s'):=r1.lfp
  unfold z139.l0P
  simp only
  rw [bif_t (by omega),e]
  simp only [Zb]
  rw [Qc (by omega) (by omega)]
  rfl
theorem Qca (B:Nat):∀n:Nat,valB B (List.replicate n (0:Int))=0
 |0=>rfl
 |n+1=>by rw [List.replicate_succ,valB,Qca B n];simp
theorem Qbi {B:Nat} (hB:0<B) (n:Nat):inB B (List.replicate n (0:Int)):=λx hx=>by
 rw [List.mem_replicate] at hx;rw [hx.2];omega
theorem Qx0 {a b:J0} (ha:inB 10000 a) (hb:inB 10000 b) (hal:a.length+b.length<=900000000):z139.F a b=some (dg (valB 10000 a*valB 10000 b).toNat):=by
 unfold z139.F z139.l0
 have e:wr .i64 (wr .i64 ((a.length:Int)+(b.length:Int))+1)=((a.length+b.length+1:Nat):Int):=by
  rw [Qc (n:=(a.length:Int)+b.length) (by omega) (by omega),Qc (by omega) (by omega)];omega
 rw [e,if_pos (by omega),Zi]
 obtain ⟨s',r1,r2,r3,r4⟩:=Qoq ha hb (by omega) a.length 0 (List.replicate (a.length+b.length+1) 0) (by omega) (Qbi (by decide) _) (by simp) (by rw [Qca];simp [valB])
 rw [show ((0:Int),List.replicate (a.length+b.length+1) (0:Int))=(((0:Nat):Int),List.replicate (a.length+b.length+1) (0:Int)) from rfl,r1.lfp]
 simp only [Zb]
 rw [Qsw r2 (by show List.length _<=_;rw [r3];simp;omega),r4]
 rfl
theorem Quq {m n:Nat} (hl:(dg m).length+(dg n).length<=900000000):z139.F (dg m) (dg n)=some (dg (m*n)):=by
 rw [Qx0 (Q3 b4 m) (Q3 b4 n) hl,Wj b4,Wj b4]
 congr 2
def cmpI (m n:Int):Int:=if m<n then -1 else if m=n then 0 else 1
theorem Qsh {B:Nat} (hB:2<=B) {l:J0} (h:inB B l) {k:Nat} (hk:k<=l.length):valB B (l.take k)<(B^k:Nat):=by
 have:=W8 hB (Wh h k)
 rwa [Z8,Z53 hk] at this
theorem Qkp {B:Nat} (hB:2<=B) {a b:J0} (ha:inB B a) (hb:inB B b) {k:Nat} (hka:k<a.length) (hkb:k<b.length) :
  (a[k]<b[k]->valB B (a.take (k+1))<valB B (b.take (k+1)))/\(a[k]=b[k]->(valB B (a.take (k+1))-valB B (b.take (k+1))=valB B (a.take k)-valB B (b.take k))):=by
 rw [Jz hka,Jz hkb]
 have h1:=Qsh hB ha (k:=k) (by omega)
 have h2:=Wd (Wh hb k)
 refine ⟨λh=>?_,λh=>by rw [h];omega⟩
 have h3:((B^k:Nat):Int)*(a[k]+1)<=(B^k:Nat)*b[k]:=Int.mul_le_mul_of_nonneg_left (by omega) (by omega)
 rw [Int.mul_add,Int.mul_one] at h3
 omega
theorem Qfs {B m n:Nat} (hB:2<=B) (h:(toB B m).length<(toB B n).length):m<n:=by
 have h1:=Qbm (n:=m) hB
 have hn:0<n:=by
  rcases Z12 n with rfl|h0
  ·rw [toB_zero] at h;simp at h
  ·exact h0
 have h2:=Qrj hB hn
 have h3:B^(toB B m).length<=B^((toB B n).length-1):=Z33 (by omega) (by omega)
 omega
def tv:Int->J1->Int
 |acc,[]=>acc
 |acc,b::s=>tv (10*acc+(b.toNat:Int)-48) s
def digit (b:UInt8):Prop:=48<=b.toNat/\b.toNat<=57
def Q1 (s:J1):Prop:=∀b∈s,digit b
theorem Qht:∀(s t:J1) (a:Int),tv a (s++t)=tv (tv a s) t
 |[],_,_=>rfl
 |b::s,t,a=>Qht s t _
theorem Qfm:∀(s:J1) (a:Int),tv a s=a*(10^s.length:Nat)+tv 0 s
 |[],a=>by simp [tv]
 |
  b::s,a=>by
  have h1:=Qfm s (10*a+(b.toNat:Int)-48)
  have h2:=Qfm s (10*0+(b.toNat:Int)-48)
  show tv (10*a+(b.toNat:Int)-48) s=a*_+tv (10*0+(b.toNat:Int)-48) s
  rw [h1,h2,Z9,Z44,Z14]
  generalize ((10^s.length:Nat):Int)=p
  grind
theorem Qbj:∀{s:J1},Q1 s->0<=tv 0 s/\tv 0 s<(10^s.length:Nat)
 |[],_=>by simp [tv]
 |
  b::s,h=>by
  have hb:=h b (by simp)
  have ih:=Qbj (s:=s) λx hx=>h x (by simp [hx])
  have e:tv 0 (b::s)=((b.toNat:Int)-48)*(10^s.length:Nat)+tv 0 s:=by
   show tv (10*0+(b.toNat:Int)-48) s=_
   rw [Qfm];simp
  have hp:(0:Int)<=(10^s.length:Nat):=Z55 _
  unfold digit at hb
  have h1:0<=((b.toNat:Int)-48)*(10^s.length:Nat):=Z42 (by omega) hp
  have h2:((b.toNat:Int)-48)*(10^s.length:Nat)<=9*(10^s.length:Nat):=Z62 (by omega) hp
  rw [e,Z9,Z44,Z14]
  omega
theorem Qkg:∀{l:J0},inB 10 l->tv 0 (l.reverse.map ch)=valB 10 l
 |[],_=>rfl
 |
  x::l,h=>by
  rw [Wu] at h
  rw [List.reverse_cons,Z71,Qht,Qkg h.2]
  show 10*valB 10 l+((ch x).toNat:Int)-48=x+10*valB 10 l
  rw [Qfv h.1.1 h.1.2];omega
theorem Qgg (n:Nat):Q1 (txt n):=by
 unfold txt
 split
 ·intro b hb;simp at hb;subst hb;unfold digit;decide
 ·intro b hb
  rw [List.mem_map] at hb
  obtain ⟨d,hd,rfl⟩:=hb
  have:=Q3 b10 n d (List.mem_reverse.1 hd)
  unfold digit
  rw [Qfv this.1 this.2];omega
theorem Qhx (n:Nat):tv 0 (txt n)=n:=by
 unfold txt
 split
 ·rename_i h;subst h;decide
 ·rw [Qkg (Q3 b10 n),Wj b10]
theorem Qv0 (n:Nat):txt n≠[]:=by
 unfold txt
 split
 ·simp
 ·rename_i h
  simp only [ne_eq,List.map_eq_nil_iff,List.reverse_eq_nil_iff]
  exact λe=>h ((toB_nil b10).1 e)
theorem Qoc {n:Nat} (hn:n≠0):∃b s,txt n=b::s/\b.toNat≠48:=by
 have h:=Qgn b10 n (λe=>hn ((toB_nil b10).1 e))
 have hne:toB 10 n≠[]:=λe=>hn ((toB_nil b10).1 e)
 have hin:=Q3 b10 n _ (List.getLast_mem hne)
 refine ⟨ch ((toB 10 n).getLast hne),((toB 10 n).dropLast.reverse.map ch),?_,?_⟩
 ·unfold txt
  rw [if_neg hn]
  conv=>lhs;rw [<-List.dropLast_concat_getLast hne]
  rw [List.reverse_append];rfl
 ·rw [Qfv hin.1 hin.2];omega
theorem Qb8 {n k:Nat} (h:n<10^k) (hk:0<k):(txt n).length<=k:=by
 unfold txt
 split
 ·show 1<=k;omega
 ·rw [Z13,List.length_reverse];exact Yf b10 h
abbrev neg (z:Int):Bool:=decide (z<0)
theorem Qta (n:Nat):(((dg n).length:Nat):Int)=0↔n=0:=by
 constructor
 ·intro h;exact (toB_nil b4).1 (List.length_eq_zero_iff.1 (Int.ofNat_eq_zero.1 h))
 ·rintro rfl;simp [dg,toB_zero]
theorem Qwm (n:Nat):(((dg n).length:Nat):Int)>0↔0<n:=by
 have:=Qta n;omega
theorem Qmr (n:Nat) (b:Bool):z10.F (dg n) b=some (dg n,b&&decide (0<n)):=by
 unfold z10.F
 cases b
 ·rfl
 ·simp only [Zd,Z81]
  congr 2
  exact decide_eq_decide.2 (Qwm n)
theorem Qmi {z:Int} {b:Bool} (h:(b=true/\z<=0)\/(b=false/\0<=z)):z10.F (dg z.natAbs) b=some (dg z.natAbs,neg z):=by
 rw [Qmr]
 congr 2
 rcases h with ⟨rfl,h⟩|⟨rfl,h⟩
 ·rw [Z81];exact decide_eq_decide.2 (by omega)
 ·rw [Z59];symm;exact Zf (by omega)
theorem Qav {z:Int} (h:-9223372036854775808<z/\z<9223372036854775808):z12.F z=some (dg z.natAbs,neg z):=by
 unfold z12.F
 by_cases hz:z<0
 ·have e:wr .i64 (0-z)=((z.natAbs:Nat):Int):=by rw [Qc (by omega) (by omega)];omega
  rw [bif_t hz,e,Qlh (by omega)]
  simp only [Zb]
  rw [Qmi (z:=z) (.inl ⟨rfl,by omega⟩)];rfl
 ·have e:z=((z.natAbs:Nat):Int):=by omega
  rw [Qb hz]
  conv=>lhs;rw [e]
  rw [Qlh (by omega)]
  simp only [Zb]
  rw [Qmi (z:=z) (.inr ⟨rfl,by omega⟩)];rfl
theorem Qvx {x y:Int} (hl:(dg x.natAbs).length+(dg y.natAbs).length<=900000000):z140.F (dg x.natAbs) (neg x) (dg y.natAbs) (neg y)=some (dg (x*y).natAbs,neg (x*y)):=by
 unfold z140.F
 rw [Quq hl,<-Z106]
 simp only [Zb]
 rw [Qmr]
 simp only [Zb]
 congr 2
 have h0:0<(x*y).natAbs↔x≠0/\y≠0:=by
  rw [Z106]
  constructor
  ·intro h;exact ⟨by rintro rfl;simp at h,by rintro rfl;simp at h⟩
  ·rintro ⟨h1,h2⟩;exact Z49 (by omega) (by omega)
 rw [Bool.eq_iff_iff]
 simp only [Z7,Z75,decide_eq_true_eq,decide_eq_false_iff_not,h0]
 rcases Z84 x 0 with hx|hx|hx<;>rcases Z84 y 0 with hy|hy|hy
 ·have:=Int.mul_pos_of_neg_of_neg hx hy;simp [hx,hy];omega
 ·subst hy;simp
 ·have:=Int.mul_neg_of_neg_of_pos hx hy;simp [hx];omega
 ·subst hx;simp
 ·subst hx;simp
 ·subst hx;simp
 ·have:=Int.mul_neg_of_pos_of_neg hx hy;simp [hy];omega
 ·subst hy;simp
 ·have:=Int.mul_pos hx hy;simp;omega
theorem Qij {z:Int} (hs:4*(dg z.natAbs).length<=1000000000) (hl:(txt z.natAbs).length<=1000000000):z6.F (dg z.natAbs) (neg z)=some (if z<0 then 45::txt z.natAbs else txt z.natAbs):=by
 unfold z6.F
 rw [Qk8 hs]
 simp only [Zb]
 by_cases h:z<0
 ·rw [bif_t h,if_pos (by simp;omega),if_pos h];rfl
 ·rw [Qb h,if_neg h]
theorem Qb7 {m n:Int}:cmpI m n>=0↔n<=m:=by unfold cmpI;split<;>(try split)<;>omega
theorem Qyf (x y:Int):cmpI (x-y) 0=cmpI x y:=by
 unfold cmpI;split<;>split<;>(try split)<;>(try split)<;>first|rfl|omega
abbrev LB:Nat:=18446744073709551616
abbrev lb (n:Nat):J0:=toB LB n
theorem bL:2<=LB:=by decide
theorem Qi7 (n:Nat):(((lb n).length:Nat):Int)=0↔n=0:=by
 constructor
 ·intro h;exact (toB_nil bL).1 (List.length_eq_zero_iff.1 (Int.ofNat_eq_zero.1 h))
 ·rintro rfl;simp [lb,toB_zero]
theorem Ws (n:Nat):z23.F (lb n)=some (decide (n=0)):=by
 unfold z23.F;congr 1;exact decide_eq_decide.2 (Qi7 n)
theorem Ql5 {l:J0} {i:Nat}:z32.F l (i:Int)=some (l.getD i 0):=by
 unfold z32.F
 by_cases h:(i:Int)>=(l.length:Int)
 ·rw [bif_t h]
  have:l.getD i 0=0:=by simp [List.getD,Z17 (show l.length<=i by omega)]
  rw [this]
 ·rw [Qb h,if_pos (by omega),Zi]
theorem Qe4 {l:J0} (hl:inB LB l) (hs:Qam l):z26.F l=some (lb (valB LB l).toNat):=by
 have h:=Qku bL hl hs
 unfold z138.F at h
 unfold z26.F
 have e:z26.l0 l=z138.l0 l:=rfl
 rw [e]
 revert h
 cases z138.l0 l ((l.length:Nat):Int) with
 |none=>exact id
 |
  some o=>
  simp only [Zb]
  intro h
  split at h
  ·rename_i hc
   rw [if_pos ⟨hc.1,Z99 _,hc.2⟩];exact h
  ·simp at h
theorem Qd1 (x y:Int):z16.F x y=some (cmpI x y):=by
 unfold z16.F z15.F cmpI
 simp only [Zb,decide_true,Zn,Zc]
 by_cases h:x<y
 ·rw [bif_t h,if_pos h]
 ·rw [Qb h,if_neg h]
  by_cases h':x>y
  ·rw [bif_t h',if_neg (by omega)]
  ·rw [Qb h',if_pos (by omega)]
theorem Qk1 (x y:Int):z34.F x y=some (cmpI x y):=Qd1 x y
theorem Qmv {a b:J0} (ha:inB LB a) (hb:inB LB b) (hl:a.length=b.length) (hal:a.length<=900000000):∀k:Nat,k<=a.length ->
  ∃o:Int⊕Int,Runs (λrec x=>z35.l0P a b rec some x) ((k:Int)-1) o/\(match o with | .inl _=>(0:Int) | .inr q=>q)=cmpI (valB LB (a.take k)) (valB LB (b.take k))
 |0,_=>⟨.inl (-1),.done λrec=>by unfold z35.l0P;rw [Qb (by omega)];rfl,by simp [cmpI,valB]⟩
 |
  k+1,hk=>by
  have hka:k<a.length:=by omega
  have hkb:k<b.length:=by omega
  have e0:((k+1:Nat):Int)-1=(k:Int):=by omega
  obtain ⟨p1,p2⟩:=Qkp bL ha hb hka hkb
  obtain ⟨p3,_⟩:=Qkp bL hb ha hkb hka
  have c1:(0:Int)<=(k:Int)/\(k:Int)<(a.length:Int):=by omega
  have c2:(0:Int)<=(k:Int)/\(k:Int)<(b.length:Int):=by omega
  rw [e0]
  by_cases h:a[k]=b[k]
  ·obtain ⟨o,r1,r2⟩:=Qmv ha hb hl hal k (by omega)
   refine ⟨o,.step (λrec=>?_) r1,?_⟩
   ·unfold z35.l0P
    rw [bif_t (by omega),Zi,W1 hka,W1 hkb,if_pos c1,if_pos c2,Qk1]
    simp only [Zb]
    have:cmpI a[k] b[k]=0:=by unfold cmpI;rw [if_neg (by omega),if_pos h]
    rw [this,Qc (by omega) (by omega)]
    rfl
   ·rw [r2]
    have:=p2 h
    unfold cmpI
    split<;>split<;>(try split)<;>(try split)<;>first|rfl|omega
  ·refine ⟨.inr (cmpI a[k] b[k]),.done λrec=>?_,?_⟩
   ·unfold z35.l0P
    rw [bif_t (by omega),Zi,W1 hka,W1 hkb,if_pos c1,if_pos c2,Qk1]
    simp only [Zb]
    have:¬cmpI a[k] b[k]=0:=by unfold cmpI;split<;>(try split)<;>omega
    rw [Zf this]
    rfl
   ·rcases Int.lt_or_gt_of_ne h with h'|h'
    ·have:=p1 h'
     unfold cmpI;rw [if_pos h',if_pos this]
    ·have:=p3 h'
     unfold cmpI;rw [if_neg (by omega),if_neg (by omega),if_neg (by omega),if_neg (by omega)]
theorem Qb3 {m n:Nat} (hl:(lb m).length<=900000000):z35.F (lb m) (lb n)=some (cmpI m n):=by
 unfold z35.F
 rw [Qd1]
 simp only [Zb]
 by_cases he:(lb m).length=(lb n).length
 ·have e1:cmpI ((lb m).length:Int) ((lb n).length:Int)=0:=by unfold cmpI;rw [if_neg (by omega),if_pos (by omega)]
  rw [e1]
  simp only [decide_true,Zn,Zc]
  obtain ⟨o,r1,r2⟩:=Qmv (a:=lb m) (b:=lb n) (Q3 bL m) (Q3 bL n) he hl (lb m).length (Z4 _)
  rw [Qc (by omega) (by omega)]
  unfold z35.l0
  rw [r1.lfp]
  simp only [Zb]
  rw [Z100,he,Z100,Wj bL,Wj bL] at r2
  rw [<-r2]
  cases o<;>rfl
 ·rcases Nat.lt_or_gt_of_ne he with h|h
  ·have:=Qfs bL h
   have e1:cmpI ((lb m).length:Int) ((lb n).length:Int) = -1:=by unfold cmpI;rw [if_pos (by omega)]
   have e2:cmpI (m:Int) n = -1:=by unfold cmpI;rw [if_pos (by omega)]
   rw [e1,e2];rfl
  ·have:=Qfs bL h
   have e1:cmpI ((lb m).length:Int) ((lb n).length:Int)=1:=by unfold cmpI;rw [if_neg (by omega),if_neg (by omega)]
   have e2:cmpI (m:Int) n=1:=by unfold cmpI;rw [if_neg (by omega),if_neg (by omega)]
   rw [e1,e2];rfl
theorem Qhv (a:Int) (h0:0<=a):wr .u64 ((BitVec.ofInt (IntKind.bits .u64) a &&& BitVec.ofInt (IntKind.bits .u64) (4294967295:Int)).toNat:Int)=a%4294967296:=by
 have e:(BitVec.ofInt (IntKind.bits .u64) a &&& BitVec.ofInt (IntKind.bits .u64) (4294967295:Int)).toNat=(a%4294967296).toNat:=by
  rw [BitVec.toNat_and]
  have e1:(BitVec.ofInt (IntKind.bits .u64) (4294967295:Int)).toNat=2^32-1:=rfl
  have e2:(BitVec.ofInt (IntKind.bits .u64) a).toNat=(a%18446744073709551616).toNat:=by
   rw [BitVec.toNat_ofInt];rfl
  rw [e1,Nat.and_two_pow_sub_one_eq_mod,e2]
  omega
 rw [e,Qo (by omega) (by omega)];omega
theorem Qq6 (a:Int):Int.fdiv a (2^(min 32 (64:Nat)))=a/4294967296:=by
 rw [Z89 _ (by decide)];rfl
theorem Qhe {a b:Int} (ha:0<=a/\a<18446744073709551616) (hb:0<=b/\b<18446744073709551616):z44.F a b=some (a*b/18446744073709551616,a*b%18446744073709551616):=by
 unfold z44.F
 simp only [Qq6]
 rw [Qhv a ha.1,Qhv b hb.1]
 generalize hx1:a/4294967296=x1
 generalize hx0:a%4294967296=x0
 generalize hy1:b/4294967296=y1
 generalize hy0:b%4294967296=y0
 have ea:a=4294967296*x1+x0:=by omega
 have eb:b=4294967296*y1+y0:=by omega
 have bx1:0<=x1/\x1<=4294967295:=by omega
 have bx0:0<=x0/\x0<=4294967295:=by omega
 have by1:0<=y1/\y1<=4294967295:=by omega
 have by0:0<=y0/\y0<=4294967295:=by omega
 have m00:0<=x0*y0/\x0*y0<=4294967295*4294967295:=⟨Z42 bx0.1 by0.1,Z105 bx0.2 by0.2 by0.1 (by decide)⟩
 have m10:0<=x1*y0/\x1*y0<=4294967295*4294967295:=⟨Z42 bx1.1 by0.1,Z105 bx1.2 by0.2 by0.1 (by decide)⟩
 have m01:0<=x0*y1/\x0*y1<=4294967295*4294967295:=⟨Z42 bx0.1 by1.1,Z105 bx0.2 by1.2 by1.1 (by decide)⟩
 have m11:0<=x1*y1/\x1*y1<=4294967295*4294967295:=⟨Z42 bx1.1 by1.1,Z105 bx1.2 by1.2 by1.1 (by decide)⟩
 have eab:a*b=18446744073709551616*(x1*y1)+4294967296*(x1*y0)+4294967296*(x0*y1)+x0*y0:=by rw [ea,eb];grind
 rw [eab]
 generalize x0*y0=p00 at *
 generalize x1*y0=p10 at *
 generalize x0*y1=p01 at *
 generalize x1*y1=p11 at *
 rw [Qo (n:=p00) (by omega) (by omega),Qo (n:=p10) (by omega) (by omega),Qo (n:=p01) (by omega) (by omega),Qo (n:=p11) (by omega) (by omega)]
 rw [Qo (n:=p10+p00/4294967296) (by omega) (by omega)]
 rw [Qhv _ (by omega)]
 rw [Qo (n:=p11+(p10+p00/4294967296)/4294967296) (by omega) (by omega)]
 rw [Qo (n:=(p10+p00/4294967296)%4294967296+p01) (by omega) (by omega)]
 rw [Qo (n:=p11+(p10+p00/4294967296)/4294967296+((p10+p00/4294967296)%4294967296+p01)/4294967296) (by omega) (by omega)]
 rw [Wv]
 congr 2;omega
theorem Qcl {x y c:Int} (hx:0<=x) (hy:0<=y) (hc:0<=c/\c<=1):z0.F x y c=some ((x+y+c)%18446744073709551616,(x+y+c)/18446744073709551616):=by
 unfold z0.F;rw [if_pos (by omega)]
theorem Qa5 {s:J0} {i j:Nat} {x:Int} (h:i≠j):(s.set i x).getD j 0=s.getD j 0:=by
 simp [List.getD,Z102 h]
theorem Qc5 (n j:Nat):(List.replicate n (0:Int)).getD j 0=0:=by
 simp only [List.getD,List.getElem?_replicate];split<;>rfl
theorem Qne {a b:J0} {n:Nat} (ha:inB LB a) (hb:inB LB b) (hn:n<=900000000) (han:a.length<n) (hbn:b.length<n) :
  ∀
   (f i:Nat) (c:Int) (s:J0),i+f=n->s.length=n->inB LB s->(∀j,i<=j->s.getD j 0=0)->0<=c/\c<=1 ->
   valB LB s+(c+valB LB (a.drop i)+valB LB (b.drop i))*(LB^i:Nat)=valB LB a+valB LB b ->
   ∃c' s',Runs (λrec x=>z52.l0P (n:Int) a b rec some x) (c,(i:Int),s) (c',(n:Int),s')/\inB LB s'/\s'.length=n/\(0<=c'/\c'<=1)/\valB LB s'+c'*(LB^n:Nat)=valB LB a+valB LB b
 |
  0,i,c,s,hf,hl,hs,hz,hc,hv=>by
  have:i=n:=by omega
  subst this
  refine ⟨c,s,.done λrec=>?_,hs,hl,hc,?_⟩
  ·unfold z52.l0P
   simp only
   rw [Qb (by omega)]
  ·rw [Z26 (by omega),Z26 (by omega)] at hv
   simpa [valB] using hv
 |
  f+1,i,c,s,hf,hl,hs,hz,hc,hv=>by
  have hLB:((LB:Nat):Int)=18446744073709551616:=rfl
  have h1:=Q8 (B:=LB) (by decide) ha i
  have h2:=Q8 (B:=LB) (by decide) hb i
  have hi:i<s.length:=by omega
  obtain ⟨c',s',r1,r2,r3,r4,r5⟩:=Qne ha hb hn han hbn f (i+1) ((a.getD i 0+b.getD i 0+c)/18446744073709551616) (s.set i ((a.getD i 0+b.getD i 0+c)%18446744073709551616)) (by omega) (by simp [hl]) (Yc hs (by omega))
   (λj hj=>by rw [Qa5 (by omega)];exact hz j (by omega)) (by omega) (by
    rw [Yh hi,hz i (Z4 _),<-hv,Wf a i,Wf b i,Z44,Z24 (LB^i) LB,Z14]
    generalize hx:a.getD i 0+b.getD i 0+c=x
    have e2:x=18446744073709551616*(x/18446744073709551616)+x%18446744073709551616:=(Z83 x _).symm
    have e3:((LB:Nat):Int)=18446744073709551616:=rfl
    rw [e3]
    generalize x/18446744073709551616=q at *
    generalize x%18446744073709551616=m at *
    subst e2
    generalize ((LB^i:Nat):Int)=p
    generalize valB LB (a.drop (i+1))=w
    generalize valB LB (b.drop (i+1))=w'
    generalize a.getD i 0=u at *
    generalize b.getD i 0=v at *
    have hc':c=18446744073709551616*q+m-u-v:=by omega
    subst hc'
    grind)
  refine ⟨c',s',.step (λrec=>?_) r1,r2,r3,r4,r5⟩
  unfold z52.l0P
  simp only [Ql5,Zb]
  rw [bif_t (by omega),Qcl h1.1 h2.1 hc]
  simp only [Zb]
  rw [if_pos (by omega),Zi,if_pos hi,Qc (by omega) (by omega)]
  rfl
theorem Qp5 {n k:Nat} (h:(lb n).length<=k):n<LB^k:=Z16 (Qbm bL) (Z33 (by decide) h)
theorem Qcc {m n:Nat} (hl:(lb m).length+(lb n).length<=800000000):z52.F (lb m) (lb n)=some (lb (m+n)):=by
 unfold z52.F
 generalize hk:max (lb m).length (lb n).length=k
 have e0:(if (((lb n).length:Nat):Int)>(((lb m).length:Nat):Int) then (((lb n).length:Nat):Int) else (((lb m).length:Nat):Int))=(k:Int):=by split<;>omega
 have e1:wr .i64 ((k:Int)+1)=((k+1:Nat):Int):=by rw [Qc (by omega) (by omega)];omega
 rw [e0,e1,if_pos (by omega),Zi,Z73]
 obtain ⟨c',s',r1,r2,r3,r4,r5⟩:=Qne (a:=lb m) (b:=lb n) (n:=k+1) (Q3 bL m) (Q3 bL n) (by omega) (by omega) (by omega) (k+1) 0 0 (List.replicate (k+1) 0) (by omega) (by simp) (Qbi (by decide) _)
  (λj _=>Qc5 _ j) (by omega) (by rw [Qca];simp)
 have e:z52.l0 ((k+1:Nat):Int) (lb m) (lb n) ((0:Int),(0:Int),List.replicate (k+1) 0)=some (c',((k+1:Nat):Int),s'):=r1.lfp
 rw [e]
 simp only [Zb]
 rw [Wj bL,Wj bL] at r5
 have hm:m<LB^k:=Qp5 (by omega)
 have hn:n<LB^k:=Qp5 (by omega)
 have hc:c'=0:=by
  rcases (show c'=0\/c'=1 by omega) with h|h
  ·exact h
  ·exfalso
   subst h
   have:=Wd r2
   have e3:((LB^(k+1):Nat):Int)=(LB^k:Nat)*18446744073709551616:=by rw [Z44,Z14];rfl
   rw [e3] at r5
   omega
 subst hc
 rw [Qe4 r2 (by show List.length _<=_;omega)]
 simp only [Zb]
 congr 2;omega
theorem Qli {a b:J0} (ha:inB LB a) (hb:inB LB b) (hal:a.length<=900000000) :
  ∀
   (f i:Nat) (c:Int) (s:J0),i+f=a.length->s.length=a.length->inB LB s->(∀j,i<=j->s.getD j 0=0)->0<=c/\c<=1 ->
   valB LB s-c*(LB^i:Nat)=valB LB (a.take i)-valB LB (b.take i) ->
   ∃c' s',Runs (λrec x=>z36.l0P (a.length:Int) a b rec some x) (c,(i:Int),s) (c',(a.length:Int),s')/\inB LB s'/\s'.length=a.length/\(0<=c'/\c'<=1)/\valB LB s'-c'*(LB^a.length:Nat)=valB LB a-valB LB (b.take a.length)
 |
  0,i,c,s,hf,hl,hs,hz,hc,hv=>by
  have:i=a.length:=by omega
  subst this
  refine ⟨c,s,.done λrec=>?_,hs,hl,hc,by rwa [Z100] at hv⟩
  unfold z36.l0P
  simp only
  rw [Qb (by omega)]
 |
  f+1,i,c,s,hf,hl,hs,hz,hc,hv=>by
  have hi:i<a.length:=by omega
  have his:i<s.length:=by omega
  have hLB:((LB:Nat):Int)=18446744073709551616:=rfl
  have h1:=Q8 (B:=LB) (by decide) ha i
  have h2:=Q8 (B:=LB) (by decide) hb i
  have eb:valB LB (b.take (i+1))=valB LB (b.take i)+(LB^i:Nat)*b.getD i 0:=by
   by_cases hb':i<b.length
   ·rw [Jz hb',W1 hb']
   ·rw [Z28 (by omega),Z28 (by omega)]
    simp [List.getD,Z17 (show b.length<=i by omega)]
  have hsub:z1.F (a.getD i 0) (b.getD i 0) c=some ((a.getD i 0-b.getD i 0-c)%18446744073709551616,if a.getD i 0<b.getD i 0+c then 1 else 0):=by
   unfold z1.F;rw [if_pos (by omega)]
  obtain ⟨c',s',r1,r2,r3,r4,r5⟩:=Qli ha hb hal f (i+1) (if a.getD i 0<b.getD i 0+c then 1 else 0) (s.set i ((a.getD i 0-b.getD i 0-c)%18446744073709551616)) (by omega) (by simp [hl]) (Yc hs (by omega))
   (λj hj=>by rw [Qa5 (by omega)];exact hz j (by omega)) (by split<;>omega) (by
    rw [Yh his,hz i (Z4 _),Jz hi,eb,Z44,Z24 (LB^i) LB,Z14,<-W1 hi]
    have e3:((LB:Nat):Int)=18446744073709551616:=rfl
    rw [e3]
    have e4:(a.getD i 0-b.getD i 0-c)%18446744073709551616=a.getD i 0-b.getD i 0-c+(if a.getD i 0<b.getD i 0+c then 1 else 0)*18446744073709551616:=by split<;>omega
    rw [e4]
    generalize (if a.getD i 0<b.getD i 0+c then (1:Int) else 0)=q
    generalize ((LB^i:Nat):Int)=p at *
    grind)
  refine ⟨c',s',.step (λrec=>?_) r1,r2,r3,r4,r5⟩
  unfold z36.l0P
  simp only [Ql5,Zb]
  rw [bif_t (by omega),if_pos (by omega),Zi,hsub]
  simp only [Zb]
  rw [if_pos (by omega),if_pos his,Qc (by omega) (by omega)]
  rfl
theorem Qgi {m n:Nat} (hl:(lb m).length<=800000000):z36.F (lb m) (lb n)=some (if n<=m then (lb (m-n),true) else ([],false)):=by
 unfold z36.F
 rw [Qb3 (by omega)]
 simp only [Zb]
 by_cases h:n<=m
 ·have h0:¬cmpI (m:Int) n<0:=by unfold cmpI;split<;>(try split)<;>omega
  rw [Qb h0,if_pos h,if_pos (by omega),Zi,Z73]
  obtain ⟨c',s',r1,r2,r3,r4,r5⟩:=Qli (a:=lb m) (b:=lb n) (Q3 bL m) (Q3 bL n) (by omega) (lb m).length 0 0 (List.replicate (lb m).length 0) (by omega) (by simp) (Qbi (by decide) _)
   (λj _=>Qc5 _ j) (by omega) (by rw [Qca];simp [valB])
  have hlen:(lb n).length<=(lb m).length:=by
   rcases Z39 (lb m).length (lb n).length with h'|h'
   ·have:=Qfs bL h';omega
   ·exact h'
  rw [Z28 hlen,Wj bL,Wj bL] at r5
  have h1:=W8 bL r2
  rw [r3] at h1
  have hc:c'=0:=by
   rcases (show c'=0\/c'=1 by omega) with h|h
   ·exact h
   ·subst h;omega
  subst hc
  have e:z36.l0 ((lb m).length:Int) (lb m) (lb n) ((0:Int),(0:Int),List.replicate (lb m).length 0)=some ((0:Int),((lb m).length:Int),s'):=r1.lfp
  rw [e]
  simp only [Zb]
  rw [Qe4 r2 (by show List.length _<=_;omega)]
  simp only [Zb]
  congr 3;omega
 ·have h0:cmpI (m:Int) n<0:=by unfold cmpI;rw [if_pos (by omega)];decide
  rw [bif_t h0,if_neg h]
theorem Qb2 {l:J0} (hl:inB LB l) (hs:Qam l):z27.F l=some (lb (valB LB l).toNat):=by
 have hs':l.length<=1000000000:=hs
 unfold z27.F
 rw [if_pos (by omega),Qe4 hl hs];rfl
theorem Yd {x:Int} (h:0<=x/\x<18446744073709551616):z27.F [x]=some (lb x.toNat):=by
 rw [Qb2 (Wu.2 ⟨h,inB_nil _⟩) (by show [x].length<=_;simp)]
 simp [valB]
theorem Qtx {n:Nat} (hs:Qam (lb n)):z27.F (lb n)=some (lb n):=by
 rw [Qb2 (Q3 bL n) hs,Wj bL];rfl
theorem Jm {l:J0} (hs:Qam l):z37.F l=some l:=by
 have hs':l.length<=1000000000:=hs
 unfold z37.F
 rw [if_pos (by omega)]
theorem Qpw {x:Int} {a:J0} {off tot:Nat} (hx:0<=x/\x<18446744073709551616) (ha:inB LB a) (ht:tot<=1800000000) (hot:off+a.length<tot) :
  ∀
   (f i:Nat) (c:Int) (s:J0),i+f=a.length->s.length=tot->inB LB s->0<=c/\c<18446744073709551616 ->
   ∃
    c' s',Runs (λrec y=>z50.l0aP x off (tot-off) a (a.length:Int) rec some y) (c,(i:Int),s) (c',(a.length:Int),s')/\inB LB s'/\s'.length=tot/\(0<=c'/\c'<18446744073709551616) /\
    (∀j,off+a.length<=j->s'.getD j 0=s.getD j 0)/\valB LB s'+c'*(LB^(off+a.length):Nat)=valB LB s+(c+x*valB LB (a.drop i))*(LB^(off+i):Nat)
 |
  0,i,c,s,hf,hl,hs,hc=>by
  have:i=a.length:=by omega
  subst this
  refine ⟨c,s,.done λrec=>?_,hs,hl,hc,λj _=>rfl,?_⟩
  ·unfold z50.l0aP
   simp only
   rw [Qb (by omega)]
  ·rw [Z26 (Z4 _)];simp [valB]
 |
  f+1,i,c,s,hf,hl,hs,hc=>by
  have hi:i<a.length:=by omega
  have his:off+i<s.length:=by omega
  have h1:=Q8 (B:=LB) (by decide) ha i
  have h2:=Q8 (B:=LB) (by decide) hs (off+i)
  have h1':0<=a.getD i 0/\a.getD i 0<18446744073709551616:=h1
  have h2':0<=s.getD (off+i) 0/\s.getD (off+i) 0<18446744073709551616:=h2
  have hp:0<=x*a.getD i 0/\x*a.getD i 0<=18446744073709551615*18446744073709551615:=⟨Z42 hx.1 h1'.1,Z105 (by omega) (by omega) h1'.1 (by decide)⟩
  obtain ⟨c',s',r1,r2,r3,r4,r5,r6⟩:=Qpw hx ha ht hot f (i+1) ((x*a.getD i 0+c+s.getD (off+i) 0)/18446744073709551616) (s.set (off+i) ((x*a.getD i 0+c+s.getD (off+i) 0)%18446744073709551616))
   (by omega) (by simp [hl]) (Yc hs (by show 0<=_/\_<(18446744073709551616:Int);omega)) (by omega)
  refine ⟨c',s',.step (λrec=>?_) r1,r2,r3,r4,λj hj=>?_,?_⟩
  ·unfold z50.l0aP
   simp only
   rw [bif_t (by omega),if_pos (by omega),Zi,Qhe hx h1']
   simp only [Zb]
   rw [Qcl (by omega) hc.1 (by omega)]
   simp only [Zb]
   rw [if_pos (by omega),if_pos his,Qcl h2'.1 (by omega) (by omega)]
   simp only [Zb]
   rw [if_pos (by omega),if_pos his]
   generalize x*a.getD i 0=p at hp ⊢
   generalize s.getD (off+i) 0=u at h2' ⊢
   rw [Qo (n:=p/18446744073709551616+_) (by omega) (by omega),Qo (by omega) (by omega),Qc (by omega) (by omega)]
   congr 2
   ·omega
   ·congr 2;omega
  ·rw [r5 j hj,Qa5 (by omega)]
  ·rw [r6,Yh his,Wf a i]
   have e1:((LB^(off+(i+1)):Nat):Int)=18446744073709551616*(LB^(off+i):Nat):=by
    rw [<-Z36,Z44,Z24,Z14];rfl
   rw [e1]
   have e3:((LB:Nat):Int)=18446744073709551616:=rfl
   rw [e3]
   generalize hy:x*a.getD i 0+c+s.getD (off+i) 0=y
   have e2:y=18446744073709551616*(y/18446744073709551616)+y%18446744073709551616:=(Z83 y _).symm
   generalize y/18446744073709551616=q at *
   generalize y%18446744073709551616=m at *
   generalize ((LB^(off+i):Nat):Int)=p
   generalize valB LB (a.drop (i+1))=w
   generalize valB LB s=z
   generalize s.getD (off+i) 0=u at *
   generalize a.getD i 0=v at *
   have hc':c=18446744073709551616*q+m-u-x*v:=by omega
   subst hc'
   grind
theorem Qks {a b:J0} {tot:Nat} (ha:inB LB a) (hb:inB LB b) (ht:tot<=1800000000) (hab:tot=a.length+b.length+1) :
  ∀
   (f i:Nat) (s:J0),i+f=b.length->s.length=tot->inB LB s->(∀j,i+a.length<=j->s.getD j 0=0)->valB LB s=valB LB a*valB LB (b.take i) ->
   ∃s',Runs (λrec y=>z50.l0P b (b.length:Int) a rec some y) ((i:Int),s) ((b.length:Int),s')/\inB LB s'/\s'.length=tot/\valB LB s'=valB LB a*valB LB b
 |
  0,i,s,hf,hl,hs,hz,hv=>by
  have:i=b.length:=by omega
  subst this
  refine ⟨s,.done λrec=>?_,hs,hl,by rwa [Z100] at hv⟩
  unfold z50.l0P
  simp only
  rw [Qb (by omega)]
 |
  f+1,i,s,hf,hl,hs,hz,hv=>by
  have hi:i<b.length:=by omega
  have hx:=Q8 (B:=LB) (by decide) hb i
  have hx':0<=b.getD i 0/\b.getD i 0<18446744073709551616:=hx
  obtain ⟨c,s1,r1,r2,r3,r4,r5,r6⟩:=Qpw (x:=b.getD i 0) (a:=a) (off:=i) (tot:=tot) hx' ha ht (by omega) a.length 0 0 s (by omega) hl hs (by omega)
  have e0:z50.l0a (b.getD i 0) i (tot-i) a (a.length:Int) ((0:Int),(0:Int),s)=some (c,(a.length:Int),s1):=r1.lfp
  have hz1:s1.getD (i+a.length) 0=0:=by rw [r5 _ (Z4 _)];exact hz _ (Z4 _)
  have hi1:i+a.length<s1.length:=by omega
  obtain ⟨s',q1,q2,q3,q4⟩:=Qks ha hb ht hab f (i+1) (s1.set (i+a.length) c) (by omega) (by simp [r3]) (Yc r2 r4)
   (λj hj=>by rw [Qa5 (by omega),r5 j (by omega)];exact hz j (by omega)) (by
    rw [Yh hi1,hz1,Jz hi,Int.mul_add,<-hv,<-W1 hi]
    simp only [Z34,Z77,Int.zero_add] at r6
    generalize ((LB^(i+a.length):Nat):Int)=p at *
    generalize ((LB^i:Nat):Int)=p2 at *
    grind)
  refine ⟨s',.step (λrec=>?_) q1,q2,q3,q4⟩
  unfold z50.l0P
  simp only
  rw [bif_t (by omega),if_pos (by omega),if_pos (by omega),Zi,hl,e0]
  simp only [Zb,Zi]
  rw [if_pos (by omega),if_pos hi1,if_pos (by omega),if_pos hi1,hz1,Qc (by omega) (by omega),Qo (by omega) (by omega),Int.zero_add]
  rfl
theorem Qq5 {a b:J0} (ha:inB LB a) (hb:inB LB b) (hl:a.length+b.length<=800000000):z50.F a b=some (lb (valB LB a*valB LB b).toNat):=by
 obtain ⟨s',r1,r2,r3,r4⟩:=Qks (tot:=a.length+b.length+1) ha hb (by omega) rfl b.length 0 (List.replicate (a.length+b.length+1) 0) (by omega) (by simp) (Qbi (by decide) _)
  (λj _=>Qc5 _ j) (by rw [Qca];simp [valB])
 have e0:z50.l0 b (b.length:Int) a ((0:Int),List.replicate (a.length+b.length+1) 0)=some ((b.length:Int),s'):=r1.lfp
 have e1:wr .i64 (wr .i64 ((a.length:Int)+(b.length:Int))+1)=((a.length+b.length+1:Nat):Int):=by
  rw [Qc (n:=(a.length:Int)+(b.length:Int)) (by omega) (by omega),Qc (by omega) (by omega)];omega
 unfold z50.F
 rw [e1,if_pos (by omega),Zi,e0]
 simp only [Zb]
 rw [Qe4 r2 (by show List.length _<=_;omega),r4]
 rfl
theorem Je {m n:Nat} (hl:(lb m).length+(lb n).length<=800000000):z50.F (lb m) (lb n)=some (lb (m*n)):=by
 rw [Qq5 (Q3 bL m) (Q3 bL n) hl,Wj bL,Wj bL]
 congr 2
theorem whole_Of (n:Nat) (b:Bool):z25.F (lb n) b=some (lb n,b&&decide (0<n)):=by
 unfold z25.F
 cases b
 ·rfl
 ·rw [Ws]
  simp only [Zd,Z81,Zb]
  congr 2
  by_cases h:n=0
  ·subst h;rfl
  ·rw [Zf h,Zt (by omega:0<n)];rfl
theorem whole_Of' {z:Int} {b:Bool} (h:(b=true/\z<=0)\/(b=false/\0<=z)):z25.F (lb z.natAbs) b=some (lb z.natAbs,neg z):=by
 rw [whole_Of]
 congr 2
 rcases h with ⟨rfl,h⟩|⟨rfl,h⟩
 ·rw [Z81];exact decide_eq_decide.2 (by omega)
 ·rw [Z59];symm;exact Zf (by omega)
theorem Yp {z:Int} {n:Nat} {b:Bool} (hn:n=z.natAbs) (h:(b=true/\z<=0)\/(b=false/\0<=z)):z25.F (lb n) b=some (lb z.natAbs,neg z):=by
 subst hn;exact whole_Of' h
theorem whole_From {z:Int} (h:-9223372036854775808<=z/\z<9223372036854775808):z28.F z=some (lb z.natAbs,neg z):=by
 unfold z28.F
 by_cases hz:z<0
 ·have e:wr .u64 (0-wr .u64 z)=((z.natAbs:Nat):Int):=by rw [Wv z,Wv];omega
  rw [bif_t hz,e,Yd (by omega)]
  simp only [Zb,Zi]
  rw [whole_Of' (z:=z) (.inl ⟨rfl,by omega⟩)];rfl
 ·have e:wr .u64 z=((z.natAbs:Nat):Int):=by rw [Qo (by omega) (by omega)];omega
  rw [Qb hz,e,Yd (by omega)]
  simp only [Zb,Zi]
  rw [whole_Of' (z:=z) (.inr ⟨rfl,by omega⟩)];rfl
theorem Qps (z:Int):z30.F (lb z.natAbs) (neg z)=some (lb (-z).natAbs,neg (-z)):=by
 unfold z30.F
 rw [Yp (z:=-z) (by omega) (by by_cases h:z<0;exact .inr ⟨by simp [neg,h],by omega⟩;exact .inl ⟨by simp [neg,h],by omega⟩)]
 rfl
theorem W6 (z:Int):z24.F (lb z.natAbs) (neg z)=some (cmpI z 0):=by
 unfold z24.F cmpI
 rw [Ws]
 simp only [Zb]
 by_cases h0:z=0
 ·subst h0;rfl
 ·rw [Qb (by omega)]
  by_cases h:z<0
  ·rw [bif_t h,if_pos h]
  ·rw [Qb h,if_neg h,if_neg h0]
theorem Qdo {x y:Int} (hl:(lb x.natAbs).length+(lb y.natAbs).length<=800000000):z65.F (lb x.natAbs) (neg x) (lb y.natAbs) (neg y)=some (lb (x+y).natAbs,neg (x+y)):=by
 unfold z65.F
 by_cases hs:neg x=neg y
 ·have hs':(x<0↔y<0):=by simpa [neg] using hs
  rw [bif_t hs,Qcc hl]
  simp only [Zb]
  rw [Yp (z:=x+y) (by omega) (by by_cases hx:x<0;exact .inl ⟨Zt hx,by omega⟩;exact .inr ⟨Zf hx,by omega⟩)]
  rfl
 ·have hs':¬(x<0↔y<0):=by simpa [neg] using hs
  rw [Qb hs,Qgi (by omega)]
  simp only [Zb]
  by_cases hc:y.natAbs<=x.natAbs
  ·rw [if_pos hc]
   simp only [Zd]
   rw [Yp (z:=x+y) (by omega) (by by_cases hx:x<0;exact .inl ⟨Zt hx,by omega⟩;exact .inr ⟨Zf hx,by omega⟩)]
   rfl
  ·rw [if_neg hc]
   simp only [Zc]
   rw [Qgi (by omega),if_pos (by omega)]
   simp only [Zb]
   rw [Yp (z:=x+y) (by omega) (by by_cases hy:y<0;exact .inl ⟨Zt hy,by omega⟩;exact .inr ⟨Zf hy,by omega⟩)]
   rfl
theorem Qga {x y:Int} (hl:(lb x.natAbs).length+(lb y.natAbs).length<=800000000):z66.F (lb x.natAbs) (neg x) (lb y.natAbs) (neg y)=some (lb (x-y).natAbs,neg (x-y)):=by
 unfold z66.F
 rw [Qps]
 simp only [Zb]
 rw [Qdo (by rw [Int.natAbs_neg];exact hl)]
 rfl
theorem Qdg {x y:Int} (hl:(lb x.natAbs).length+(lb y.natAbs).length<=800000000):z67.F (lb x.natAbs) (neg x) (lb y.natAbs) (neg y)=some (cmpI x y):=by
 unfold z67.F
 rw [Qga hl]
 simp only [Zb]
 rw [W6,Qyf]
 rfl
theorem neg_mul (x y:Int):((!decide (neg x=neg y))&&decide (0<x.natAbs*y.natAbs))=neg (x*y):=by
 have h0:0<x.natAbs*y.natAbs↔x≠0/\y≠0:=by
  constructor
  ·intro h;exact ⟨by rintro rfl;simp at h,by rintro rfl;simp at h⟩
  ·rintro ⟨h1,h2⟩;exact Z49 (by omega) (by omega)
 rw [Bool.eq_iff_iff]
 simp only [Z7,Z75,decide_eq_true_eq,decide_eq_false_iff_not,h0]
 rcases Z84 x 0 with hx|hx|hx<;>rcases Z84 y 0 with hy|hy|hy
 ·have:=Int.mul_pos_of_neg_of_neg hx hy;simp [hx,hy];omega
 ·subst hy;simp
 ·have:=Int.mul_neg_of_neg_of_pos hx hy;simp [hx];omega
 ·subst hx;simp
 ·subst hx;simp
 ·subst hx;simp
 ·have:=Int.mul_neg_of_pos_of_neg hx hy;simp [hy];omega
 ·subst hy;simp
 ·have:=Int.mul_pos hx hy;simp;omega
theorem Qaa {x y:Int} (hl:(lb x.natAbs).length+(lb y.natAbs).length<=800000000):z51.F (lb x.natAbs) (neg x) (lb y.natAbs) (neg y)=some (lb (x*y).natAbs,neg (x*y)):=by
 unfold z51.F
 rw [Je hl]
 simp only [Zb]
 rw [whole_Of,neg_mul,Z106]
 rfl
end Go.Proofs.YtihfdjkjpncjfaaGreatDoor.A
end
